/- What is proved: the law ConformCompares answers true for all values. No condition. -/
import Derived.Test.YtpndjpjpmcehbaaTtc1
import Derived.Test.YtpndjpjpmcehbaaEvZd
namespace Go.Proofs.YtpndjpjpmcehbaaTu
open Go Go.Proofs Go.Proofs.YtpndjpjpmcehbaaEv Go.Proofs.YtpndjpjpmcehbaaTk
set_option maxRecDepth 100000
set_option linter.unusedSimpArgs false
set_option linter.unusedVariables false
noncomputable abbrev w10L (a0 : YtpndjpjpmcehbaaTu.Tr) (a1 : List ((Int × (Int × Int) × Int) × Int × Int)) (a2 : Bool) := evFuncV Try.prog TC3 noCuts Try.f10 (killA 0 [sTrack, rTN]) (showA 0 [sTrack, rTN] (a0, ((a1, a2), ()))).1 (showA 0 [sTrack, rTN] (a0, ((a1, a2), ()))).2
theorem w10 (a0 : YtpndjpjpmcehbaaTu.Tr) (a1 : List ((Int × (Int × Int) × Int) × Int × Int)) (a2 : Bool) : w10L a0 a1 a2 = (guardB (bif decide (0 + a1.length ≤ a1.length) then true else false)
  (guardB (bif decide (0 + a1.length ≤ a1.length) then true else false)
    (guardB (bif decide (0 + a1.length ≤ a1.length) then true else false)
      (bif
          partE a0.snd.snd.fst a0.snd.snd.snd.fst.fst a0.snd.snd.snd.fst.snd a0.snd.snd.snd.snd.snd.fst
              a0.snd.snd.snd.snd.snd.snd.snd.fst 0 !=
            0 then
        bif
            partE a0.snd.snd.fst a0.snd.snd.snd.fst.fst a0.snd.snd.snd.fst.snd a0.snd.snd.snd.snd.snd.fst
                a0.snd.snd.snd.snd.snd.snd.snd.fst 0 !=
              0 then
          bif
              (cmpS a0 (List.take a1.length a1)).snd ==
                partE a0.snd.snd.fst a0.snd.snd.snd.fst.fst a0.snd.snd.snd.fst.snd a0.snd.snd.snd.snd.snd.fst
                  a0.snd.snd.snd.snd.snd.snd.snd.fst 0 then
            bif
                (excS a0 (List.take a1.length a1)).snd.snd ==
                  partE a0.snd.snd.fst a0.snd.snd.snd.fst.fst a0.snd.snd.snd.fst.snd a0.snd.snd.snd.snd.snd.fst
                    a0.snd.snd.snd.snd.snd.snd.snd.fst 0 then
              bif (cmpS a0 (List.take a1.length a1)).fst == 0 then
                bif (excS a0 (List.take a1.length a1)).fst == 0 then
                  some
                    (PV.sc (Value.bool ((excS a0 (List.take a1.length a1)).snd.fst == 0)),
                      [Blk.row false
                          (((Kd.int IntKind.i64).pair
                                (((Kd.int IntKind.i64).pair (Kd.int IntKind.i64)).pair (Kd.int IntKind.i64))).pair
                            ((Kd.int IntKind.i64).pair (Kd.int IntKind.i64)))
                          a1])
                else
                  some
                    (PV.sc (Value.bool false),
                      [Blk.row false
                          (((Kd.int IntKind.i64).pair
                                (((Kd.int IntKind.i64).pair (Kd.int IntKind.i64)).pair (Kd.int IntKind.i64))).pair
                            ((Kd.int IntKind.i64).pair (Kd.int IntKind.i64)))
                          a1])
              else
                some
                  (PV.sc (Value.bool false),
                    [Blk.row false
                        (((Kd.int IntKind.i64).pair
                              (((Kd.int IntKind.i64).pair (Kd.int IntKind.i64)).pair (Kd.int IntKind.i64))).pair
                          ((Kd.int IntKind.i64).pair (Kd.int IntKind.i64)))
                        a1])
            else
              some
                (PV.sc (Value.bool false),
                  [Blk.row false
                      (((Kd.int IntKind.i64).pair
                            (((Kd.int IntKind.i64).pair (Kd.int IntKind.i64)).pair (Kd.int IntKind.i64))).pair
                        ((Kd.int IntKind.i64).pair (Kd.int IntKind.i64)))
                      a1])
          else
            some
              (PV.sc (Value.bool false),
                [Blk.row false
                    (((Kd.int IntKind.i64).pair
                          (((Kd.int IntKind.i64).pair (Kd.int IntKind.i64)).pair (Kd.int IntKind.i64))).pair
                      ((Kd.int IntKind.i64).pair (Kd.int IntKind.i64)))
                    a1])
        else
          bif
              decide
                (sqr (AtS (List.take a1.length a1) a0.snd.snd.fst).fst.fst.snd.fst.fst
                    (AtS (List.take a1.length a1) a0.snd.snd.fst).fst.fst.snd.fst.snd a0.snd.snd.snd.fst.fst
                    a0.snd.snd.snd.fst.snd >
                  IntKind.i64.wrap
                    (IntKind.i64.wrap
                        ((AtS (List.take a1.length a1) a0.snd.snd.fst).fst.snd.fst +
                          a0.snd.snd.snd.snd.snd.snd.snd.fst) *
                      IntKind.i64.wrap
                        ((AtS (List.take a1.length a1) a0.snd.snd.fst).fst.snd.fst +
                          a0.snd.snd.snd.snd.snd.snd.snd.fst))) then
            bif decide ((excS a0 (List.take a1.length a1)).fst < 0) then
              some
                (PV.sc (Value.bool false),
                  [Blk.row false
                      (((Kd.int IntKind.i64).pair
                            (((Kd.int IntKind.i64).pair (Kd.int IntKind.i64)).pair (Kd.int IntKind.i64))).pair
                        ((Kd.int IntKind.i64).pair (Kd.int IntKind.i64)))
                      a1])
            else
              bif decide ((excS a0 (List.take a1.length a1)).fst > 0) then
                bif
                    decide
                      (IntKind.i64.wrap
                          (IntKind.i64.wrap
                              (IntKind.i64.wrap
                                  ((excS a0 (List.take a1.length a1)).fst +
                                    (AtS (List.take a1.length a1) a0.snd.snd.fst).fst.snd.fst) +
                                a0.snd.snd.snd.snd.snd.snd.snd.fst) *
                            IntKind.i64.wrap
                              (IntKind.i64.wrap
                                  ((excS a0 (List.take a1.length a1)).fst +
                                    (AtS (List.take a1.length a1) a0.snd.snd.fst).fst.snd.fst) +
                                a0.snd.snd.snd.snd.snd.snd.snd.fst)) >
                        sqr (AtS (List.take a1.length a1) a0.snd.snd.fst).fst.fst.snd.fst.fst
                          (AtS (List.take a1.length a1) a0.snd.snd.fst).fst.fst.snd.fst.snd a0.snd.snd.snd.fst.fst
                          a0.snd.snd.snd.fst.snd) then
                  some
                    (PV.sc (Value.bool false),
                      [Blk.row false
                          (((Kd.int IntKind.i64).pair
                                (((Kd.int IntKind.i64).pair (Kd.int IntKind.i64)).pair (Kd.int IntKind.i64))).pair
                            ((Kd.int IntKind.i64).pair (Kd.int IntKind.i64)))
                          a1])
                else
                  bif
                      decide
                        (IntKind.i64.wrap
                            (IntKind.i64.wrap
                                (IntKind.i64.wrap
                                    (IntKind.i64.wrap
                                        ((excS a0 (List.take a1.length a1)).fst +
                                          (AtS (List.take a1.length a1) a0.snd.snd.fst).fst.snd.fst) +
                                      a0.snd.snd.snd.snd.snd.snd.snd.fst) +
                                  1) *
                              IntKind.i64.wrap
                                (IntKind.i64.wrap
                                    (IntKind.i64.wrap
                                        ((excS a0 (List.take a1.length a1)).fst +
                                          (AtS (List.take a1.length a1) a0.snd.snd.fst).fst.snd.fst) +
                                      a0.snd.snd.snd.snd.snd.snd.snd.fst) +
                                  1)) ≤
                          sqr (AtS (List.take a1.length a1) a0.snd.snd.fst).fst.fst.snd.fst.fst
                            (AtS (List.take a1.length a1) a0.snd.snd.fst).fst.fst.snd.fst.snd a0.snd.snd.snd.fst.fst
                            a0.snd.snd.snd.fst.snd) then
                    some
                      (PV.sc (Value.bool false),
                        [Blk.row false
                            (((Kd.int IntKind.i64).pair
                                  (((Kd.int IntKind.i64).pair (Kd.int IntKind.i64)).pair (Kd.int IntKind.i64))).pair
                              ((Kd.int IntKind.i64).pair (Kd.int IntKind.i64)))
                            a1])
                  else
                    bif (cmpS a0 (List.take a1.length a1)).snd == 0 then
                      bif (excS a0 (List.take a1.length a1)).snd.snd == 0 then
                        bif (cmpS a0 (List.take a1.length a1)).fst == 2 then
                          some
                            (PV.sc
                                (Value.bool
                                  ((excS a0 (List.take a1.length a1)).snd.fst ==
                                    max
                                      (IntKind.i64.wrap
                                        (IntKind.i64.wrap
                                            (aptR (AtS (List.take a1.length a1) a0.snd.snd.fst).fst.fst.snd.snd
                                                a0.snd.snd.snd.snd.snd.fst -
                                              (AtS (List.take a1.length a1) a0.snd.snd.fst).fst.snd.snd) -
                                          100))
                                      0)),
                              [Blk.row false
                                  (((Kd.int IntKind.i64).pair
                                        (((Kd.int IntKind.i64).pair (Kd.int IntKind.i64)).pair
                                          (Kd.int IntKind.i64))).pair
                                    ((Kd.int IntKind.i64).pair (Kd.int IntKind.i64)))
                                  a1])
                        else
                          some
                            (PV.sc (Value.bool false),
                              [Blk.row false
                                  (((Kd.int IntKind.i64).pair
                                        (((Kd.int IntKind.i64).pair (Kd.int IntKind.i64)).pair
                                          (Kd.int IntKind.i64))).pair
                                    ((Kd.int IntKind.i64).pair (Kd.int IntKind.i64)))
                                  a1])
                      else
                        some
                          (PV.sc (Value.bool false),
                            [Blk.row false
                                (((Kd.int IntKind.i64).pair
                                      (((Kd.int IntKind.i64).pair (Kd.int IntKind.i64)).pair (Kd.int IntKind.i64))).pair
                                  ((Kd.int IntKind.i64).pair (Kd.int IntKind.i64)))
                                a1])
                    else
                      some
                        (PV.sc (Value.bool false),
                          [Blk.row false
                              (((Kd.int IntKind.i64).pair
                                    (((Kd.int IntKind.i64).pair (Kd.int IntKind.i64)).pair (Kd.int IntKind.i64))).pair
                                ((Kd.int IntKind.i64).pair (Kd.int IntKind.i64)))
                              a1])
              else
                bif
                    decide
                      (IntKind.i64.wrap
                          (IntKind.i64.wrap
                              (IntKind.i64.wrap
                                  (IntKind.i64.wrap
                                      ((excS a0 (List.take a1.length a1)).fst +
                                        (AtS (List.take a1.length a1) a0.snd.snd.fst).fst.snd.fst) +
                                    a0.snd.snd.snd.snd.snd.snd.snd.fst) +
                                1) *
                            IntKind.i64.wrap
                              (IntKind.i64.wrap
                                  (IntKind.i64.wrap
                                      ((excS a0 (List.take a1.length a1)).fst +
                                        (AtS (List.take a1.length a1) a0.snd.snd.fst).fst.snd.fst) +
                                    a0.snd.snd.snd.snd.snd.snd.snd.fst) +
                                1)) ≤
                        sqr (AtS (List.take a1.length a1) a0.snd.snd.fst).fst.fst.snd.fst.fst
                          (AtS (List.take a1.length a1) a0.snd.snd.fst).fst.fst.snd.fst.snd a0.snd.snd.snd.fst.fst
                          a0.snd.snd.snd.fst.snd) then
                  some
                    (PV.sc (Value.bool false),
                      [Blk.row false
                          (((Kd.int IntKind.i64).pair
                                (((Kd.int IntKind.i64).pair (Kd.int IntKind.i64)).pair (Kd.int IntKind.i64))).pair
                            ((Kd.int IntKind.i64).pair (Kd.int IntKind.i64)))
                          a1])
                else
                  bif (cmpS a0 (List.take a1.length a1)).snd == 0 then
                    bif (excS a0 (List.take a1.length a1)).snd.snd == 0 then
                      bif (cmpS a0 (List.take a1.length a1)).fst == 2 then
                        some
                          (PV.sc
                              (Value.bool
                                ((excS a0 (List.take a1.length a1)).snd.fst ==
                                  max
                                    (IntKind.i64.wrap
                                      (IntKind.i64.wrap
                                          (aptR (AtS (List.take a1.length a1) a0.snd.snd.fst).fst.fst.snd.snd
                                              a0.snd.snd.snd.snd.snd.fst -
                                            (AtS (List.take a1.length a1) a0.snd.snd.fst).fst.snd.snd) -
                                        100))
                                    0)),
                            [Blk.row false
                                (((Kd.int IntKind.i64).pair
                                      (((Kd.int IntKind.i64).pair (Kd.int IntKind.i64)).pair (Kd.int IntKind.i64))).pair
                                  ((Kd.int IntKind.i64).pair (Kd.int IntKind.i64)))
                                a1])
                      else
                        some
                          (PV.sc (Value.bool false),
                            [Blk.row false
                                (((Kd.int IntKind.i64).pair
                                      (((Kd.int IntKind.i64).pair (Kd.int IntKind.i64)).pair (Kd.int IntKind.i64))).pair
                                  ((Kd.int IntKind.i64).pair (Kd.int IntKind.i64)))
                                a1])
                    else
                      some
                        (PV.sc (Value.bool false),
                          [Blk.row false
                              (((Kd.int IntKind.i64).pair
                                    (((Kd.int IntKind.i64).pair (Kd.int IntKind.i64)).pair (Kd.int IntKind.i64))).pair
                                ((Kd.int IntKind.i64).pair (Kd.int IntKind.i64)))
                              a1])
                  else
                    some
                      (PV.sc (Value.bool false),
                        [Blk.row false
                            (((Kd.int IntKind.i64).pair
                                  (((Kd.int IntKind.i64).pair (Kd.int IntKind.i64)).pair (Kd.int IntKind.i64))).pair
                              ((Kd.int IntKind.i64).pair (Kd.int IntKind.i64)))
                            a1])
          else
            bif
                decide
                  (aptR (AtS (List.take a1.length a1) a0.snd.snd.fst).fst.fst.snd.snd a0.snd.snd.snd.snd.snd.fst >
                    IntKind.i64.wrap ((AtS (List.take a1.length a1) a0.snd.snd.fst).fst.snd.snd + 100)) then
              bif decide ((excS a0 (List.take a1.length a1)).fst < 0) then
                some
                  (PV.sc (Value.bool false),
                    [Blk.row false
                        (((Kd.int IntKind.i64).pair
                              (((Kd.int IntKind.i64).pair (Kd.int IntKind.i64)).pair (Kd.int IntKind.i64))).pair
                          ((Kd.int IntKind.i64).pair (Kd.int IntKind.i64)))
                        a1])
              else
                bif decide ((excS a0 (List.take a1.length a1)).fst > 0) then
                  bif
                      decide
                        (IntKind.i64.wrap
                            (IntKind.i64.wrap
                                (IntKind.i64.wrap
                                    ((excS a0 (List.take a1.length a1)).fst +
                                      (AtS (List.take a1.length a1) a0.snd.snd.fst).fst.snd.fst) +
                                  a0.snd.snd.snd.snd.snd.snd.snd.fst) *
                              IntKind.i64.wrap
                                (IntKind.i64.wrap
                                    ((excS a0 (List.take a1.length a1)).fst +
                                      (AtS (List.take a1.length a1) a0.snd.snd.fst).fst.snd.fst) +
                                  a0.snd.snd.snd.snd.snd.snd.snd.fst)) >
                          sqr (AtS (List.take a1.length a1) a0.snd.snd.fst).fst.fst.snd.fst.fst
                            (AtS (List.take a1.length a1) a0.snd.snd.fst).fst.fst.snd.fst.snd a0.snd.snd.snd.fst.fst
                            a0.snd.snd.snd.fst.snd) then
                    some
                      (PV.sc (Value.bool false),
                        [Blk.row false
                            (((Kd.int IntKind.i64).pair
                                  (((Kd.int IntKind.i64).pair (Kd.int IntKind.i64)).pair (Kd.int IntKind.i64))).pair
                              ((Kd.int IntKind.i64).pair (Kd.int IntKind.i64)))
                            a1])
                  else
                    bif
                        decide
                          (IntKind.i64.wrap
                              (IntKind.i64.wrap
                                  (IntKind.i64.wrap
                                      (IntKind.i64.wrap
                                          ((excS a0 (List.take a1.length a1)).fst +
                                            (AtS (List.take a1.length a1) a0.snd.snd.fst).fst.snd.fst) +
                                        a0.snd.snd.snd.snd.snd.snd.snd.fst) +
                                    1) *
                                IntKind.i64.wrap
                                  (IntKind.i64.wrap
                                      (IntKind.i64.wrap
                                          ((excS a0 (List.take a1.length a1)).fst +
                                            (AtS (List.take a1.length a1) a0.snd.snd.fst).fst.snd.fst) +
                                        a0.snd.snd.snd.snd.snd.snd.snd.fst) +
                                    1)) ≤
                            sqr (AtS (List.take a1.length a1) a0.snd.snd.fst).fst.fst.snd.fst.fst
                              (AtS (List.take a1.length a1) a0.snd.snd.fst).fst.fst.snd.fst.snd a0.snd.snd.snd.fst.fst
                              a0.snd.snd.snd.fst.snd) then
                      some
                        (PV.sc (Value.bool false),
                          [Blk.row false
                              (((Kd.int IntKind.i64).pair
                                    (((Kd.int IntKind.i64).pair (Kd.int IntKind.i64)).pair (Kd.int IntKind.i64))).pair
                                ((Kd.int IntKind.i64).pair (Kd.int IntKind.i64)))
                              a1])
                    else
                      bif (cmpS a0 (List.take a1.length a1)).snd == 0 then
                        bif (excS a0 (List.take a1.length a1)).snd.snd == 0 then
                          bif (cmpS a0 (List.take a1.length a1)).fst == 2 then
                            some
                              (PV.sc
                                  (Value.bool
                                    ((excS a0 (List.take a1.length a1)).snd.fst ==
                                      max
                                        (IntKind.i64.wrap
                                          (IntKind.i64.wrap
                                              (aptR (AtS (List.take a1.length a1) a0.snd.snd.fst).fst.fst.snd.snd
                                                  a0.snd.snd.snd.snd.snd.fst -
                                                (AtS (List.take a1.length a1) a0.snd.snd.fst).fst.snd.snd) -
                                            100))
                                        0)),
                                [Blk.row false
                                    (((Kd.int IntKind.i64).pair
                                          (((Kd.int IntKind.i64).pair (Kd.int IntKind.i64)).pair
                                            (Kd.int IntKind.i64))).pair
                                      ((Kd.int IntKind.i64).pair (Kd.int IntKind.i64)))
                                    a1])
                          else
                            some
                              (PV.sc (Value.bool false),
                                [Blk.row false
                                    (((Kd.int IntKind.i64).pair
                                          (((Kd.int IntKind.i64).pair (Kd.int IntKind.i64)).pair
                                            (Kd.int IntKind.i64))).pair
                                      ((Kd.int IntKind.i64).pair (Kd.int IntKind.i64)))
                                    a1])
                        else
                          some
                            (PV.sc (Value.bool false),
                              [Blk.row false
                                  (((Kd.int IntKind.i64).pair
                                        (((Kd.int IntKind.i64).pair (Kd.int IntKind.i64)).pair
                                          (Kd.int IntKind.i64))).pair
                                    ((Kd.int IntKind.i64).pair (Kd.int IntKind.i64)))
                                  a1])
                      else
                        some
                          (PV.sc (Value.bool false),
                            [Blk.row false
                                (((Kd.int IntKind.i64).pair
                                      (((Kd.int IntKind.i64).pair (Kd.int IntKind.i64)).pair (Kd.int IntKind.i64))).pair
                                  ((Kd.int IntKind.i64).pair (Kd.int IntKind.i64)))
                                a1])
                else
                  bif
                      decide
                        (IntKind.i64.wrap
                            (IntKind.i64.wrap
                                (IntKind.i64.wrap
                                    (IntKind.i64.wrap
                                        ((excS a0 (List.take a1.length a1)).fst +
                                          (AtS (List.take a1.length a1) a0.snd.snd.fst).fst.snd.fst) +
                                      a0.snd.snd.snd.snd.snd.snd.snd.fst) +
                                  1) *
                              IntKind.i64.wrap
                                (IntKind.i64.wrap
                                    (IntKind.i64.wrap
                                        ((excS a0 (List.take a1.length a1)).fst +
                                          (AtS (List.take a1.length a1) a0.snd.snd.fst).fst.snd.fst) +
                                      a0.snd.snd.snd.snd.snd.snd.snd.fst) +
                                  1)) ≤
                          sqr (AtS (List.take a1.length a1) a0.snd.snd.fst).fst.fst.snd.fst.fst
                            (AtS (List.take a1.length a1) a0.snd.snd.fst).fst.fst.snd.fst.snd a0.snd.snd.snd.fst.fst
                            a0.snd.snd.snd.fst.snd) then
                    some
                      (PV.sc (Value.bool false),
                        [Blk.row false
                            (((Kd.int IntKind.i64).pair
                                  (((Kd.int IntKind.i64).pair (Kd.int IntKind.i64)).pair (Kd.int IntKind.i64))).pair
                              ((Kd.int IntKind.i64).pair (Kd.int IntKind.i64)))
                            a1])
                  else
                    bif (cmpS a0 (List.take a1.length a1)).snd == 0 then
                      bif (excS a0 (List.take a1.length a1)).snd.snd == 0 then
                        bif (cmpS a0 (List.take a1.length a1)).fst == 2 then
                          some
                            (PV.sc
                                (Value.bool
                                  ((excS a0 (List.take a1.length a1)).snd.fst ==
                                    max
                                      (IntKind.i64.wrap
                                        (IntKind.i64.wrap
                                            (aptR (AtS (List.take a1.length a1) a0.snd.snd.fst).fst.fst.snd.snd
                                                a0.snd.snd.snd.snd.snd.fst -
                                              (AtS (List.take a1.length a1) a0.snd.snd.fst).fst.snd.snd) -
                                          100))
                                      0)),
                              [Blk.row false
                                  (((Kd.int IntKind.i64).pair
                                        (((Kd.int IntKind.i64).pair (Kd.int IntKind.i64)).pair
                                          (Kd.int IntKind.i64))).pair
                                    ((Kd.int IntKind.i64).pair (Kd.int IntKind.i64)))
                                  a1])
                        else
                          some
                            (PV.sc (Value.bool false),
                              [Blk.row false
                                  (((Kd.int IntKind.i64).pair
                                        (((Kd.int IntKind.i64).pair (Kd.int IntKind.i64)).pair
                                          (Kd.int IntKind.i64))).pair
                                    ((Kd.int IntKind.i64).pair (Kd.int IntKind.i64)))
                                  a1])
                      else
                        some
                          (PV.sc (Value.bool false),
                            [Blk.row false
                                (((Kd.int IntKind.i64).pair
                                      (((Kd.int IntKind.i64).pair (Kd.int IntKind.i64)).pair (Kd.int IntKind.i64))).pair
                                  ((Kd.int IntKind.i64).pair (Kd.int IntKind.i64)))
                                a1])
                    else
                      some
                        (PV.sc (Value.bool false),
                          [Blk.row false
                              (((Kd.int IntKind.i64).pair
                                    (((Kd.int IntKind.i64).pair (Kd.int IntKind.i64)).pair (Kd.int IntKind.i64))).pair
                                ((Kd.int IntKind.i64).pair (Kd.int IntKind.i64)))
                              a1])
            else
              bif
                  decide
                    ((AtS (List.take a1.length a1) a0.snd.snd.fst).fst.snd.fst ≥
                      a0.snd.snd.snd.snd.snd.snd.snd.fst) then
                bif
                    decide
                      (sqr (AtS (List.take a1.length a1) a0.snd.snd.fst).fst.fst.snd.fst.fst
                          (AtS (List.take a1.length a1) a0.snd.snd.fst).fst.fst.snd.fst.snd a0.snd.snd.snd.fst.fst
                          a0.snd.snd.snd.fst.snd ≤
                        IntKind.i64.wrap
                          (IntKind.i64.wrap
                              ((AtS (List.take a1.length a1) a0.snd.snd.fst).fst.snd.fst -
                                a0.snd.snd.snd.snd.snd.snd.snd.fst) *
                            IntKind.i64.wrap
                              ((AtS (List.take a1.length a1) a0.snd.snd.fst).fst.snd.fst -
                                a0.snd.snd.snd.snd.snd.snd.snd.fst))) then
                  bif
                      decide
                        (aptR (AtS (List.take a1.length a1) a0.snd.snd.fst).fst.fst.snd.snd a0.snd.snd.snd.snd.snd.fst ≤
                          IntKind.i64.wrap ((AtS (List.take a1.length a1) a0.snd.snd.fst).fst.snd.snd - 100)) then
                    bif decide ((excS a0 (List.take a1.length a1)).fst < 0) then
                      some
                        (PV.sc (Value.bool false),
                          [Blk.row false
                              (((Kd.int IntKind.i64).pair
                                    (((Kd.int IntKind.i64).pair (Kd.int IntKind.i64)).pair (Kd.int IntKind.i64))).pair
                                ((Kd.int IntKind.i64).pair (Kd.int IntKind.i64)))
                              a1])
                    else
                      bif decide ((excS a0 (List.take a1.length a1)).fst > 0) then
                        bif
                            decide
                              (IntKind.i64.wrap
                                  (IntKind.i64.wrap
                                      (IntKind.i64.wrap
                                          ((excS a0 (List.take a1.length a1)).fst +
                                            (AtS (List.take a1.length a1) a0.snd.snd.fst).fst.snd.fst) +
                                        a0.snd.snd.snd.snd.snd.snd.snd.fst) *
                                    IntKind.i64.wrap
                                      (IntKind.i64.wrap
                                          ((excS a0 (List.take a1.length a1)).fst +
                                            (AtS (List.take a1.length a1) a0.snd.snd.fst).fst.snd.fst) +
                                        a0.snd.snd.snd.snd.snd.snd.snd.fst)) >
                                sqr (AtS (List.take a1.length a1) a0.snd.snd.fst).fst.fst.snd.fst.fst
                                  (AtS (List.take a1.length a1) a0.snd.snd.fst).fst.fst.snd.fst.snd
                                  a0.snd.snd.snd.fst.fst a0.snd.snd.snd.fst.snd) then
                          some
                            (PV.sc (Value.bool false),
                              [Blk.row false
                                  (((Kd.int IntKind.i64).pair
                                        (((Kd.int IntKind.i64).pair (Kd.int IntKind.i64)).pair
                                          (Kd.int IntKind.i64))).pair
                                    ((Kd.int IntKind.i64).pair (Kd.int IntKind.i64)))
                                  a1])
                        else
                          bif
                              decide
                                (IntKind.i64.wrap
                                    (IntKind.i64.wrap
                                        (IntKind.i64.wrap
                                            (IntKind.i64.wrap
                                                ((excS a0 (List.take a1.length a1)).fst +
                                                  (AtS (List.take a1.length a1) a0.snd.snd.fst).fst.snd.fst) +
                                              a0.snd.snd.snd.snd.snd.snd.snd.fst) +
                                          1) *
                                      IntKind.i64.wrap
                                        (IntKind.i64.wrap
                                            (IntKind.i64.wrap
                                                ((excS a0 (List.take a1.length a1)).fst +
                                                  (AtS (List.take a1.length a1) a0.snd.snd.fst).fst.snd.fst) +
                                              a0.snd.snd.snd.snd.snd.snd.snd.fst) +
                                          1)) ≤
                                  sqr (AtS (List.take a1.length a1) a0.snd.snd.fst).fst.fst.snd.fst.fst
                                    (AtS (List.take a1.length a1) a0.snd.snd.fst).fst.fst.snd.fst.snd
                                    a0.snd.snd.snd.fst.fst a0.snd.snd.snd.fst.snd) then
                            some
                              (PV.sc (Value.bool false),
                                [Blk.row false
                                    (((Kd.int IntKind.i64).pair
                                          (((Kd.int IntKind.i64).pair (Kd.int IntKind.i64)).pair
                                            (Kd.int IntKind.i64))).pair
                                      ((Kd.int IntKind.i64).pair (Kd.int IntKind.i64)))
                                    a1])
                          else
                            bif (cmpS a0 (List.take a1.length a1)).snd == 0 then
                              bif (excS a0 (List.take a1.length a1)).snd.snd == 0 then
                                bif (cmpS a0 (List.take a1.length a1)).fst == 0 then
                                  some
                                    (PV.sc
                                        (Value.bool
                                          ((excS a0 (List.take a1.length a1)).snd.fst ==
                                            max
                                              (IntKind.i64.wrap
                                                (IntKind.i64.wrap
                                                    (aptR (AtS (List.take a1.length a1) a0.snd.snd.fst).fst.fst.snd.snd
                                                        a0.snd.snd.snd.snd.snd.fst -
                                                      (AtS (List.take a1.length a1) a0.snd.snd.fst).fst.snd.snd) -
                                                  100))
                                              0)),
                                      [Blk.row false
                                          (((Kd.int IntKind.i64).pair
                                                (((Kd.int IntKind.i64).pair (Kd.int IntKind.i64)).pair
                                                  (Kd.int IntKind.i64))).pair
                                            ((Kd.int IntKind.i64).pair (Kd.int IntKind.i64)))
                                          a1])
                                else
                                  some
                                    (PV.sc (Value.bool false),
                                      [Blk.row false
                                          (((Kd.int IntKind.i64).pair
                                                (((Kd.int IntKind.i64).pair (Kd.int IntKind.i64)).pair
                                                  (Kd.int IntKind.i64))).pair
                                            ((Kd.int IntKind.i64).pair (Kd.int IntKind.i64)))
                                          a1])
                              else
                                some
                                  (PV.sc (Value.bool false),
                                    [Blk.row false
                                        (((Kd.int IntKind.i64).pair
                                              (((Kd.int IntKind.i64).pair (Kd.int IntKind.i64)).pair
                                                (Kd.int IntKind.i64))).pair
                                          ((Kd.int IntKind.i64).pair (Kd.int IntKind.i64)))
                                        a1])
                            else
                              some
                                (PV.sc (Value.bool false),
                                  [Blk.row false
                                      (((Kd.int IntKind.i64).pair
                                            (((Kd.int IntKind.i64).pair (Kd.int IntKind.i64)).pair
                                              (Kd.int IntKind.i64))).pair
                                        ((Kd.int IntKind.i64).pair (Kd.int IntKind.i64)))
                                      a1])
                      else
                        bif
                            decide
                              (IntKind.i64.wrap
                                  (IntKind.i64.wrap
                                      (IntKind.i64.wrap
                                          (IntKind.i64.wrap
                                              ((excS a0 (List.take a1.length a1)).fst +
                                                (AtS (List.take a1.length a1) a0.snd.snd.fst).fst.snd.fst) +
                                            a0.snd.snd.snd.snd.snd.snd.snd.fst) +
                                        1) *
                                    IntKind.i64.wrap
                                      (IntKind.i64.wrap
                                          (IntKind.i64.wrap
                                              ((excS a0 (List.take a1.length a1)).fst +
                                                (AtS (List.take a1.length a1) a0.snd.snd.fst).fst.snd.fst) +
                                            a0.snd.snd.snd.snd.snd.snd.snd.fst) +
                                        1)) ≤
                                sqr (AtS (List.take a1.length a1) a0.snd.snd.fst).fst.fst.snd.fst.fst
                                  (AtS (List.take a1.length a1) a0.snd.snd.fst).fst.fst.snd.fst.snd
                                  a0.snd.snd.snd.fst.fst a0.snd.snd.snd.fst.snd) then
                          some
                            (PV.sc (Value.bool false),
                              [Blk.row false
                                  (((Kd.int IntKind.i64).pair
                                        (((Kd.int IntKind.i64).pair (Kd.int IntKind.i64)).pair
                                          (Kd.int IntKind.i64))).pair
                                    ((Kd.int IntKind.i64).pair (Kd.int IntKind.i64)))
                                  a1])
                        else
                          bif (cmpS a0 (List.take a1.length a1)).snd == 0 then
                            bif (excS a0 (List.take a1.length a1)).snd.snd == 0 then
                              bif (cmpS a0 (List.take a1.length a1)).fst == 0 then
                                some
                                  (PV.sc
                                      (Value.bool
                                        ((excS a0 (List.take a1.length a1)).snd.fst ==
                                          max
                                            (IntKind.i64.wrap
                                              (IntKind.i64.wrap
                                                  (aptR (AtS (List.take a1.length a1) a0.snd.snd.fst).fst.fst.snd.snd
                                                      a0.snd.snd.snd.snd.snd.fst -
                                                    (AtS (List.take a1.length a1) a0.snd.snd.fst).fst.snd.snd) -
                                                100))
                                            0)),
                                    [Blk.row false
                                        (((Kd.int IntKind.i64).pair
                                              (((Kd.int IntKind.i64).pair (Kd.int IntKind.i64)).pair
                                                (Kd.int IntKind.i64))).pair
                                          ((Kd.int IntKind.i64).pair (Kd.int IntKind.i64)))
                                        a1])
                              else
                                some
                                  (PV.sc (Value.bool false),
                                    [Blk.row false
                                        (((Kd.int IntKind.i64).pair
                                              (((Kd.int IntKind.i64).pair (Kd.int IntKind.i64)).pair
                                                (Kd.int IntKind.i64))).pair
                                          ((Kd.int IntKind.i64).pair (Kd.int IntKind.i64)))
                                        a1])
                            else
                              some
                                (PV.sc (Value.bool false),
                                  [Blk.row false
                                      (((Kd.int IntKind.i64).pair
                                            (((Kd.int IntKind.i64).pair (Kd.int IntKind.i64)).pair
                                              (Kd.int IntKind.i64))).pair
                                        ((Kd.int IntKind.i64).pair (Kd.int IntKind.i64)))
                                      a1])
                          else
                            some
                              (PV.sc (Value.bool false),
                                [Blk.row false
                                    (((Kd.int IntKind.i64).pair
                                          (((Kd.int IntKind.i64).pair (Kd.int IntKind.i64)).pair
                                            (Kd.int IntKind.i64))).pair
                                      ((Kd.int IntKind.i64).pair (Kd.int IntKind.i64)))
                                    a1])
                  else
                    bif decide ((excS a0 (List.take a1.length a1)).fst < 0) then
                      some
                        (PV.sc (Value.bool false),
                          [Blk.row false
                              (((Kd.int IntKind.i64).pair
                                    (((Kd.int IntKind.i64).pair (Kd.int IntKind.i64)).pair (Kd.int IntKind.i64))).pair
                                ((Kd.int IntKind.i64).pair (Kd.int IntKind.i64)))
                              a1])
                    else
                      bif decide ((excS a0 (List.take a1.length a1)).fst > 0) then
                        bif
                            decide
                              (IntKind.i64.wrap
                                  (IntKind.i64.wrap
                                      (IntKind.i64.wrap
                                          ((excS a0 (List.take a1.length a1)).fst +
                                            (AtS (List.take a1.length a1) a0.snd.snd.fst).fst.snd.fst) +
                                        a0.snd.snd.snd.snd.snd.snd.snd.fst) *
                                    IntKind.i64.wrap
                                      (IntKind.i64.wrap
                                          ((excS a0 (List.take a1.length a1)).fst +
                                            (AtS (List.take a1.length a1) a0.snd.snd.fst).fst.snd.fst) +
                                        a0.snd.snd.snd.snd.snd.snd.snd.fst)) >
                                sqr (AtS (List.take a1.length a1) a0.snd.snd.fst).fst.fst.snd.fst.fst
                                  (AtS (List.take a1.length a1) a0.snd.snd.fst).fst.fst.snd.fst.snd
                                  a0.snd.snd.snd.fst.fst a0.snd.snd.snd.fst.snd) then
                          some
                            (PV.sc (Value.bool false),
                              [Blk.row false
                                  (((Kd.int IntKind.i64).pair
                                        (((Kd.int IntKind.i64).pair (Kd.int IntKind.i64)).pair
                                          (Kd.int IntKind.i64))).pair
                                    ((Kd.int IntKind.i64).pair (Kd.int IntKind.i64)))
                                  a1])
                        else
                          bif
                              decide
                                (IntKind.i64.wrap
                                    (IntKind.i64.wrap
                                        (IntKind.i64.wrap
                                            (IntKind.i64.wrap
                                                ((excS a0 (List.take a1.length a1)).fst +
                                                  (AtS (List.take a1.length a1) a0.snd.snd.fst).fst.snd.fst) +
                                              a0.snd.snd.snd.snd.snd.snd.snd.fst) +
                                          1) *
                                      IntKind.i64.wrap
                                        (IntKind.i64.wrap
                                            (IntKind.i64.wrap
                                                ((excS a0 (List.take a1.length a1)).fst +
                                                  (AtS (List.take a1.length a1) a0.snd.snd.fst).fst.snd.fst) +
                                              a0.snd.snd.snd.snd.snd.snd.snd.fst) +
                                          1)) ≤
                                  sqr (AtS (List.take a1.length a1) a0.snd.snd.fst).fst.fst.snd.fst.fst
                                    (AtS (List.take a1.length a1) a0.snd.snd.fst).fst.fst.snd.fst.snd
                                    a0.snd.snd.snd.fst.fst a0.snd.snd.snd.fst.snd) then
                            some
                              (PV.sc (Value.bool false),
                                [Blk.row false
                                    (((Kd.int IntKind.i64).pair
                                          (((Kd.int IntKind.i64).pair (Kd.int IntKind.i64)).pair
                                            (Kd.int IntKind.i64))).pair
                                      ((Kd.int IntKind.i64).pair (Kd.int IntKind.i64)))
                                    a1])
                          else
                            bif (cmpS a0 (List.take a1.length a1)).snd == 0 then
                              bif (excS a0 (List.take a1.length a1)).snd.snd == 0 then
                                bif (cmpS a0 (List.take a1.length a1)).fst == 1 then
                                  some
                                    (PV.sc
                                        (Value.bool
                                          ((excS a0 (List.take a1.length a1)).snd.fst ==
                                            max
                                              (IntKind.i64.wrap
                                                (IntKind.i64.wrap
                                                    (aptR (AtS (List.take a1.length a1) a0.snd.snd.fst).fst.fst.snd.snd
                                                        a0.snd.snd.snd.snd.snd.fst -
                                                      (AtS (List.take a1.length a1) a0.snd.snd.fst).fst.snd.snd) -
                                                  100))
                                              0)),
                                      [Blk.row false
                                          (((Kd.int IntKind.i64).pair
                                                (((Kd.int IntKind.i64).pair (Kd.int IntKind.i64)).pair
                                                  (Kd.int IntKind.i64))).pair
                                            ((Kd.int IntKind.i64).pair (Kd.int IntKind.i64)))
                                          a1])
                                else
                                  some
                                    (PV.sc (Value.bool false),
                                      [Blk.row false
                                          (((Kd.int IntKind.i64).pair
                                                (((Kd.int IntKind.i64).pair (Kd.int IntKind.i64)).pair
                                                  (Kd.int IntKind.i64))).pair
                                            ((Kd.int IntKind.i64).pair (Kd.int IntKind.i64)))
                                          a1])
                              else
                                some
                                  (PV.sc (Value.bool false),
                                    [Blk.row false
                                        (((Kd.int IntKind.i64).pair
                                              (((Kd.int IntKind.i64).pair (Kd.int IntKind.i64)).pair
                                                (Kd.int IntKind.i64))).pair
                                          ((Kd.int IntKind.i64).pair (Kd.int IntKind.i64)))
                                        a1])
                            else
                              some
                                (PV.sc (Value.bool false),
                                  [Blk.row false
                                      (((Kd.int IntKind.i64).pair
                                            (((Kd.int IntKind.i64).pair (Kd.int IntKind.i64)).pair
                                              (Kd.int IntKind.i64))).pair
                                        ((Kd.int IntKind.i64).pair (Kd.int IntKind.i64)))
                                      a1])
                      else
                        bif
                            decide
                              (IntKind.i64.wrap
                                  (IntKind.i64.wrap
                                      (IntKind.i64.wrap
                                          (IntKind.i64.wrap
                                              ((excS a0 (List.take a1.length a1)).fst +
                                                (AtS (List.take a1.length a1) a0.snd.snd.fst).fst.snd.fst) +
                                            a0.snd.snd.snd.snd.snd.snd.snd.fst) +
                                        1) *
                                    IntKind.i64.wrap
                                      (IntKind.i64.wrap
                                          (IntKind.i64.wrap
                                              ((excS a0 (List.take a1.length a1)).fst +
                                                (AtS (List.take a1.length a1) a0.snd.snd.fst).fst.snd.fst) +
                                            a0.snd.snd.snd.snd.snd.snd.snd.fst) +
                                        1)) ≤
                                sqr (AtS (List.take a1.length a1) a0.snd.snd.fst).fst.fst.snd.fst.fst
                                  (AtS (List.take a1.length a1) a0.snd.snd.fst).fst.fst.snd.fst.snd
                                  a0.snd.snd.snd.fst.fst a0.snd.snd.snd.fst.snd) then
                          some
                            (PV.sc (Value.bool false),
                              [Blk.row false
                                  (((Kd.int IntKind.i64).pair
                                        (((Kd.int IntKind.i64).pair (Kd.int IntKind.i64)).pair
                                          (Kd.int IntKind.i64))).pair
                                    ((Kd.int IntKind.i64).pair (Kd.int IntKind.i64)))
                                  a1])
                        else
                          bif (cmpS a0 (List.take a1.length a1)).snd == 0 then
                            bif (excS a0 (List.take a1.length a1)).snd.snd == 0 then
                              bif (cmpS a0 (List.take a1.length a1)).fst == 1 then
                                some
                                  (PV.sc
                                      (Value.bool
                                        ((excS a0 (List.take a1.length a1)).snd.fst ==
                                          max
                                            (IntKind.i64.wrap
                                              (IntKind.i64.wrap
                                                  (aptR (AtS (List.take a1.length a1) a0.snd.snd.fst).fst.fst.snd.snd
                                                      a0.snd.snd.snd.snd.snd.fst -
                                                    (AtS (List.take a1.length a1) a0.snd.snd.fst).fst.snd.snd) -
                                                100))
                                            0)),
                                    [Blk.row false
                                        (((Kd.int IntKind.i64).pair
                                              (((Kd.int IntKind.i64).pair (Kd.int IntKind.i64)).pair
                                                (Kd.int IntKind.i64))).pair
                                          ((Kd.int IntKind.i64).pair (Kd.int IntKind.i64)))
                                        a1])
                              else
                                some
                                  (PV.sc (Value.bool false),
                                    [Blk.row false
                                        (((Kd.int IntKind.i64).pair
                                              (((Kd.int IntKind.i64).pair (Kd.int IntKind.i64)).pair
                                                (Kd.int IntKind.i64))).pair
                                          ((Kd.int IntKind.i64).pair (Kd.int IntKind.i64)))
                                        a1])
                            else
                              some
                                (PV.sc (Value.bool false),
                                  [Blk.row false
                                      (((Kd.int IntKind.i64).pair
                                            (((Kd.int IntKind.i64).pair (Kd.int IntKind.i64)).pair
                                              (Kd.int IntKind.i64))).pair
                                        ((Kd.int IntKind.i64).pair (Kd.int IntKind.i64)))
                                      a1])
                          else
                            some
                              (PV.sc (Value.bool false),
                                [Blk.row false
                                    (((Kd.int IntKind.i64).pair
                                          (((Kd.int IntKind.i64).pair (Kd.int IntKind.i64)).pair
                                            (Kd.int IntKind.i64))).pair
                                      ((Kd.int IntKind.i64).pair (Kd.int IntKind.i64)))
                                    a1])
                else
                  bif decide ((excS a0 (List.take a1.length a1)).fst < 0) then
                    some
                      (PV.sc (Value.bool false),
                        [Blk.row false
                            (((Kd.int IntKind.i64).pair
                                  (((Kd.int IntKind.i64).pair (Kd.int IntKind.i64)).pair (Kd.int IntKind.i64))).pair
                              ((Kd.int IntKind.i64).pair (Kd.int IntKind.i64)))
                            a1])
                  else
                    bif decide ((excS a0 (List.take a1.length a1)).fst > 0) then
                      bif
                          decide
                            (IntKind.i64.wrap
                                (IntKind.i64.wrap
                                    (IntKind.i64.wrap
                                        ((excS a0 (List.take a1.length a1)).fst +
                                          (AtS (List.take a1.length a1) a0.snd.snd.fst).fst.snd.fst) +
                                      a0.snd.snd.snd.snd.snd.snd.snd.fst) *
                                  IntKind.i64.wrap
                                    (IntKind.i64.wrap
                                        ((excS a0 (List.take a1.length a1)).fst +
                                          (AtS (List.take a1.length a1) a0.snd.snd.fst).fst.snd.fst) +
                                      a0.snd.snd.snd.snd.snd.snd.snd.fst)) >
                              sqr (AtS (List.take a1.length a1) a0.snd.snd.fst).fst.fst.snd.fst.fst
                                (AtS (List.take a1.length a1) a0.snd.snd.fst).fst.fst.snd.fst.snd a0.snd.snd.snd.fst.fst
                                a0.snd.snd.snd.fst.snd) then
                        some
                          (PV.sc (Value.bool false),
                            [Blk.row false
                                (((Kd.int IntKind.i64).pair
                                      (((Kd.int IntKind.i64).pair (Kd.int IntKind.i64)).pair (Kd.int IntKind.i64))).pair
                                  ((Kd.int IntKind.i64).pair (Kd.int IntKind.i64)))
                                a1])
                      else
                        bif
                            decide
                              (IntKind.i64.wrap
                                  (IntKind.i64.wrap
                                      (IntKind.i64.wrap
                                          (IntKind.i64.wrap
                                              ((excS a0 (List.take a1.length a1)).fst +
                                                (AtS (List.take a1.length a1) a0.snd.snd.fst).fst.snd.fst) +
                                            a0.snd.snd.snd.snd.snd.snd.snd.fst) +
                                        1) *
                                    IntKind.i64.wrap
                                      (IntKind.i64.wrap
                                          (IntKind.i64.wrap
                                              ((excS a0 (List.take a1.length a1)).fst +
                                                (AtS (List.take a1.length a1) a0.snd.snd.fst).fst.snd.fst) +
                                            a0.snd.snd.snd.snd.snd.snd.snd.fst) +
                                        1)) ≤
                                sqr (AtS (List.take a1.length a1) a0.snd.snd.fst).fst.fst.snd.fst.fst
                                  (AtS (List.take a1.length a1) a0.snd.snd.fst).fst.fst.snd.fst.snd
                                  a0.snd.snd.snd.fst.fst a0.snd.snd.snd.fst.snd) then
                          some
                            (PV.sc (Value.bool false),
                              [Blk.row false
                                  (((Kd.int IntKind.i64).pair
                                        (((Kd.int IntKind.i64).pair (Kd.int IntKind.i64)).pair
                                          (Kd.int IntKind.i64))).pair
                                    ((Kd.int IntKind.i64).pair (Kd.int IntKind.i64)))
                                  a1])
                        else
                          bif (cmpS a0 (List.take a1.length a1)).snd == 0 then
                            bif (excS a0 (List.take a1.length a1)).snd.snd == 0 then
                              bif (cmpS a0 (List.take a1.length a1)).fst == 1 then
                                some
                                  (PV.sc
                                      (Value.bool
                                        ((excS a0 (List.take a1.length a1)).snd.fst ==
                                          max
                                            (IntKind.i64.wrap
                                              (IntKind.i64.wrap
                                                  (aptR (AtS (List.take a1.length a1) a0.snd.snd.fst).fst.fst.snd.snd
                                                      a0.snd.snd.snd.snd.snd.fst -
                                                    (AtS (List.take a1.length a1) a0.snd.snd.fst).fst.snd.snd) -
                                                100))
                                            0)),
                                    [Blk.row false
                                        (((Kd.int IntKind.i64).pair
                                              (((Kd.int IntKind.i64).pair (Kd.int IntKind.i64)).pair
                                                (Kd.int IntKind.i64))).pair
                                          ((Kd.int IntKind.i64).pair (Kd.int IntKind.i64)))
                                        a1])
                              else
                                some
                                  (PV.sc (Value.bool false),
                                    [Blk.row false
                                        (((Kd.int IntKind.i64).pair
                                              (((Kd.int IntKind.i64).pair (Kd.int IntKind.i64)).pair
                                                (Kd.int IntKind.i64))).pair
                                          ((Kd.int IntKind.i64).pair (Kd.int IntKind.i64)))
                                        a1])
                            else
                              some
                                (PV.sc (Value.bool false),
                                  [Blk.row false
                                      (((Kd.int IntKind.i64).pair
                                            (((Kd.int IntKind.i64).pair (Kd.int IntKind.i64)).pair
                                              (Kd.int IntKind.i64))).pair
                                        ((Kd.int IntKind.i64).pair (Kd.int IntKind.i64)))
                                      a1])
                          else
                            some
                              (PV.sc (Value.bool false),
                                [Blk.row false
                                    (((Kd.int IntKind.i64).pair
                                          (((Kd.int IntKind.i64).pair (Kd.int IntKind.i64)).pair
                                            (Kd.int IntKind.i64))).pair
                                      ((Kd.int IntKind.i64).pair (Kd.int IntKind.i64)))
                                    a1])
                    else
                      bif
                          decide
                            (IntKind.i64.wrap
                                (IntKind.i64.wrap
                                    (IntKind.i64.wrap
                                        (IntKind.i64.wrap
                                            ((excS a0 (List.take a1.length a1)).fst +
                                              (AtS (List.take a1.length a1) a0.snd.snd.fst).fst.snd.fst) +
                                          a0.snd.snd.snd.snd.snd.snd.snd.fst) +
                                      1) *
                                  IntKind.i64.wrap
                                    (IntKind.i64.wrap
                                        (IntKind.i64.wrap
                                            ((excS a0 (List.take a1.length a1)).fst +
                                              (AtS (List.take a1.length a1) a0.snd.snd.fst).fst.snd.fst) +
                                          a0.snd.snd.snd.snd.snd.snd.snd.fst) +
                                      1)) ≤
                              sqr (AtS (List.take a1.length a1) a0.snd.snd.fst).fst.fst.snd.fst.fst
                                (AtS (List.take a1.length a1) a0.snd.snd.fst).fst.fst.snd.fst.snd a0.snd.snd.snd.fst.fst
                                a0.snd.snd.snd.fst.snd) then
                        some
                          (PV.sc (Value.bool false),
                            [Blk.row false
                                (((Kd.int IntKind.i64).pair
                                      (((Kd.int IntKind.i64).pair (Kd.int IntKind.i64)).pair (Kd.int IntKind.i64))).pair
                                  ((Kd.int IntKind.i64).pair (Kd.int IntKind.i64)))
                                a1])
                      else
                        bif (cmpS a0 (List.take a1.length a1)).snd == 0 then
                          bif (excS a0 (List.take a1.length a1)).snd.snd == 0 then
                            bif (cmpS a0 (List.take a1.length a1)).fst == 1 then
                              some
                                (PV.sc
                                    (Value.bool
                                      ((excS a0 (List.take a1.length a1)).snd.fst ==
                                        max
                                          (IntKind.i64.wrap
                                            (IntKind.i64.wrap
                                                (aptR (AtS (List.take a1.length a1) a0.snd.snd.fst).fst.fst.snd.snd
                                                    a0.snd.snd.snd.snd.snd.fst -
                                                  (AtS (List.take a1.length a1) a0.snd.snd.fst).fst.snd.snd) -
                                              100))
                                          0)),
                                  [Blk.row false
                                      (((Kd.int IntKind.i64).pair
                                            (((Kd.int IntKind.i64).pair (Kd.int IntKind.i64)).pair
                                              (Kd.int IntKind.i64))).pair
                                        ((Kd.int IntKind.i64).pair (Kd.int IntKind.i64)))
                                      a1])
                            else
                              some
                                (PV.sc (Value.bool false),
                                  [Blk.row false
                                      (((Kd.int IntKind.i64).pair
                                            (((Kd.int IntKind.i64).pair (Kd.int IntKind.i64)).pair
                                              (Kd.int IntKind.i64))).pair
                                        ((Kd.int IntKind.i64).pair (Kd.int IntKind.i64)))
                                      a1])
                          else
                            some
                              (PV.sc (Value.bool false),
                                [Blk.row false
                                    (((Kd.int IntKind.i64).pair
                                          (((Kd.int IntKind.i64).pair (Kd.int IntKind.i64)).pair
                                            (Kd.int IntKind.i64))).pair
                                      ((Kd.int IntKind.i64).pair (Kd.int IntKind.i64)))
                                    a1])
                        else
                          some
                            (PV.sc (Value.bool false),
                              [Blk.row false
                                  (((Kd.int IntKind.i64).pair
                                        (((Kd.int IntKind.i64).pair (Kd.int IntKind.i64)).pair
                                          (Kd.int IntKind.i64))).pair
                                    ((Kd.int IntKind.i64).pair (Kd.int IntKind.i64)))
                                  a1])
              else
                bif decide ((excS a0 (List.take a1.length a1)).fst < 0) then
                  some
                    (PV.sc (Value.bool false),
                      [Blk.row false
                          (((Kd.int IntKind.i64).pair
                                (((Kd.int IntKind.i64).pair (Kd.int IntKind.i64)).pair (Kd.int IntKind.i64))).pair
                            ((Kd.int IntKind.i64).pair (Kd.int IntKind.i64)))
                          a1])
                else
                  bif decide ((excS a0 (List.take a1.length a1)).fst > 0) then
                    bif
                        decide
                          (IntKind.i64.wrap
                              (IntKind.i64.wrap
                                  (IntKind.i64.wrap
                                      ((excS a0 (List.take a1.length a1)).fst +
                                        (AtS (List.take a1.length a1) a0.snd.snd.fst).fst.snd.fst) +
                                    a0.snd.snd.snd.snd.snd.snd.snd.fst) *
                                IntKind.i64.wrap
                                  (IntKind.i64.wrap
                                      ((excS a0 (List.take a1.length a1)).fst +
                                        (AtS (List.take a1.length a1) a0.snd.snd.fst).fst.snd.fst) +
                                    a0.snd.snd.snd.snd.snd.snd.snd.fst)) >
                            sqr (AtS (List.take a1.length a1) a0.snd.snd.fst).fst.fst.snd.fst.fst
                              (AtS (List.take a1.length a1) a0.snd.snd.fst).fst.fst.snd.fst.snd a0.snd.snd.snd.fst.fst
                              a0.snd.snd.snd.fst.snd) then
                      some
                        (PV.sc (Value.bool false),
                          [Blk.row false
                              (((Kd.int IntKind.i64).pair
                                    (((Kd.int IntKind.i64).pair (Kd.int IntKind.i64)).pair (Kd.int IntKind.i64))).pair
                                ((Kd.int IntKind.i64).pair (Kd.int IntKind.i64)))
                              a1])
                    else
                      bif
                          decide
                            (IntKind.i64.wrap
                                (IntKind.i64.wrap
                                    (IntKind.i64.wrap
                                        (IntKind.i64.wrap
                                            ((excS a0 (List.take a1.length a1)).fst +
                                              (AtS (List.take a1.length a1) a0.snd.snd.fst).fst.snd.fst) +
                                          a0.snd.snd.snd.snd.snd.snd.snd.fst) +
                                      1) *
                                  IntKind.i64.wrap
                                    (IntKind.i64.wrap
                                        (IntKind.i64.wrap
                                            ((excS a0 (List.take a1.length a1)).fst +
                                              (AtS (List.take a1.length a1) a0.snd.snd.fst).fst.snd.fst) +
                                          a0.snd.snd.snd.snd.snd.snd.snd.fst) +
                                      1)) ≤
                              sqr (AtS (List.take a1.length a1) a0.snd.snd.fst).fst.fst.snd.fst.fst
                                (AtS (List.take a1.length a1) a0.snd.snd.fst).fst.fst.snd.fst.snd a0.snd.snd.snd.fst.fst
                                a0.snd.snd.snd.fst.snd) then
                        some
                          (PV.sc (Value.bool false),
                            [Blk.row false
                                (((Kd.int IntKind.i64).pair
                                      (((Kd.int IntKind.i64).pair (Kd.int IntKind.i64)).pair (Kd.int IntKind.i64))).pair
                                  ((Kd.int IntKind.i64).pair (Kd.int IntKind.i64)))
                                a1])
                      else
                        bif (cmpS a0 (List.take a1.length a1)).snd == 0 then
                          bif (excS a0 (List.take a1.length a1)).snd.snd == 0 then
                            bif (cmpS a0 (List.take a1.length a1)).fst == 1 then
                              some
                                (PV.sc
                                    (Value.bool
                                      ((excS a0 (List.take a1.length a1)).snd.fst ==
                                        max
                                          (IntKind.i64.wrap
                                            (IntKind.i64.wrap
                                                (aptR (AtS (List.take a1.length a1) a0.snd.snd.fst).fst.fst.snd.snd
                                                    a0.snd.snd.snd.snd.snd.fst -
                                                  (AtS (List.take a1.length a1) a0.snd.snd.fst).fst.snd.snd) -
                                              100))
                                          0)),
                                  [Blk.row false
                                      (((Kd.int IntKind.i64).pair
                                            (((Kd.int IntKind.i64).pair (Kd.int IntKind.i64)).pair
                                              (Kd.int IntKind.i64))).pair
                                        ((Kd.int IntKind.i64).pair (Kd.int IntKind.i64)))
                                      a1])
                            else
                              some
                                (PV.sc (Value.bool false),
                                  [Blk.row false
                                      (((Kd.int IntKind.i64).pair
                                            (((Kd.int IntKind.i64).pair (Kd.int IntKind.i64)).pair
                                              (Kd.int IntKind.i64))).pair
                                        ((Kd.int IntKind.i64).pair (Kd.int IntKind.i64)))
                                      a1])
                          else
                            some
                              (PV.sc (Value.bool false),
                                [Blk.row false
                                    (((Kd.int IntKind.i64).pair
                                          (((Kd.int IntKind.i64).pair (Kd.int IntKind.i64)).pair
                                            (Kd.int IntKind.i64))).pair
                                      ((Kd.int IntKind.i64).pair (Kd.int IntKind.i64)))
                                    a1])
                        else
                          some
                            (PV.sc (Value.bool false),
                              [Blk.row false
                                  (((Kd.int IntKind.i64).pair
                                        (((Kd.int IntKind.i64).pair (Kd.int IntKind.i64)).pair
                                          (Kd.int IntKind.i64))).pair
                                    ((Kd.int IntKind.i64).pair (Kd.int IntKind.i64)))
                                  a1])
                  else
                    bif
                        decide
                          (IntKind.i64.wrap
                              (IntKind.i64.wrap
                                  (IntKind.i64.wrap
                                      (IntKind.i64.wrap
                                          ((excS a0 (List.take a1.length a1)).fst +
                                            (AtS (List.take a1.length a1) a0.snd.snd.fst).fst.snd.fst) +
                                        a0.snd.snd.snd.snd.snd.snd.snd.fst) +
                                    1) *
                                IntKind.i64.wrap
                                  (IntKind.i64.wrap
                                      (IntKind.i64.wrap
                                          ((excS a0 (List.take a1.length a1)).fst +
                                            (AtS (List.take a1.length a1) a0.snd.snd.fst).fst.snd.fst) +
                                        a0.snd.snd.snd.snd.snd.snd.snd.fst) +
                                    1)) ≤
                            sqr (AtS (List.take a1.length a1) a0.snd.snd.fst).fst.fst.snd.fst.fst
                              (AtS (List.take a1.length a1) a0.snd.snd.fst).fst.fst.snd.fst.snd a0.snd.snd.snd.fst.fst
                              a0.snd.snd.snd.fst.snd) then
                      some
                        (PV.sc (Value.bool false),
                          [Blk.row false
                              (((Kd.int IntKind.i64).pair
                                    (((Kd.int IntKind.i64).pair (Kd.int IntKind.i64)).pair (Kd.int IntKind.i64))).pair
                                ((Kd.int IntKind.i64).pair (Kd.int IntKind.i64)))
                              a1])
                    else
                      bif (cmpS a0 (List.take a1.length a1)).snd == 0 then
                        bif (excS a0 (List.take a1.length a1)).snd.snd == 0 then
                          bif (cmpS a0 (List.take a1.length a1)).fst == 1 then
                            some
                              (PV.sc
                                  (Value.bool
                                    ((excS a0 (List.take a1.length a1)).snd.fst ==
                                      max
                                        (IntKind.i64.wrap
                                          (IntKind.i64.wrap
                                              (aptR (AtS (List.take a1.length a1) a0.snd.snd.fst).fst.fst.snd.snd
                                                  a0.snd.snd.snd.snd.snd.fst -
                                                (AtS (List.take a1.length a1) a0.snd.snd.fst).fst.snd.snd) -
                                            100))
                                        0)),
                                [Blk.row false
                                    (((Kd.int IntKind.i64).pair
                                          (((Kd.int IntKind.i64).pair (Kd.int IntKind.i64)).pair
                                            (Kd.int IntKind.i64))).pair
                                      ((Kd.int IntKind.i64).pair (Kd.int IntKind.i64)))
                                    a1])
                          else
                            some
                              (PV.sc (Value.bool false),
                                [Blk.row false
                                    (((Kd.int IntKind.i64).pair
                                          (((Kd.int IntKind.i64).pair (Kd.int IntKind.i64)).pair
                                            (Kd.int IntKind.i64))).pair
                                      ((Kd.int IntKind.i64).pair (Kd.int IntKind.i64)))
                                    a1])
                        else
                          some
                            (PV.sc (Value.bool false),
                              [Blk.row false
                                  (((Kd.int IntKind.i64).pair
                                        (((Kd.int IntKind.i64).pair (Kd.int IntKind.i64)).pair
                                          (Kd.int IntKind.i64))).pair
                                    ((Kd.int IntKind.i64).pair (Kd.int IntKind.i64)))
                                  a1])
                      else
                        some
                          (PV.sc (Value.bool false),
                            [Blk.row false
                                (((Kd.int IntKind.i64).pair
                                      (((Kd.int IntKind.i64).pair (Kd.int IntKind.i64)).pair (Kd.int IntKind.i64))).pair
                                  ((Kd.int IntKind.i64).pair (Kd.int IntKind.i64)))
                                a1])
      else
        bif (AtS (List.take a1.length a1) a0.snd.snd.fst).snd != 0 then
          bif (cmpS a0 (List.take a1.length a1)).snd == (AtS (List.take a1.length a1) a0.snd.snd.fst).snd then
            bif (excS a0 (List.take a1.length a1)).snd.snd == (AtS (List.take a1.length a1) a0.snd.snd.fst).snd then
              bif (cmpS a0 (List.take a1.length a1)).fst == 0 then
                bif (excS a0 (List.take a1.length a1)).fst == 0 then
                  some
                    (PV.sc (Value.bool ((excS a0 (List.take a1.length a1)).snd.fst == 0)),
                      [Blk.row false
                          (((Kd.int IntKind.i64).pair
                                (((Kd.int IntKind.i64).pair (Kd.int IntKind.i64)).pair (Kd.int IntKind.i64))).pair
                            ((Kd.int IntKind.i64).pair (Kd.int IntKind.i64)))
                          a1])
                else
                  some
                    (PV.sc (Value.bool false),
                      [Blk.row false
                          (((Kd.int IntKind.i64).pair
                                (((Kd.int IntKind.i64).pair (Kd.int IntKind.i64)).pair (Kd.int IntKind.i64))).pair
                            ((Kd.int IntKind.i64).pair (Kd.int IntKind.i64)))
                          a1])
              else
                some
                  (PV.sc (Value.bool false),
                    [Blk.row false
                        (((Kd.int IntKind.i64).pair
                              (((Kd.int IntKind.i64).pair (Kd.int IntKind.i64)).pair (Kd.int IntKind.i64))).pair
                          ((Kd.int IntKind.i64).pair (Kd.int IntKind.i64)))
                        a1])
            else
              some
                (PV.sc (Value.bool false),
                  [Blk.row false
                      (((Kd.int IntKind.i64).pair
                            (((Kd.int IntKind.i64).pair (Kd.int IntKind.i64)).pair (Kd.int IntKind.i64))).pair
                        ((Kd.int IntKind.i64).pair (Kd.int IntKind.i64)))
                      a1])
          else
            some
              (PV.sc (Value.bool false),
                [Blk.row false
                    (((Kd.int IntKind.i64).pair
                          (((Kd.int IntKind.i64).pair (Kd.int IntKind.i64)).pair (Kd.int IntKind.i64))).pair
                      ((Kd.int IntKind.i64).pair (Kd.int IntKind.i64)))
                    a1])
        else
          bif
              decide
                (sqr (AtS (List.take a1.length a1) a0.snd.snd.fst).fst.fst.snd.fst.fst
                    (AtS (List.take a1.length a1) a0.snd.snd.fst).fst.fst.snd.fst.snd a0.snd.snd.snd.fst.fst
                    a0.snd.snd.snd.fst.snd >
                  IntKind.i64.wrap
                    (IntKind.i64.wrap
                        ((AtS (List.take a1.length a1) a0.snd.snd.fst).fst.snd.fst +
                          a0.snd.snd.snd.snd.snd.snd.snd.fst) *
                      IntKind.i64.wrap
                        ((AtS (List.take a1.length a1) a0.snd.snd.fst).fst.snd.fst +
                          a0.snd.snd.snd.snd.snd.snd.snd.fst))) then
            bif decide ((excS a0 (List.take a1.length a1)).fst < 0) then
              some
                (PV.sc (Value.bool false),
                  [Blk.row false
                      (((Kd.int IntKind.i64).pair
                            (((Kd.int IntKind.i64).pair (Kd.int IntKind.i64)).pair (Kd.int IntKind.i64))).pair
                        ((Kd.int IntKind.i64).pair (Kd.int IntKind.i64)))
                      a1])
            else
              bif decide ((excS a0 (List.take a1.length a1)).fst > 0) then
                bif
                    decide
                      (IntKind.i64.wrap
                          (IntKind.i64.wrap
                              (IntKind.i64.wrap
                                  ((excS a0 (List.take a1.length a1)).fst +
                                    (AtS (List.take a1.length a1) a0.snd.snd.fst).fst.snd.fst) +
                                a0.snd.snd.snd.snd.snd.snd.snd.fst) *
                            IntKind.i64.wrap
                              (IntKind.i64.wrap
                                  ((excS a0 (List.take a1.length a1)).fst +
                                    (AtS (List.take a1.length a1) a0.snd.snd.fst).fst.snd.fst) +
                                a0.snd.snd.snd.snd.snd.snd.snd.fst)) >
                        sqr (AtS (List.take a1.length a1) a0.snd.snd.fst).fst.fst.snd.fst.fst
                          (AtS (List.take a1.length a1) a0.snd.snd.fst).fst.fst.snd.fst.snd a0.snd.snd.snd.fst.fst
                          a0.snd.snd.snd.fst.snd) then
                  some
                    (PV.sc (Value.bool false),
                      [Blk.row false
                          (((Kd.int IntKind.i64).pair
                                (((Kd.int IntKind.i64).pair (Kd.int IntKind.i64)).pair (Kd.int IntKind.i64))).pair
                            ((Kd.int IntKind.i64).pair (Kd.int IntKind.i64)))
                          a1])
                else
                  bif
                      decide
                        (IntKind.i64.wrap
                            (IntKind.i64.wrap
                                (IntKind.i64.wrap
                                    (IntKind.i64.wrap
                                        ((excS a0 (List.take a1.length a1)).fst +
                                          (AtS (List.take a1.length a1) a0.snd.snd.fst).fst.snd.fst) +
                                      a0.snd.snd.snd.snd.snd.snd.snd.fst) +
                                  1) *
                              IntKind.i64.wrap
                                (IntKind.i64.wrap
                                    (IntKind.i64.wrap
                                        ((excS a0 (List.take a1.length a1)).fst +
                                          (AtS (List.take a1.length a1) a0.snd.snd.fst).fst.snd.fst) +
                                      a0.snd.snd.snd.snd.snd.snd.snd.fst) +
                                  1)) ≤
                          sqr (AtS (List.take a1.length a1) a0.snd.snd.fst).fst.fst.snd.fst.fst
                            (AtS (List.take a1.length a1) a0.snd.snd.fst).fst.fst.snd.fst.snd a0.snd.snd.snd.fst.fst
                            a0.snd.snd.snd.fst.snd) then
                    some
                      (PV.sc (Value.bool false),
                        [Blk.row false
                            (((Kd.int IntKind.i64).pair
                                  (((Kd.int IntKind.i64).pair (Kd.int IntKind.i64)).pair (Kd.int IntKind.i64))).pair
                              ((Kd.int IntKind.i64).pair (Kd.int IntKind.i64)))
                            a1])
                  else
                    bif (cmpS a0 (List.take a1.length a1)).snd == 0 then
                      bif (excS a0 (List.take a1.length a1)).snd.snd == 0 then
                        bif (cmpS a0 (List.take a1.length a1)).fst == 2 then
                          some
                            (PV.sc
                                (Value.bool
                                  ((excS a0 (List.take a1.length a1)).snd.fst ==
                                    max
                                      (IntKind.i64.wrap
                                        (IntKind.i64.wrap
                                            (aptR (AtS (List.take a1.length a1) a0.snd.snd.fst).fst.fst.snd.snd
                                                a0.snd.snd.snd.snd.snd.fst -
                                              (AtS (List.take a1.length a1) a0.snd.snd.fst).fst.snd.snd) -
                                          100))
                                      0)),
                              [Blk.row false
                                  (((Kd.int IntKind.i64).pair
                                        (((Kd.int IntKind.i64).pair (Kd.int IntKind.i64)).pair
                                          (Kd.int IntKind.i64))).pair
                                    ((Kd.int IntKind.i64).pair (Kd.int IntKind.i64)))
                                  a1])
                        else
                          some
                            (PV.sc (Value.bool false),
                              [Blk.row false
                                  (((Kd.int IntKind.i64).pair
                                        (((Kd.int IntKind.i64).pair (Kd.int IntKind.i64)).pair
                                          (Kd.int IntKind.i64))).pair
                                    ((Kd.int IntKind.i64).pair (Kd.int IntKind.i64)))
                                  a1])
                      else
                        some
                          (PV.sc (Value.bool false),
                            [Blk.row false
                                (((Kd.int IntKind.i64).pair
                                      (((Kd.int IntKind.i64).pair (Kd.int IntKind.i64)).pair (Kd.int IntKind.i64))).pair
                                  ((Kd.int IntKind.i64).pair (Kd.int IntKind.i64)))
                                a1])
                    else
                      some
                        (PV.sc (Value.bool false),
                          [Blk.row false
                              (((Kd.int IntKind.i64).pair
                                    (((Kd.int IntKind.i64).pair (Kd.int IntKind.i64)).pair (Kd.int IntKind.i64))).pair
                                ((Kd.int IntKind.i64).pair (Kd.int IntKind.i64)))
                              a1])
              else
                bif
                    decide
                      (IntKind.i64.wrap
                          (IntKind.i64.wrap
                              (IntKind.i64.wrap
                                  (IntKind.i64.wrap
                                      ((excS a0 (List.take a1.length a1)).fst +
                                        (AtS (List.take a1.length a1) a0.snd.snd.fst).fst.snd.fst) +
                                    a0.snd.snd.snd.snd.snd.snd.snd.fst) +
                                1) *
                            IntKind.i64.wrap
                              (IntKind.i64.wrap
                                  (IntKind.i64.wrap
                                      ((excS a0 (List.take a1.length a1)).fst +
                                        (AtS (List.take a1.length a1) a0.snd.snd.fst).fst.snd.fst) +
                                    a0.snd.snd.snd.snd.snd.snd.snd.fst) +
                                1)) ≤
                        sqr (AtS (List.take a1.length a1) a0.snd.snd.fst).fst.fst.snd.fst.fst
                          (AtS (List.take a1.length a1) a0.snd.snd.fst).fst.fst.snd.fst.snd a0.snd.snd.snd.fst.fst
                          a0.snd.snd.snd.fst.snd) then
                  some
                    (PV.sc (Value.bool false),
                      [Blk.row false
                          (((Kd.int IntKind.i64).pair
                                (((Kd.int IntKind.i64).pair (Kd.int IntKind.i64)).pair (Kd.int IntKind.i64))).pair
                            ((Kd.int IntKind.i64).pair (Kd.int IntKind.i64)))
                          a1])
                else
                  bif (cmpS a0 (List.take a1.length a1)).snd == 0 then
                    bif (excS a0 (List.take a1.length a1)).snd.snd == 0 then
                      bif (cmpS a0 (List.take a1.length a1)).fst == 2 then
                        some
                          (PV.sc
                              (Value.bool
                                ((excS a0 (List.take a1.length a1)).snd.fst ==
                                  max
                                    (IntKind.i64.wrap
                                      (IntKind.i64.wrap
                                          (aptR (AtS (List.take a1.length a1) a0.snd.snd.fst).fst.fst.snd.snd
                                              a0.snd.snd.snd.snd.snd.fst -
                                            (AtS (List.take a1.length a1) a0.snd.snd.fst).fst.snd.snd) -
                                        100))
                                    0)),
                            [Blk.row false
                                (((Kd.int IntKind.i64).pair
                                      (((Kd.int IntKind.i64).pair (Kd.int IntKind.i64)).pair (Kd.int IntKind.i64))).pair
                                  ((Kd.int IntKind.i64).pair (Kd.int IntKind.i64)))
                                a1])
                      else
                        some
                          (PV.sc (Value.bool false),
                            [Blk.row false
                                (((Kd.int IntKind.i64).pair
                                      (((Kd.int IntKind.i64).pair (Kd.int IntKind.i64)).pair (Kd.int IntKind.i64))).pair
                                  ((Kd.int IntKind.i64).pair (Kd.int IntKind.i64)))
                                a1])
                    else
                      some
                        (PV.sc (Value.bool false),
                          [Blk.row false
                              (((Kd.int IntKind.i64).pair
                                    (((Kd.int IntKind.i64).pair (Kd.int IntKind.i64)).pair (Kd.int IntKind.i64))).pair
                                ((Kd.int IntKind.i64).pair (Kd.int IntKind.i64)))
                              a1])
                  else
                    some
                      (PV.sc (Value.bool false),
                        [Blk.row false
                            (((Kd.int IntKind.i64).pair
                                  (((Kd.int IntKind.i64).pair (Kd.int IntKind.i64)).pair (Kd.int IntKind.i64))).pair
                              ((Kd.int IntKind.i64).pair (Kd.int IntKind.i64)))
                            a1])
          else
            bif
                decide
                  (aptR (AtS (List.take a1.length a1) a0.snd.snd.fst).fst.fst.snd.snd a0.snd.snd.snd.snd.snd.fst >
                    IntKind.i64.wrap ((AtS (List.take a1.length a1) a0.snd.snd.fst).fst.snd.snd + 100)) then
              bif decide ((excS a0 (List.take a1.length a1)).fst < 0) then
                some
                  (PV.sc (Value.bool false),
                    [Blk.row false
                        (((Kd.int IntKind.i64).pair
                              (((Kd.int IntKind.i64).pair (Kd.int IntKind.i64)).pair (Kd.int IntKind.i64))).pair
                          ((Kd.int IntKind.i64).pair (Kd.int IntKind.i64)))
                        a1])
              else
                bif decide ((excS a0 (List.take a1.length a1)).fst > 0) then
                  bif
                      decide
                        (IntKind.i64.wrap
                            (IntKind.i64.wrap
                                (IntKind.i64.wrap
                                    ((excS a0 (List.take a1.length a1)).fst +
                                      (AtS (List.take a1.length a1) a0.snd.snd.fst).fst.snd.fst) +
                                  a0.snd.snd.snd.snd.snd.snd.snd.fst) *
                              IntKind.i64.wrap
                                (IntKind.i64.wrap
                                    ((excS a0 (List.take a1.length a1)).fst +
                                      (AtS (List.take a1.length a1) a0.snd.snd.fst).fst.snd.fst) +
                                  a0.snd.snd.snd.snd.snd.snd.snd.fst)) >
                          sqr (AtS (List.take a1.length a1) a0.snd.snd.fst).fst.fst.snd.fst.fst
                            (AtS (List.take a1.length a1) a0.snd.snd.fst).fst.fst.snd.fst.snd a0.snd.snd.snd.fst.fst
                            a0.snd.snd.snd.fst.snd) then
                    some
                      (PV.sc (Value.bool false),
                        [Blk.row false
                            (((Kd.int IntKind.i64).pair
                                  (((Kd.int IntKind.i64).pair (Kd.int IntKind.i64)).pair (Kd.int IntKind.i64))).pair
                              ((Kd.int IntKind.i64).pair (Kd.int IntKind.i64)))
                            a1])
                  else
                    bif
                        decide
                          (IntKind.i64.wrap
                              (IntKind.i64.wrap
                                  (IntKind.i64.wrap
                                      (IntKind.i64.wrap
                                          ((excS a0 (List.take a1.length a1)).fst +
                                            (AtS (List.take a1.length a1) a0.snd.snd.fst).fst.snd.fst) +
                                        a0.snd.snd.snd.snd.snd.snd.snd.fst) +
                                    1) *
                                IntKind.i64.wrap
                                  (IntKind.i64.wrap
                                      (IntKind.i64.wrap
                                          ((excS a0 (List.take a1.length a1)).fst +
                                            (AtS (List.take a1.length a1) a0.snd.snd.fst).fst.snd.fst) +
                                        a0.snd.snd.snd.snd.snd.snd.snd.fst) +
                                    1)) ≤
                            sqr (AtS (List.take a1.length a1) a0.snd.snd.fst).fst.fst.snd.fst.fst
                              (AtS (List.take a1.length a1) a0.snd.snd.fst).fst.fst.snd.fst.snd a0.snd.snd.snd.fst.fst
                              a0.snd.snd.snd.fst.snd) then
                      some
                        (PV.sc (Value.bool false),
                          [Blk.row false
                              (((Kd.int IntKind.i64).pair
                                    (((Kd.int IntKind.i64).pair (Kd.int IntKind.i64)).pair (Kd.int IntKind.i64))).pair
                                ((Kd.int IntKind.i64).pair (Kd.int IntKind.i64)))
                              a1])
                    else
                      bif (cmpS a0 (List.take a1.length a1)).snd == 0 then
                        bif (excS a0 (List.take a1.length a1)).snd.snd == 0 then
                          bif (cmpS a0 (List.take a1.length a1)).fst == 2 then
                            some
                              (PV.sc
                                  (Value.bool
                                    ((excS a0 (List.take a1.length a1)).snd.fst ==
                                      max
                                        (IntKind.i64.wrap
                                          (IntKind.i64.wrap
                                              (aptR (AtS (List.take a1.length a1) a0.snd.snd.fst).fst.fst.snd.snd
                                                  a0.snd.snd.snd.snd.snd.fst -
                                                (AtS (List.take a1.length a1) a0.snd.snd.fst).fst.snd.snd) -
                                            100))
                                        0)),
                                [Blk.row false
                                    (((Kd.int IntKind.i64).pair
                                          (((Kd.int IntKind.i64).pair (Kd.int IntKind.i64)).pair
                                            (Kd.int IntKind.i64))).pair
                                      ((Kd.int IntKind.i64).pair (Kd.int IntKind.i64)))
                                    a1])
                          else
                            some
                              (PV.sc (Value.bool false),
                                [Blk.row false
                                    (((Kd.int IntKind.i64).pair
                                          (((Kd.int IntKind.i64).pair (Kd.int IntKind.i64)).pair
                                            (Kd.int IntKind.i64))).pair
                                      ((Kd.int IntKind.i64).pair (Kd.int IntKind.i64)))
                                    a1])
                        else
                          some
                            (PV.sc (Value.bool false),
                              [Blk.row false
                                  (((Kd.int IntKind.i64).pair
                                        (((Kd.int IntKind.i64).pair (Kd.int IntKind.i64)).pair
                                          (Kd.int IntKind.i64))).pair
                                    ((Kd.int IntKind.i64).pair (Kd.int IntKind.i64)))
                                  a1])
                      else
                        some
                          (PV.sc (Value.bool false),
                            [Blk.row false
                                (((Kd.int IntKind.i64).pair
                                      (((Kd.int IntKind.i64).pair (Kd.int IntKind.i64)).pair (Kd.int IntKind.i64))).pair
                                  ((Kd.int IntKind.i64).pair (Kd.int IntKind.i64)))
                                a1])
                else
                  bif
                      decide
                        (IntKind.i64.wrap
                            (IntKind.i64.wrap
                                (IntKind.i64.wrap
                                    (IntKind.i64.wrap
                                        ((excS a0 (List.take a1.length a1)).fst +
                                          (AtS (List.take a1.length a1) a0.snd.snd.fst).fst.snd.fst) +
                                      a0.snd.snd.snd.snd.snd.snd.snd.fst) +
                                  1) *
                              IntKind.i64.wrap
                                (IntKind.i64.wrap
                                    (IntKind.i64.wrap
                                        ((excS a0 (List.take a1.length a1)).fst +
                                          (AtS (List.take a1.length a1) a0.snd.snd.fst).fst.snd.fst) +
                                      a0.snd.snd.snd.snd.snd.snd.snd.fst) +
                                  1)) ≤
                          sqr (AtS (List.take a1.length a1) a0.snd.snd.fst).fst.fst.snd.fst.fst
                            (AtS (List.take a1.length a1) a0.snd.snd.fst).fst.fst.snd.fst.snd a0.snd.snd.snd.fst.fst
                            a0.snd.snd.snd.fst.snd) then
                    some
                      (PV.sc (Value.bool false),
                        [Blk.row false
                            (((Kd.int IntKind.i64).pair
                                  (((Kd.int IntKind.i64).pair (Kd.int IntKind.i64)).pair (Kd.int IntKind.i64))).pair
                              ((Kd.int IntKind.i64).pair (Kd.int IntKind.i64)))
                            a1])
                  else
                    bif (cmpS a0 (List.take a1.length a1)).snd == 0 then
                      bif (excS a0 (List.take a1.length a1)).snd.snd == 0 then
                        bif (cmpS a0 (List.take a1.length a1)).fst == 2 then
                          some
                            (PV.sc
                                (Value.bool
                                  ((excS a0 (List.take a1.length a1)).snd.fst ==
                                    max
                                      (IntKind.i64.wrap
                                        (IntKind.i64.wrap
                                            (aptR (AtS (List.take a1.length a1) a0.snd.snd.fst).fst.fst.snd.snd
                                                a0.snd.snd.snd.snd.snd.fst -
                                              (AtS (List.take a1.length a1) a0.snd.snd.fst).fst.snd.snd) -
                                          100))
                                      0)),
                              [Blk.row false
                                  (((Kd.int IntKind.i64).pair
                                        (((Kd.int IntKind.i64).pair (Kd.int IntKind.i64)).pair
                                          (Kd.int IntKind.i64))).pair
                                    ((Kd.int IntKind.i64).pair (Kd.int IntKind.i64)))
                                  a1])
                        else
                          some
                            (PV.sc (Value.bool false),
                              [Blk.row false
                                  (((Kd.int IntKind.i64).pair
                                        (((Kd.int IntKind.i64).pair (Kd.int IntKind.i64)).pair
                                          (Kd.int IntKind.i64))).pair
                                    ((Kd.int IntKind.i64).pair (Kd.int IntKind.i64)))
                                  a1])
                      else
                        some
                          (PV.sc (Value.bool false),
                            [Blk.row false
                                (((Kd.int IntKind.i64).pair
                                      (((Kd.int IntKind.i64).pair (Kd.int IntKind.i64)).pair (Kd.int IntKind.i64))).pair
                                  ((Kd.int IntKind.i64).pair (Kd.int IntKind.i64)))
                                a1])
                    else
                      some
                        (PV.sc (Value.bool false),
                          [Blk.row false
                              (((Kd.int IntKind.i64).pair
                                    (((Kd.int IntKind.i64).pair (Kd.int IntKind.i64)).pair (Kd.int IntKind.i64))).pair
                                ((Kd.int IntKind.i64).pair (Kd.int IntKind.i64)))
                              a1])
            else
              bif
                  decide
                    ((AtS (List.take a1.length a1) a0.snd.snd.fst).fst.snd.fst ≥
                      a0.snd.snd.snd.snd.snd.snd.snd.fst) then
                bif
                    decide
                      (sqr (AtS (List.take a1.length a1) a0.snd.snd.fst).fst.fst.snd.fst.fst
                          (AtS (List.take a1.length a1) a0.snd.snd.fst).fst.fst.snd.fst.snd a0.snd.snd.snd.fst.fst
                          a0.snd.snd.snd.fst.snd ≤
                        IntKind.i64.wrap
                          (IntKind.i64.wrap
                              ((AtS (List.take a1.length a1) a0.snd.snd.fst).fst.snd.fst -
                                a0.snd.snd.snd.snd.snd.snd.snd.fst) *
                            IntKind.i64.wrap
                              ((AtS (List.take a1.length a1) a0.snd.snd.fst).fst.snd.fst -
                                a0.snd.snd.snd.snd.snd.snd.snd.fst))) then
                  bif
                      decide
                        (aptR (AtS (List.take a1.length a1) a0.snd.snd.fst).fst.fst.snd.snd a0.snd.snd.snd.snd.snd.fst ≤
                          IntKind.i64.wrap ((AtS (List.take a1.length a1) a0.snd.snd.fst).fst.snd.snd - 100)) then
                    bif decide ((excS a0 (List.take a1.length a1)).fst < 0) then
                      some
                        (PV.sc (Value.bool false),
                          [Blk.row false
                              (((Kd.int IntKind.i64).pair
                                    (((Kd.int IntKind.i64).pair (Kd.int IntKind.i64)).pair (Kd.int IntKind.i64))).pair
                                ((Kd.int IntKind.i64).pair (Kd.int IntKind.i64)))
                              a1])
                    else
                      bif decide ((excS a0 (List.take a1.length a1)).fst > 0) then
                        bif
                            decide
                              (IntKind.i64.wrap
                                  (IntKind.i64.wrap
                                      (IntKind.i64.wrap
                                          ((excS a0 (List.take a1.length a1)).fst +
                                            (AtS (List.take a1.length a1) a0.snd.snd.fst).fst.snd.fst) +
                                        a0.snd.snd.snd.snd.snd.snd.snd.fst) *
                                    IntKind.i64.wrap
                                      (IntKind.i64.wrap
                                          ((excS a0 (List.take a1.length a1)).fst +
                                            (AtS (List.take a1.length a1) a0.snd.snd.fst).fst.snd.fst) +
                                        a0.snd.snd.snd.snd.snd.snd.snd.fst)) >
                                sqr (AtS (List.take a1.length a1) a0.snd.snd.fst).fst.fst.snd.fst.fst
                                  (AtS (List.take a1.length a1) a0.snd.snd.fst).fst.fst.snd.fst.snd
                                  a0.snd.snd.snd.fst.fst a0.snd.snd.snd.fst.snd) then
                          some
                            (PV.sc (Value.bool false),
                              [Blk.row false
                                  (((Kd.int IntKind.i64).pair
                                        (((Kd.int IntKind.i64).pair (Kd.int IntKind.i64)).pair
                                          (Kd.int IntKind.i64))).pair
                                    ((Kd.int IntKind.i64).pair (Kd.int IntKind.i64)))
                                  a1])
                        else
                          bif
                              decide
                                (IntKind.i64.wrap
                                    (IntKind.i64.wrap
                                        (IntKind.i64.wrap
                                            (IntKind.i64.wrap
                                                ((excS a0 (List.take a1.length a1)).fst +
                                                  (AtS (List.take a1.length a1) a0.snd.snd.fst).fst.snd.fst) +
                                              a0.snd.snd.snd.snd.snd.snd.snd.fst) +
                                          1) *
                                      IntKind.i64.wrap
                                        (IntKind.i64.wrap
                                            (IntKind.i64.wrap
                                                ((excS a0 (List.take a1.length a1)).fst +
                                                  (AtS (List.take a1.length a1) a0.snd.snd.fst).fst.snd.fst) +
                                              a0.snd.snd.snd.snd.snd.snd.snd.fst) +
                                          1)) ≤
                                  sqr (AtS (List.take a1.length a1) a0.snd.snd.fst).fst.fst.snd.fst.fst
                                    (AtS (List.take a1.length a1) a0.snd.snd.fst).fst.fst.snd.fst.snd
                                    a0.snd.snd.snd.fst.fst a0.snd.snd.snd.fst.snd) then
                            some
                              (PV.sc (Value.bool false),
                                [Blk.row false
                                    (((Kd.int IntKind.i64).pair
                                          (((Kd.int IntKind.i64).pair (Kd.int IntKind.i64)).pair
                                            (Kd.int IntKind.i64))).pair
                                      ((Kd.int IntKind.i64).pair (Kd.int IntKind.i64)))
                                    a1])
                          else
                            bif (cmpS a0 (List.take a1.length a1)).snd == 0 then
                              bif (excS a0 (List.take a1.length a1)).snd.snd == 0 then
                                bif (cmpS a0 (List.take a1.length a1)).fst == 0 then
                                  some
                                    (PV.sc
                                        (Value.bool
                                          ((excS a0 (List.take a1.length a1)).snd.fst ==
                                            max
                                              (IntKind.i64.wrap
                                                (IntKind.i64.wrap
                                                    (aptR (AtS (List.take a1.length a1) a0.snd.snd.fst).fst.fst.snd.snd
                                                        a0.snd.snd.snd.snd.snd.fst -
                                                      (AtS (List.take a1.length a1) a0.snd.snd.fst).fst.snd.snd) -
                                                  100))
                                              0)),
                                      [Blk.row false
                                          (((Kd.int IntKind.i64).pair
                                                (((Kd.int IntKind.i64).pair (Kd.int IntKind.i64)).pair
                                                  (Kd.int IntKind.i64))).pair
                                            ((Kd.int IntKind.i64).pair (Kd.int IntKind.i64)))
                                          a1])
                                else
                                  some
                                    (PV.sc (Value.bool false),
                                      [Blk.row false
                                          (((Kd.int IntKind.i64).pair
                                                (((Kd.int IntKind.i64).pair (Kd.int IntKind.i64)).pair
                                                  (Kd.int IntKind.i64))).pair
                                            ((Kd.int IntKind.i64).pair (Kd.int IntKind.i64)))
                                          a1])
                              else
                                some
                                  (PV.sc (Value.bool false),
                                    [Blk.row false
                                        (((Kd.int IntKind.i64).pair
                                              (((Kd.int IntKind.i64).pair (Kd.int IntKind.i64)).pair
                                                (Kd.int IntKind.i64))).pair
                                          ((Kd.int IntKind.i64).pair (Kd.int IntKind.i64)))
                                        a1])
                            else
                              some
                                (PV.sc (Value.bool false),
                                  [Blk.row false
                                      (((Kd.int IntKind.i64).pair
                                            (((Kd.int IntKind.i64).pair (Kd.int IntKind.i64)).pair
                                              (Kd.int IntKind.i64))).pair
                                        ((Kd.int IntKind.i64).pair (Kd.int IntKind.i64)))
                                      a1])
                      else
                        bif
                            decide
                              (IntKind.i64.wrap
                                  (IntKind.i64.wrap
                                      (IntKind.i64.wrap
                                          (IntKind.i64.wrap
                                              ((excS a0 (List.take a1.length a1)).fst +
                                                (AtS (List.take a1.length a1) a0.snd.snd.fst).fst.snd.fst) +
                                            a0.snd.snd.snd.snd.snd.snd.snd.fst) +
                                        1) *
                                    IntKind.i64.wrap
                                      (IntKind.i64.wrap
                                          (IntKind.i64.wrap
                                              ((excS a0 (List.take a1.length a1)).fst +
                                                (AtS (List.take a1.length a1) a0.snd.snd.fst).fst.snd.fst) +
                                            a0.snd.snd.snd.snd.snd.snd.snd.fst) +
                                        1)) ≤
                                sqr (AtS (List.take a1.length a1) a0.snd.snd.fst).fst.fst.snd.fst.fst
                                  (AtS (List.take a1.length a1) a0.snd.snd.fst).fst.fst.snd.fst.snd
                                  a0.snd.snd.snd.fst.fst a0.snd.snd.snd.fst.snd) then
                          some
                            (PV.sc (Value.bool false),
                              [Blk.row false
                                  (((Kd.int IntKind.i64).pair
                                        (((Kd.int IntKind.i64).pair (Kd.int IntKind.i64)).pair
                                          (Kd.int IntKind.i64))).pair
                                    ((Kd.int IntKind.i64).pair (Kd.int IntKind.i64)))
                                  a1])
                        else
                          bif (cmpS a0 (List.take a1.length a1)).snd == 0 then
                            bif (excS a0 (List.take a1.length a1)).snd.snd == 0 then
                              bif (cmpS a0 (List.take a1.length a1)).fst == 0 then
                                some
                                  (PV.sc
                                      (Value.bool
                                        ((excS a0 (List.take a1.length a1)).snd.fst ==
                                          max
                                            (IntKind.i64.wrap
                                              (IntKind.i64.wrap
                                                  (aptR (AtS (List.take a1.length a1) a0.snd.snd.fst).fst.fst.snd.snd
                                                      a0.snd.snd.snd.snd.snd.fst -
                                                    (AtS (List.take a1.length a1) a0.snd.snd.fst).fst.snd.snd) -
                                                100))
                                            0)),
                                    [Blk.row false
                                        (((Kd.int IntKind.i64).pair
                                              (((Kd.int IntKind.i64).pair (Kd.int IntKind.i64)).pair
                                                (Kd.int IntKind.i64))).pair
                                          ((Kd.int IntKind.i64).pair (Kd.int IntKind.i64)))
                                        a1])
                              else
                                some
                                  (PV.sc (Value.bool false),
                                    [Blk.row false
                                        (((Kd.int IntKind.i64).pair
                                              (((Kd.int IntKind.i64).pair (Kd.int IntKind.i64)).pair
                                                (Kd.int IntKind.i64))).pair
                                          ((Kd.int IntKind.i64).pair (Kd.int IntKind.i64)))
                                        a1])
                            else
                              some
                                (PV.sc (Value.bool false),
                                  [Blk.row false
                                      (((Kd.int IntKind.i64).pair
                                            (((Kd.int IntKind.i64).pair (Kd.int IntKind.i64)).pair
                                              (Kd.int IntKind.i64))).pair
                                        ((Kd.int IntKind.i64).pair (Kd.int IntKind.i64)))
                                      a1])
                          else
                            some
                              (PV.sc (Value.bool false),
                                [Blk.row false
                                    (((Kd.int IntKind.i64).pair
                                          (((Kd.int IntKind.i64).pair (Kd.int IntKind.i64)).pair
                                            (Kd.int IntKind.i64))).pair
                                      ((Kd.int IntKind.i64).pair (Kd.int IntKind.i64)))
                                    a1])
                  else
                    bif decide ((excS a0 (List.take a1.length a1)).fst < 0) then
                      some
                        (PV.sc (Value.bool false),
                          [Blk.row false
                              (((Kd.int IntKind.i64).pair
                                    (((Kd.int IntKind.i64).pair (Kd.int IntKind.i64)).pair (Kd.int IntKind.i64))).pair
                                ((Kd.int IntKind.i64).pair (Kd.int IntKind.i64)))
                              a1])
                    else
                      bif decide ((excS a0 (List.take a1.length a1)).fst > 0) then
                        bif
                            decide
                              (IntKind.i64.wrap
                                  (IntKind.i64.wrap
                                      (IntKind.i64.wrap
                                          ((excS a0 (List.take a1.length a1)).fst +
                                            (AtS (List.take a1.length a1) a0.snd.snd.fst).fst.snd.fst) +
                                        a0.snd.snd.snd.snd.snd.snd.snd.fst) *
                                    IntKind.i64.wrap
                                      (IntKind.i64.wrap
                                          ((excS a0 (List.take a1.length a1)).fst +
                                            (AtS (List.take a1.length a1) a0.snd.snd.fst).fst.snd.fst) +
                                        a0.snd.snd.snd.snd.snd.snd.snd.fst)) >
                                sqr (AtS (List.take a1.length a1) a0.snd.snd.fst).fst.fst.snd.fst.fst
                                  (AtS (List.take a1.length a1) a0.snd.snd.fst).fst.fst.snd.fst.snd
                                  a0.snd.snd.snd.fst.fst a0.snd.snd.snd.fst.snd) then
                          some
                            (PV.sc (Value.bool false),
                              [Blk.row false
                                  (((Kd.int IntKind.i64).pair
                                        (((Kd.int IntKind.i64).pair (Kd.int IntKind.i64)).pair
                                          (Kd.int IntKind.i64))).pair
                                    ((Kd.int IntKind.i64).pair (Kd.int IntKind.i64)))
                                  a1])
                        else
                          bif
                              decide
                                (IntKind.i64.wrap
                                    (IntKind.i64.wrap
                                        (IntKind.i64.wrap
                                            (IntKind.i64.wrap
                                                ((excS a0 (List.take a1.length a1)).fst +
                                                  (AtS (List.take a1.length a1) a0.snd.snd.fst).fst.snd.fst) +
                                              a0.snd.snd.snd.snd.snd.snd.snd.fst) +
                                          1) *
                                      IntKind.i64.wrap
                                        (IntKind.i64.wrap
                                            (IntKind.i64.wrap
                                                ((excS a0 (List.take a1.length a1)).fst +
                                                  (AtS (List.take a1.length a1) a0.snd.snd.fst).fst.snd.fst) +
                                              a0.snd.snd.snd.snd.snd.snd.snd.fst) +
                                          1)) ≤
                                  sqr (AtS (List.take a1.length a1) a0.snd.snd.fst).fst.fst.snd.fst.fst
                                    (AtS (List.take a1.length a1) a0.snd.snd.fst).fst.fst.snd.fst.snd
                                    a0.snd.snd.snd.fst.fst a0.snd.snd.snd.fst.snd) then
                            some
                              (PV.sc (Value.bool false),
                                [Blk.row false
                                    (((Kd.int IntKind.i64).pair
                                          (((Kd.int IntKind.i64).pair (Kd.int IntKind.i64)).pair
                                            (Kd.int IntKind.i64))).pair
                                      ((Kd.int IntKind.i64).pair (Kd.int IntKind.i64)))
                                    a1])
                          else
                            bif (cmpS a0 (List.take a1.length a1)).snd == 0 then
                              bif (excS a0 (List.take a1.length a1)).snd.snd == 0 then
                                bif (cmpS a0 (List.take a1.length a1)).fst == 1 then
                                  some
                                    (PV.sc
                                        (Value.bool
                                          ((excS a0 (List.take a1.length a1)).snd.fst ==
                                            max
                                              (IntKind.i64.wrap
                                                (IntKind.i64.wrap
                                                    (aptR (AtS (List.take a1.length a1) a0.snd.snd.fst).fst.fst.snd.snd
                                                        a0.snd.snd.snd.snd.snd.fst -
                                                      (AtS (List.take a1.length a1) a0.snd.snd.fst).fst.snd.snd) -
                                                  100))
                                              0)),
                                      [Blk.row false
                                          (((Kd.int IntKind.i64).pair
                                                (((Kd.int IntKind.i64).pair (Kd.int IntKind.i64)).pair
                                                  (Kd.int IntKind.i64))).pair
                                            ((Kd.int IntKind.i64).pair (Kd.int IntKind.i64)))
                                          a1])
                                else
                                  some
                                    (PV.sc (Value.bool false),
                                      [Blk.row false
                                          (((Kd.int IntKind.i64).pair
                                                (((Kd.int IntKind.i64).pair (Kd.int IntKind.i64)).pair
                                                  (Kd.int IntKind.i64))).pair
                                            ((Kd.int IntKind.i64).pair (Kd.int IntKind.i64)))
                                          a1])
                              else
                                some
                                  (PV.sc (Value.bool false),
                                    [Blk.row false
                                        (((Kd.int IntKind.i64).pair
                                              (((Kd.int IntKind.i64).pair (Kd.int IntKind.i64)).pair
                                                (Kd.int IntKind.i64))).pair
                                          ((Kd.int IntKind.i64).pair (Kd.int IntKind.i64)))
                                        a1])
                            else
                              some
                                (PV.sc (Value.bool false),
                                  [Blk.row false
                                      (((Kd.int IntKind.i64).pair
                                            (((Kd.int IntKind.i64).pair (Kd.int IntKind.i64)).pair
                                              (Kd.int IntKind.i64))).pair
                                        ((Kd.int IntKind.i64).pair (Kd.int IntKind.i64)))
                                      a1])
                      else
                        bif
                            decide
                              (IntKind.i64.wrap
                                  (IntKind.i64.wrap
                                      (IntKind.i64.wrap
                                          (IntKind.i64.wrap
                                              ((excS a0 (List.take a1.length a1)).fst +
                                                (AtS (List.take a1.length a1) a0.snd.snd.fst).fst.snd.fst) +
                                            a0.snd.snd.snd.snd.snd.snd.snd.fst) +
                                        1) *
                                    IntKind.i64.wrap
                                      (IntKind.i64.wrap
                                          (IntKind.i64.wrap
                                              ((excS a0 (List.take a1.length a1)).fst +
                                                (AtS (List.take a1.length a1) a0.snd.snd.fst).fst.snd.fst) +
                                            a0.snd.snd.snd.snd.snd.snd.snd.fst) +
                                        1)) ≤
                                sqr (AtS (List.take a1.length a1) a0.snd.snd.fst).fst.fst.snd.fst.fst
                                  (AtS (List.take a1.length a1) a0.snd.snd.fst).fst.fst.snd.fst.snd
                                  a0.snd.snd.snd.fst.fst a0.snd.snd.snd.fst.snd) then
                          some
                            (PV.sc (Value.bool false),
                              [Blk.row false
                                  (((Kd.int IntKind.i64).pair
                                        (((Kd.int IntKind.i64).pair (Kd.int IntKind.i64)).pair
                                          (Kd.int IntKind.i64))).pair
                                    ((Kd.int IntKind.i64).pair (Kd.int IntKind.i64)))
                                  a1])
                        else
                          bif (cmpS a0 (List.take a1.length a1)).snd == 0 then
                            bif (excS a0 (List.take a1.length a1)).snd.snd == 0 then
                              bif (cmpS a0 (List.take a1.length a1)).fst == 1 then
                                some
                                  (PV.sc
                                      (Value.bool
                                        ((excS a0 (List.take a1.length a1)).snd.fst ==
                                          max
                                            (IntKind.i64.wrap
                                              (IntKind.i64.wrap
                                                  (aptR (AtS (List.take a1.length a1) a0.snd.snd.fst).fst.fst.snd.snd
                                                      a0.snd.snd.snd.snd.snd.fst -
                                                    (AtS (List.take a1.length a1) a0.snd.snd.fst).fst.snd.snd) -
                                                100))
                                            0)),
                                    [Blk.row false
                                        (((Kd.int IntKind.i64).pair
                                              (((Kd.int IntKind.i64).pair (Kd.int IntKind.i64)).pair
                                                (Kd.int IntKind.i64))).pair
                                          ((Kd.int IntKind.i64).pair (Kd.int IntKind.i64)))
                                        a1])
                              else
                                some
                                  (PV.sc (Value.bool false),
                                    [Blk.row false
                                        (((Kd.int IntKind.i64).pair
                                              (((Kd.int IntKind.i64).pair (Kd.int IntKind.i64)).pair
                                                (Kd.int IntKind.i64))).pair
                                          ((Kd.int IntKind.i64).pair (Kd.int IntKind.i64)))
                                        a1])
                            else
                              some
                                (PV.sc (Value.bool false),
                                  [Blk.row false
                                      (((Kd.int IntKind.i64).pair
                                            (((Kd.int IntKind.i64).pair (Kd.int IntKind.i64)).pair
                                              (Kd.int IntKind.i64))).pair
                                        ((Kd.int IntKind.i64).pair (Kd.int IntKind.i64)))
                                      a1])
                          else
                            some
                              (PV.sc (Value.bool false),
                                [Blk.row false
                                    (((Kd.int IntKind.i64).pair
                                          (((Kd.int IntKind.i64).pair (Kd.int IntKind.i64)).pair
                                            (Kd.int IntKind.i64))).pair
                                      ((Kd.int IntKind.i64).pair (Kd.int IntKind.i64)))
                                    a1])
                else
                  bif decide ((excS a0 (List.take a1.length a1)).fst < 0) then
                    some
                      (PV.sc (Value.bool false),
                        [Blk.row false
                            (((Kd.int IntKind.i64).pair
                                  (((Kd.int IntKind.i64).pair (Kd.int IntKind.i64)).pair (Kd.int IntKind.i64))).pair
                              ((Kd.int IntKind.i64).pair (Kd.int IntKind.i64)))
                            a1])
                  else
                    bif decide ((excS a0 (List.take a1.length a1)).fst > 0) then
                      bif
                          decide
                            (IntKind.i64.wrap
                                (IntKind.i64.wrap
                                    (IntKind.i64.wrap
                                        ((excS a0 (List.take a1.length a1)).fst +
                                          (AtS (List.take a1.length a1) a0.snd.snd.fst).fst.snd.fst) +
                                      a0.snd.snd.snd.snd.snd.snd.snd.fst) *
                                  IntKind.i64.wrap
                                    (IntKind.i64.wrap
                                        ((excS a0 (List.take a1.length a1)).fst +
                                          (AtS (List.take a1.length a1) a0.snd.snd.fst).fst.snd.fst) +
                                      a0.snd.snd.snd.snd.snd.snd.snd.fst)) >
                              sqr (AtS (List.take a1.length a1) a0.snd.snd.fst).fst.fst.snd.fst.fst
                                (AtS (List.take a1.length a1) a0.snd.snd.fst).fst.fst.snd.fst.snd a0.snd.snd.snd.fst.fst
                                a0.snd.snd.snd.fst.snd) then
                        some
                          (PV.sc (Value.bool false),
                            [Blk.row false
                                (((Kd.int IntKind.i64).pair
                                      (((Kd.int IntKind.i64).pair (Kd.int IntKind.i64)).pair (Kd.int IntKind.i64))).pair
                                  ((Kd.int IntKind.i64).pair (Kd.int IntKind.i64)))
                                a1])
                      else
                        bif
                            decide
                              (IntKind.i64.wrap
                                  (IntKind.i64.wrap
                                      (IntKind.i64.wrap
                                          (IntKind.i64.wrap
                                              ((excS a0 (List.take a1.length a1)).fst +
                                                (AtS (List.take a1.length a1) a0.snd.snd.fst).fst.snd.fst) +
                                            a0.snd.snd.snd.snd.snd.snd.snd.fst) +
                                        1) *
                                    IntKind.i64.wrap
                                      (IntKind.i64.wrap
                                          (IntKind.i64.wrap
                                              ((excS a0 (List.take a1.length a1)).fst +
                                                (AtS (List.take a1.length a1) a0.snd.snd.fst).fst.snd.fst) +
                                            a0.snd.snd.snd.snd.snd.snd.snd.fst) +
                                        1)) ≤
                                sqr (AtS (List.take a1.length a1) a0.snd.snd.fst).fst.fst.snd.fst.fst
                                  (AtS (List.take a1.length a1) a0.snd.snd.fst).fst.fst.snd.fst.snd
                                  a0.snd.snd.snd.fst.fst a0.snd.snd.snd.fst.snd) then
                          some
                            (PV.sc (Value.bool false),
                              [Blk.row false
                                  (((Kd.int IntKind.i64).pair
                                        (((Kd.int IntKind.i64).pair (Kd.int IntKind.i64)).pair
                                          (Kd.int IntKind.i64))).pair
                                    ((Kd.int IntKind.i64).pair (Kd.int IntKind.i64)))
                                  a1])
                        else
                          bif (cmpS a0 (List.take a1.length a1)).snd == 0 then
                            bif (excS a0 (List.take a1.length a1)).snd.snd == 0 then
                              bif (cmpS a0 (List.take a1.length a1)).fst == 1 then
                                some
                                  (PV.sc
                                      (Value.bool
                                        ((excS a0 (List.take a1.length a1)).snd.fst ==
                                          max
                                            (IntKind.i64.wrap
                                              (IntKind.i64.wrap
                                                  (aptR (AtS (List.take a1.length a1) a0.snd.snd.fst).fst.fst.snd.snd
                                                      a0.snd.snd.snd.snd.snd.fst -
                                                    (AtS (List.take a1.length a1) a0.snd.snd.fst).fst.snd.snd) -
                                                100))
                                            0)),
                                    [Blk.row false
                                        (((Kd.int IntKind.i64).pair
                                              (((Kd.int IntKind.i64).pair (Kd.int IntKind.i64)).pair
                                                (Kd.int IntKind.i64))).pair
                                          ((Kd.int IntKind.i64).pair (Kd.int IntKind.i64)))
                                        a1])
                              else
                                some
                                  (PV.sc (Value.bool false),
                                    [Blk.row false
                                        (((Kd.int IntKind.i64).pair
                                              (((Kd.int IntKind.i64).pair (Kd.int IntKind.i64)).pair
                                                (Kd.int IntKind.i64))).pair
                                          ((Kd.int IntKind.i64).pair (Kd.int IntKind.i64)))
                                        a1])
                            else
                              some
                                (PV.sc (Value.bool false),
                                  [Blk.row false
                                      (((Kd.int IntKind.i64).pair
                                            (((Kd.int IntKind.i64).pair (Kd.int IntKind.i64)).pair
                                              (Kd.int IntKind.i64))).pair
                                        ((Kd.int IntKind.i64).pair (Kd.int IntKind.i64)))
                                      a1])
                          else
                            some
                              (PV.sc (Value.bool false),
                                [Blk.row false
                                    (((Kd.int IntKind.i64).pair
                                          (((Kd.int IntKind.i64).pair (Kd.int IntKind.i64)).pair
                                            (Kd.int IntKind.i64))).pair
                                      ((Kd.int IntKind.i64).pair (Kd.int IntKind.i64)))
                                    a1])
                    else
                      bif
                          decide
                            (IntKind.i64.wrap
                                (IntKind.i64.wrap
                                    (IntKind.i64.wrap
                                        (IntKind.i64.wrap
                                            ((excS a0 (List.take a1.length a1)).fst +
                                              (AtS (List.take a1.length a1) a0.snd.snd.fst).fst.snd.fst) +
                                          a0.snd.snd.snd.snd.snd.snd.snd.fst) +
                                      1) *
                                  IntKind.i64.wrap
                                    (IntKind.i64.wrap
                                        (IntKind.i64.wrap
                                            ((excS a0 (List.take a1.length a1)).fst +
                                              (AtS (List.take a1.length a1) a0.snd.snd.fst).fst.snd.fst) +
                                          a0.snd.snd.snd.snd.snd.snd.snd.fst) +
                                      1)) ≤
                              sqr (AtS (List.take a1.length a1) a0.snd.snd.fst).fst.fst.snd.fst.fst
                                (AtS (List.take a1.length a1) a0.snd.snd.fst).fst.fst.snd.fst.snd a0.snd.snd.snd.fst.fst
                                a0.snd.snd.snd.fst.snd) then
                        some
                          (PV.sc (Value.bool false),
                            [Blk.row false
                                (((Kd.int IntKind.i64).pair
                                      (((Kd.int IntKind.i64).pair (Kd.int IntKind.i64)).pair (Kd.int IntKind.i64))).pair
                                  ((Kd.int IntKind.i64).pair (Kd.int IntKind.i64)))
                                a1])
                      else
                        bif (cmpS a0 (List.take a1.length a1)).snd == 0 then
                          bif (excS a0 (List.take a1.length a1)).snd.snd == 0 then
                            bif (cmpS a0 (List.take a1.length a1)).fst == 1 then
                              some
                                (PV.sc
                                    (Value.bool
                                      ((excS a0 (List.take a1.length a1)).snd.fst ==
                                        max
                                          (IntKind.i64.wrap
                                            (IntKind.i64.wrap
                                                (aptR (AtS (List.take a1.length a1) a0.snd.snd.fst).fst.fst.snd.snd
                                                    a0.snd.snd.snd.snd.snd.fst -
                                                  (AtS (List.take a1.length a1) a0.snd.snd.fst).fst.snd.snd) -
                                              100))
                                          0)),
                                  [Blk.row false
                                      (((Kd.int IntKind.i64).pair
                                            (((Kd.int IntKind.i64).pair (Kd.int IntKind.i64)).pair
                                              (Kd.int IntKind.i64))).pair
                                        ((Kd.int IntKind.i64).pair (Kd.int IntKind.i64)))
                                      a1])
                            else
                              some
                                (PV.sc (Value.bool false),
                                  [Blk.row false
                                      (((Kd.int IntKind.i64).pair
                                            (((Kd.int IntKind.i64).pair (Kd.int IntKind.i64)).pair
                                              (Kd.int IntKind.i64))).pair
                                        ((Kd.int IntKind.i64).pair (Kd.int IntKind.i64)))
                                      a1])
                          else
                            some
                              (PV.sc (Value.bool false),
                                [Blk.row false
                                    (((Kd.int IntKind.i64).pair
                                          (((Kd.int IntKind.i64).pair (Kd.int IntKind.i64)).pair
                                            (Kd.int IntKind.i64))).pair
                                      ((Kd.int IntKind.i64).pair (Kd.int IntKind.i64)))
                                    a1])
                        else
                          some
                            (PV.sc (Value.bool false),
                              [Blk.row false
                                  (((Kd.int IntKind.i64).pair
                                        (((Kd.int IntKind.i64).pair (Kd.int IntKind.i64)).pair
                                          (Kd.int IntKind.i64))).pair
                                    ((Kd.int IntKind.i64).pair (Kd.int IntKind.i64)))
                                  a1])
              else
                bif decide ((excS a0 (List.take a1.length a1)).fst < 0) then
                  some
                    (PV.sc (Value.bool false),
                      [Blk.row false
                          (((Kd.int IntKind.i64).pair
                                (((Kd.int IntKind.i64).pair (Kd.int IntKind.i64)).pair (Kd.int IntKind.i64))).pair
                            ((Kd.int IntKind.i64).pair (Kd.int IntKind.i64)))
                          a1])
                else
                  bif decide ((excS a0 (List.take a1.length a1)).fst > 0) then
                    bif
                        decide
                          (IntKind.i64.wrap
                              (IntKind.i64.wrap
                                  (IntKind.i64.wrap
                                      ((excS a0 (List.take a1.length a1)).fst +
                                        (AtS (List.take a1.length a1) a0.snd.snd.fst).fst.snd.fst) +
                                    a0.snd.snd.snd.snd.snd.snd.snd.fst) *
                                IntKind.i64.wrap
                                  (IntKind.i64.wrap
                                      ((excS a0 (List.take a1.length a1)).fst +
                                        (AtS (List.take a1.length a1) a0.snd.snd.fst).fst.snd.fst) +
                                    a0.snd.snd.snd.snd.snd.snd.snd.fst)) >
                            sqr (AtS (List.take a1.length a1) a0.snd.snd.fst).fst.fst.snd.fst.fst
                              (AtS (List.take a1.length a1) a0.snd.snd.fst).fst.fst.snd.fst.snd a0.snd.snd.snd.fst.fst
                              a0.snd.snd.snd.fst.snd) then
                      some
                        (PV.sc (Value.bool false),
                          [Blk.row false
                              (((Kd.int IntKind.i64).pair
                                    (((Kd.int IntKind.i64).pair (Kd.int IntKind.i64)).pair (Kd.int IntKind.i64))).pair
                                ((Kd.int IntKind.i64).pair (Kd.int IntKind.i64)))
                              a1])
                    else
                      bif
                          decide
                            (IntKind.i64.wrap
                                (IntKind.i64.wrap
                                    (IntKind.i64.wrap
                                        (IntKind.i64.wrap
                                            ((excS a0 (List.take a1.length a1)).fst +
                                              (AtS (List.take a1.length a1) a0.snd.snd.fst).fst.snd.fst) +
                                          a0.snd.snd.snd.snd.snd.snd.snd.fst) +
                                      1) *
                                  IntKind.i64.wrap
                                    (IntKind.i64.wrap
                                        (IntKind.i64.wrap
                                            ((excS a0 (List.take a1.length a1)).fst +
                                              (AtS (List.take a1.length a1) a0.snd.snd.fst).fst.snd.fst) +
                                          a0.snd.snd.snd.snd.snd.snd.snd.fst) +
                                      1)) ≤
                              sqr (AtS (List.take a1.length a1) a0.snd.snd.fst).fst.fst.snd.fst.fst
                                (AtS (List.take a1.length a1) a0.snd.snd.fst).fst.fst.snd.fst.snd a0.snd.snd.snd.fst.fst
                                a0.snd.snd.snd.fst.snd) then
                        some
                          (PV.sc (Value.bool false),
                            [Blk.row false
                                (((Kd.int IntKind.i64).pair
                                      (((Kd.int IntKind.i64).pair (Kd.int IntKind.i64)).pair (Kd.int IntKind.i64))).pair
                                  ((Kd.int IntKind.i64).pair (Kd.int IntKind.i64)))
                                a1])
                      else
                        bif (cmpS a0 (List.take a1.length a1)).snd == 0 then
                          bif (excS a0 (List.take a1.length a1)).snd.snd == 0 then
                            bif (cmpS a0 (List.take a1.length a1)).fst == 1 then
                              some
                                (PV.sc
                                    (Value.bool
                                      ((excS a0 (List.take a1.length a1)).snd.fst ==
                                        max
                                          (IntKind.i64.wrap
                                            (IntKind.i64.wrap
                                                (aptR (AtS (List.take a1.length a1) a0.snd.snd.fst).fst.fst.snd.snd
                                                    a0.snd.snd.snd.snd.snd.fst -
                                                  (AtS (List.take a1.length a1) a0.snd.snd.fst).fst.snd.snd) -
                                              100))
                                          0)),
                                  [Blk.row false
                                      (((Kd.int IntKind.i64).pair
                                            (((Kd.int IntKind.i64).pair (Kd.int IntKind.i64)).pair
                                              (Kd.int IntKind.i64))).pair
                                        ((Kd.int IntKind.i64).pair (Kd.int IntKind.i64)))
                                      a1])
                            else
                              some
                                (PV.sc (Value.bool false),
                                  [Blk.row false
                                      (((Kd.int IntKind.i64).pair
                                            (((Kd.int IntKind.i64).pair (Kd.int IntKind.i64)).pair
                                              (Kd.int IntKind.i64))).pair
                                        ((Kd.int IntKind.i64).pair (Kd.int IntKind.i64)))
                                      a1])
                          else
                            some
                              (PV.sc (Value.bool false),
                                [Blk.row false
                                    (((Kd.int IntKind.i64).pair
                                          (((Kd.int IntKind.i64).pair (Kd.int IntKind.i64)).pair
                                            (Kd.int IntKind.i64))).pair
                                      ((Kd.int IntKind.i64).pair (Kd.int IntKind.i64)))
                                    a1])
                        else
                          some
                            (PV.sc (Value.bool false),
                              [Blk.row false
                                  (((Kd.int IntKind.i64).pair
                                        (((Kd.int IntKind.i64).pair (Kd.int IntKind.i64)).pair
                                          (Kd.int IntKind.i64))).pair
                                    ((Kd.int IntKind.i64).pair (Kd.int IntKind.i64)))
                                  a1])
                  else
                    bif
                        decide
                          (IntKind.i64.wrap
                              (IntKind.i64.wrap
                                  (IntKind.i64.wrap
                                      (IntKind.i64.wrap
                                          ((excS a0 (List.take a1.length a1)).fst +
                                            (AtS (List.take a1.length a1) a0.snd.snd.fst).fst.snd.fst) +
                                        a0.snd.snd.snd.snd.snd.snd.snd.fst) +
                                    1) *
                                IntKind.i64.wrap
                                  (IntKind.i64.wrap
                                      (IntKind.i64.wrap
                                          ((excS a0 (List.take a1.length a1)).fst +
                                            (AtS (List.take a1.length a1) a0.snd.snd.fst).fst.snd.fst) +
                                        a0.snd.snd.snd.snd.snd.snd.snd.fst) +
                                    1)) ≤
                            sqr (AtS (List.take a1.length a1) a0.snd.snd.fst).fst.fst.snd.fst.fst
                              (AtS (List.take a1.length a1) a0.snd.snd.fst).fst.fst.snd.fst.snd a0.snd.snd.snd.fst.fst
                              a0.snd.snd.snd.fst.snd) then
                      some
                        (PV.sc (Value.bool false),
                          [Blk.row false
                              (((Kd.int IntKind.i64).pair
                                    (((Kd.int IntKind.i64).pair (Kd.int IntKind.i64)).pair (Kd.int IntKind.i64))).pair
                                ((Kd.int IntKind.i64).pair (Kd.int IntKind.i64)))
                              a1])
                    else
                      bif (cmpS a0 (List.take a1.length a1)).snd == 0 then
                        bif (excS a0 (List.take a1.length a1)).snd.snd == 0 then
                          bif (cmpS a0 (List.take a1.length a1)).fst == 1 then
                            some
                              (PV.sc
                                  (Value.bool
                                    ((excS a0 (List.take a1.length a1)).snd.fst ==
                                      max
                                        (IntKind.i64.wrap
                                          (IntKind.i64.wrap
                                              (aptR (AtS (List.take a1.length a1) a0.snd.snd.fst).fst.fst.snd.snd
                                                  a0.snd.snd.snd.snd.snd.fst -
                                                (AtS (List.take a1.length a1) a0.snd.snd.fst).fst.snd.snd) -
                                            100))
                                        0)),
                                [Blk.row false
                                    (((Kd.int IntKind.i64).pair
                                          (((Kd.int IntKind.i64).pair (Kd.int IntKind.i64)).pair
                                            (Kd.int IntKind.i64))).pair
                                      ((Kd.int IntKind.i64).pair (Kd.int IntKind.i64)))
                                    a1])
                          else
                            some
                              (PV.sc (Value.bool false),
                                [Blk.row false
                                    (((Kd.int IntKind.i64).pair
                                          (((Kd.int IntKind.i64).pair (Kd.int IntKind.i64)).pair
                                            (Kd.int IntKind.i64))).pair
                                      ((Kd.int IntKind.i64).pair (Kd.int IntKind.i64)))
                                    a1])
                        else
                          some
                            (PV.sc (Value.bool false),
                              [Blk.row false
                                  (((Kd.int IntKind.i64).pair
                                        (((Kd.int IntKind.i64).pair (Kd.int IntKind.i64)).pair
                                          (Kd.int IntKind.i64))).pair
                                    ((Kd.int IntKind.i64).pair (Kd.int IntKind.i64)))
                                  a1])
                      else
                        some
                          (PV.sc (Value.bool false),
                            [Blk.row false
                                (((Kd.int IntKind.i64).pair
                                      (((Kd.int IntKind.i64).pair (Kd.int IntKind.i64)).pair (Kd.int IntKind.i64))).pair
                                  ((Kd.int IntKind.i64).pair (Kd.int IntKind.i64)))
                                a1]))))) := by kernel_rfl
theorem root_le {q d : Int} (h0 : 0 ≤ q) (h1 : q * q ≤ d) (h2 : d ≤ 8000000000000) : q ≤ 3000000 := by
  rcases Int.lt_or_le 3000000 q with h | h
  · have : 3000000 * 3000000 ≤ q * q := Int.mul_le_mul (by omega) (by omega) (by omega) (by omega)
    omega
  · exact h
theorem sq_mono {a b : Int} (h0 : 0 ≤ a) (h : a ≤ b) : a * a ≤ b * b := Int.mul_le_mul h h h0 (by omega)
/-- What is told of the excess: so far outside, and no farther. -/
theorem side_ok {d r s : Int} (h1 : 0 ≤ d) (h2 : d ≤ 8000000000000) (h3 : 0 ≤ r) (h4 : r ≤ 1000000) (h5 : 0 ≤ s) (h6 : s ≤ 4000000) :
    decide (max (W (W (rootS d - r) - s)) 0 < 0) = false ∧ (max (W (W (rootS d - r) - s)) 0 > 0 → decide (W (W (W (max (W (W (rootS d - r) - s)) 0 + r) + s) * W (W (max (W (W (rootS d - r) - s)) 0 + r) + s)) > d) = false) ∧
    decide (W (W (W (W (max (W (W (rootS d - r) - s)) 0 + r) + s) + 1) * W (W (W (max (W (W (rootS d - r) - s)) 0 + r) + s) + 1)) ≤ d) = false := by
  obtain ⟨k1, k2, k3⟩ := root_ok h1 (by omega)
  have k4 := root_le k1 k2 h2
  have k5 : 0 ≤ rootS d * rootS d := Int.mul_nonneg k1 k1
  have e : W (W (rootS d - r) - s) = rootS d - r - s := by rw [W_id (rootS d - r) (by omega) (by omega), W_id _ (by omega) (by omega)]
  rw [e]
  generalize hm : max (rootS d - r - s) 0 = m
  have e2 : W (W (m + r) + s) = m + r + s := by rw [W_id (m + r) (by omega) (by omega), W_id _ (by omega) (by omega)]
  have e3 : W (m + r + s + 1) = m + r + s + 1 := W_id _ (by omega) (by omega)
  rw [e2, e3]
  refine ⟨decide_eq_false (by omega), fun hp => ?_, ?_⟩
  · have : m + r + s = rootS d := by omega
    rw [this, W_id _ (by omega) (by omega)]
    exact decide_eq_false (by omega)
  · have a1 : (rootS d + 1) * (rootS d + 1) ≤ (m + r + s + 1) * (m + r + s + 1) := sq_mono (by omega) (by omega)
    have a2 : (m + r + s + 1) * (m + r + s + 1) ≤ 8000001 * 8000001 := sq_mono (by omega) (by omega)
    rw [W_id _ (by omega) (by omega)]
    exact decide_eq_false (by omega)
theorem p10 (t : Tr) (l : List TN) (nl : Bool) : w10L t l nl = some (.sc (.bool true), [.row false kTN l]) := by
  rw [w10]
  simp only [List.take_length, Nat.zero_add, len_true, cond_true]
  refine guard_split rfl (guard_split rfl (guard_split rfl ?_))
  have e0 : partE t.2.2.1 t.2.2.2.1.1 t.2.2.2.1.2 t.2.2.2.2.2.1 t.2.2.2.2.2.2.2.1 0 = ctE t := rfl
  have z0 : ((0 : Int) == 0) = true := rfl
  have z1 : ((0 : Int) != 0) = false := rfl
  rw [e0]
  by_cases h1 : ctE t = 0
  · have hn : nodeS t l = AtS l (tT t) := by unfold nodeS; rw [h1]; rfl
    by_cases h2 : (AtS l (tT t)).2 = 0
    · have hv := node_in (t := t) (l := l) (by rw [hn]; exact h2)
      have hd := d_in (t := t) (l := l) (by rw [hn]; exact h2)
      obtain ⟨v1, v2, _⟩ := hv
      have hcmp : cmpS t l = (whatS (AtS l (tT t)).1 t, 0) := by unfold cmpS; rw [hn, h2]; rfl
      have hexc : excS t l = (sideS (AtS l (tT t)).1 t, highS (AtS l (tT t)).1 t, 0) := by unfold excS; rw [hn, h2]; rfl
      rw [hn] at v1 hd
      have hT : tT t = t.2.2.1 := rfl
      rw [hcmp, hexc]
      rw [hT] at v1 hd h2 ⊢
      simp only [h1, z0, z1, cond_true, cond_false]
      rw [show ((AtS l t.2.2.1).2 != 0) = false from bne_f h2]
      simp only [cond_false]
      generalize (AtS l t.2.2.1).1 = n at v1 hd ⊢
      obtain ⟨s1, s2, s3⟩ := side_ok (r := Rd n) (s := tR t) hd.1 hd.2 (by omega) (by omega) (by omega) (by omega)
      have S1 : decide (sideS n t < 0) = false := s1
      have S2 : sideS n t > 0 → decide (W (W (W (sideS n t + n.2.1) + t.2.2.2.2.2.2.2.1) * W (W (sideS n t + n.2.1) + t.2.2.2.2.2.2.2.1)) > sqr n.1.2.1.1 n.1.2.1.2 t.2.2.2.1.1 t.2.2.2.1.2) = false := s2
      have S3 : decide (W (W (W (W (sideS n t + n.2.1) + t.2.2.2.2.2.2.2.1) + 1) * W (W (W (sideS n t + n.2.1) + t.2.2.2.2.2.2.2.1) + 1)) ≤ sqr n.1.2.1.1 n.1.2.1.2 t.2.2.2.1.1 t.2.2.2.1.2) = false := s3
      have ha : aptR n.1.2.2 t.2.2.2.2.2.1 = hS n t := apt_eq (a := Hh n) (b := tH t) (by omega) (by omega) (by omega) (by omega)
      have hnear : W (Rd n - tR t) = Rd n - tR t := W_id _ (by omega) (by omega)
      have E : (highS n t == max (W (W (hS n t - n.2.2) - 100)) 0) = true := beq_self_eq_true _
      have H3 : decide (W (Rd n - tR t) ≥ 0) = decide (n.2.1 ≥ t.2.2.2.2.2.2.2.1) := by
        rw [hnear]; exact decide_eq_decide.mpr (show Rd n - tR t ≥ 0 ↔ Rd n ≥ tR t by omega)
      have fin : ∀ c1 c2 c3 c4 c5 : Bool, whatS n t = (bif c1 || c2 then 2 else bif c3 && (c4 && c5) then 0 else 1) →
          (cond c1 (cond (whatS n t == 2) (some (PV.sc (.bool true), [Blk.row false kTN l])) (some (PV.sc (.bool false), [Blk.row false kTN l])))
            (cond c2 (cond (whatS n t == 2) (some (PV.sc (.bool true), [Blk.row false kTN l])) (some (PV.sc (.bool false), [Blk.row false kTN l])))
              (cond c3 (cond c4 (cond c5 (cond (whatS n t == 0) (some (PV.sc (.bool true), [Blk.row false kTN l])) (some (PV.sc (.bool false), [Blk.row false kTN l]))) (cond (whatS n t == 1) (some (PV.sc (.bool true), [Blk.row false kTN l])) (some (PV.sc (.bool false), [Blk.row false kTN l]))))
                (cond (whatS n t == 1) (some (PV.sc (.bool true), [Blk.row false kTN l])) (some (PV.sc (.bool false), [Blk.row false kTN l]))))
                (cond (whatS n t == 1) (some (PV.sc (.bool true), [Blk.row false kTN l])) (some (PV.sc (.bool false), [Blk.row false kTN l])))))) = some (PV.sc (.bool true), [Blk.row false kTN l]) := by
        intro c1 c2 c3 c4 c5 h
        rw [h]
        cases c1 <;> cases c2 <;> cases c3 <;> cases c4 <;> cases c5 <;> rfl
      have hw : whatS n t = (bif decide (sqr n.1.2.1.1 n.1.2.1.2 t.2.2.2.1.1 t.2.2.2.1.2 > W (W (n.2.1 + t.2.2.2.2.2.2.2.1) * W (n.2.1 + t.2.2.2.2.2.2.2.1))) || decide (hS n t > W (n.2.2 + 100)) then 2 else
          bif decide (n.2.1 ≥ t.2.2.2.2.2.2.2.1) && (decide (sqr n.1.2.1.1 n.1.2.1.2 t.2.2.2.1.1 t.2.2.2.1.2 ≤ W (W (n.2.1 - t.2.2.2.2.2.2.2.1) * W (n.2.1 - t.2.2.2.2.2.2.2.1))) && decide (hS n t ≤ W (n.2.2 - 100))) then 0 else 1) := by
        unfold whatS; rw [H3]; rfl
      by_cases hp : sideS n t > 0
      · simp only [S1, decide_eq_true hp, S2 hp, S3, ha, E, cond_true, cond_false]
        exact fin _ _ _ _ _ hw
      · simp only [S1, decide_eq_false hp, S3, ha, E, cond_true, cond_false]
        exact fin _ _ _ _ _ hw
    · have hcmp : cmpS t l = (0, (AtS l (tT t)).2) := by unfold cmpS; rw [hn, decide_eq_false h2]; rfl
      have hexc : excS t l = (0, 0, (AtS l (tT t)).2) := by unfold excS; rw [hn, decide_eq_false h2]; rfl
      rw [hcmp, hexc]
      simp only [h1, z0, z1, cond_true, cond_false]
      rw [show ((AtS l t.2.2.1).2 != 0) = true from bne_t h2]
      simp only [cond_true]
      rw [show ((AtS l (tT t)).2 == (AtS l t.2.2.1).2) = true from beq_self_eq_true _]
      rfl
  · have hn : nodeS t l = (zTN, ctE t) := by unfold nodeS; rw [decide_eq_false h1]; rfl
    have hcmp : cmpS t l = (0, ctE t) := by unfold cmpS; rw [hn, decide_eq_false h1]; rfl
    have hexc : excS t l = (0, 0, ctE t) := by unfold excS; rw [hn, decide_eq_false h1]; rfl
    rw [hcmp, hexc]
    simp only [bne_t h1, beq_self_eq_true, z0, z1, cond_true, cond_false]
theorem lawOK (v : denA [(.s (.v ⟨true, (Kd.pair (Kd.int .i64) (Kd.pair (Kd.int .i64) (Kd.pair (Kd.int .i64) (Kd.pair (Kd.pair (Kd.int .i64) (Kd.int .i64)) (Kd.pair (Kd.pair (Kd.int .i64) (Kd.int .i64)) (Kd.pair (Kd.int .i64) (Kd.pair (Kd.int .i64) (Kd.pair (Kd.int .i64) (Kd.pair (Kd.int .i64) (Kd.pair (Kd.int .i64) (Kd.int .i64)))))))))))⟩)), (.s (.ro (Kd.pair (Kd.pair (Kd.int .i64) (Kd.pair (Kd.pair (Kd.int .i64) (Kd.int .i64)) (Kd.int .i64))) (Kd.pair (Kd.int .i64) (Kd.int .i64)))))]) (h : (both (gInt .i64) (both (gInt .i64) (both (gInt .i64) (both (both (gInt .i64) (gInt .i64)) (both (both (gInt .i64) (gInt .i64)) (both (gInt .i64) (both (gInt .i64) (both (gInt .i64) (both (gInt .i64) (both (gInt .i64) (gInt .i64))))))))))) v.1 ∧ (gSlice (k := (Kd.pair (Kd.pair (Kd.int .i64) (Kd.pair (Kd.pair (Kd.int .i64) (Kd.int .i64)) (Kd.int .i64))) (Kd.pair (Kd.int .i64) (Kd.int .i64)))) 48 (both (both (gInt .i64) (both (both (gInt .i64) (gInt .i64)) (gInt .i64))) (both (gInt .i64) (gInt .i64)))) v.2.1 ∧ True) : ∃ H', CallOK Try.prog 10 (showA 0 [(.s (.v ⟨true, (Kd.pair (Kd.int .i64) (Kd.pair (Kd.int .i64) (Kd.pair (Kd.int .i64) (Kd.pair (Kd.pair (Kd.int .i64) (Kd.int .i64)) (Kd.pair (Kd.pair (Kd.int .i64) (Kd.int .i64)) (Kd.pair (Kd.int .i64) (Kd.pair (Kd.int .i64) (Kd.pair (Kd.int .i64) (Kd.pair (Kd.int .i64) (Kd.pair (Kd.int .i64) (Kd.int .i64)))))))))))⟩)), (.s (.ro (Kd.pair (Kd.pair (Kd.int .i64) (Kd.pair (Kd.pair (Kd.int .i64) (Kd.int .i64)) (Kd.int .i64))) (Kd.pair (Kd.int .i64) (Kd.int .i64)))))] v).1 (showA 0 [(.s (.v ⟨true, (Kd.pair (Kd.int .i64) (Kd.pair (Kd.int .i64) (Kd.pair (Kd.int .i64) (Kd.pair (Kd.pair (Kd.int .i64) (Kd.int .i64)) (Kd.pair (Kd.pair (Kd.int .i64) (Kd.int .i64)) (Kd.pair (Kd.int .i64) (Kd.pair (Kd.int .i64) (Kd.pair (Kd.int .i64) (Kd.pair (Kd.int .i64) (Kd.pair (Kd.int .i64) (Kd.int .i64)))))))))))⟩)), (.s (.ro (Kd.pair (Kd.pair (Kd.int .i64) (Kd.pair (Kd.pair (Kd.int .i64) (Kd.int .i64)) (Kd.int .i64))) (Kd.pair (Kd.int .i64) (Kd.int .i64)))))] v).2 (.sc (.bool true)) H' := by
  exact ⟨_, evFuncV_sound TC3_ok mixed Try.func10 (show Try.f10.body = some (bodyF Try.f10) from rfl) (noCuts_ok _) (p10 v.1 v.2.1.1 v.2.1.2) (by rw [showA_len]; decide)⟩
end Go.Proofs.YtpndjpjpmcehbaaTu
