/- What is proved: what the reference's Read answers, in plain functions of the bytes: the same as Decode. No condition. -/
import Derived.Test.YtacdahpjmeianaaTwj8
namespace Go.Proofs.YtacdahpjmeianaaWi
open Go Go.Proofs Go.Proofs.YtacdahpjmeianaaEv Go.Proofs.YtacdahpjmeianaaFl
set_option maxRecDepth 100000
set_option maxHeartbeats 4000000
set_option linter.unusedVariables false
set_option linter.unusedSimpArgs false
noncomputable abbrev j68aL (a0 : ByteArray) (a1 : Int) (a2 : Int) (a3 : Int) (a4 : Int) (a5 : Int) (a6 : Int) (a7 : Int) (a8 : Int) (a9 : List (Int × Int × Int × Int × Int × Int)) (a10 : Bool) (a11 : Int) (a12 : Int) := evRound Try.prog J3 noCuts 143 (loopOf (codeAt 0 (bodyF Try.f68))) kRe muRe (killA 0 kRe) [0, 2, 3, 4, 5, 6, 75, 76] [3, 4] cRe (a0, ((a1, (a2, ((), ()))), (a3, (a4, ((a5, (a6, ((), ()))), ((a7, (a8, ((a9, a10), ()))), (a11, (a12, ()))))))))
theorem j68a (a0 : ByteArray) (a1 : Int) (a2 : Int) (a3 : Int) (a4 : Int) (a5 : Int) (a6 : Int) (a7 : Int) (a8 : Int) (a9 : List (Int × Int × Int × Int × Int × Int)) (a10 : Bool) (a11 : Int) (a12 : Int) : j68aL a0 a1 a2 a3 a4 a5 a6 a7 a8 a9 a10 a11 a12 = (bif decide (a12 < a11) then
  guardB
    (decide (0 ≤ IntKind.i64.wrap (9 + IntKind.i64.wrap (16 * a12))) &&
        decide
          (IntKind.i64.wrap (9 + IntKind.i64.wrap (16 * a12)) ≤ IntKind.i64.wrap (25 + IntKind.i64.wrap (16 * a12))) &&
      decide (IntKind.i64.wrap (25 + IntKind.i64.wrap (16 * a12)) ≤ (↑a0.size : Int)))
    (guardB
      (decide
        (4 ≤
          (↑(a0.extract (IntKind.i64.wrap (9 + IntKind.i64.wrap (16 * a12))).toNat
                  (IntKind.i64.wrap (25 + IntKind.i64.wrap (16 * a12))).toNat).size :
            Int)))
      (guardB
        (decide
          (((a0.extract (IntKind.i64.wrap (9 + IntKind.i64.wrap (16 * a12))).toNat
                    (IntKind.i64.wrap (25 + IntKind.i64.wrap (16 * a12))).toNat).extract
                (Int.toNat 0) (Int.toNat 4)).size ≤
            7))
        (guardB
          (decide
            (8 ≤
              (↑(a0.extract (IntKind.i64.wrap (9 + IntKind.i64.wrap (16 * a12))).toNat
                      (IntKind.i64.wrap (25 + IntKind.i64.wrap (16 * a12))).toNat).size :
                Int)))
          (guardB
            (decide
              (((a0.extract (IntKind.i64.wrap (9 + IntKind.i64.wrap (16 * a12))).toNat
                        (IntKind.i64.wrap (25 + IntKind.i64.wrap (16 * a12))).toNat).extract
                    (Int.toNat 4) (Int.toNat 8)).size ≤
                7))
            (bif
                FloatKind.f64.format.order
                      (IntKind.u64.wrap
                          (↑(BitVec.ofInt IntKind.u64.bits
                                    (IntKind.u64.wrap
                                      (IntKind.u64.wrap
                                          (numS
                                            ((a0.extract (IntKind.i64.wrap (9 + IntKind.i64.wrap (16 * a12))).toNat
                                                  (IntKind.i64.wrap (25 + IntKind.i64.wrap (16 * a12))).toNat).extract
                                              (Int.toNat 0) (Int.toNat 4))) *
                                        4294967296)) |||
                                  BitVec.ofInt IntKind.u64.bits
                                    (IntKind.u64.wrap
                                      (numS
                                        ((a0.extract (IntKind.i64.wrap (9 + IntKind.i64.wrap (16 * a12))).toNat
                                              (IntKind.i64.wrap (25 + IntKind.i64.wrap (16 * a12))).toNat).extract
                                          (Int.toNat 4) (Int.toNat 8))))).toNat :
                            Int)).toNat
                      0 ==
                    some Ordering.gt ||
                  FloatKind.f64.format.order
                      (IntKind.u64.wrap
                          (↑(BitVec.ofInt IntKind.u64.bits
                                    (IntKind.u64.wrap
                                      (IntKind.u64.wrap
                                          (numS
                                            ((a0.extract (IntKind.i64.wrap (9 + IntKind.i64.wrap (16 * a12))).toNat
                                                  (IntKind.i64.wrap (25 + IntKind.i64.wrap (16 * a12))).toNat).extract
                                              (Int.toNat 0) (Int.toNat 4))) *
                                        4294967296)) |||
                                  BitVec.ofInt IntKind.u64.bits
                                    (IntKind.u64.wrap
                                      (numS
                                        ((a0.extract (IntKind.i64.wrap (9 + IntKind.i64.wrap (16 * a12))).toNat
                                              (IntKind.i64.wrap (25 + IntKind.i64.wrap (16 * a12))).toNat).extract
                                          (Int.toNat 4) (Int.toNat 8))))).toNat :
                            Int)).toNat
                      0 ==
                    some Ordering.eq then
              bif
                  !(FloatKind.f64.format.order
                          (IntKind.u64.wrap
                              (↑(BitVec.ofInt IntKind.u64.bits
                                        (IntKind.u64.wrap
                                          (IntKind.u64.wrap
                                              (numS
                                                ((a0.extract (IntKind.i64.wrap (9 + IntKind.i64.wrap (16 * a12))).toNat
                                                      (IntKind.i64.wrap
                                                          (25 + IntKind.i64.wrap (16 * a12))).toNat).extract
                                                  (Int.toNat 0) (Int.toNat 4))) *
                                            4294967296)) |||
                                      BitVec.ofInt IntKind.u64.bits
                                        (IntKind.u64.wrap
                                          (numS
                                            ((a0.extract (IntKind.i64.wrap (9 + IntKind.i64.wrap (16 * a12))).toNat
                                                  (IntKind.i64.wrap (25 + IntKind.i64.wrap (16 * a12))).toNat).extract
                                              (Int.toNat 4) (Int.toNat 8))))).toNat :
                                Int)).toNat
                          4701340746312056832 ==
                        some Ordering.lt ||
                      FloatKind.f64.format.order
                          (IntKind.u64.wrap
                              (↑(BitVec.ofInt IntKind.u64.bits
                                        (IntKind.u64.wrap
                                          (IntKind.u64.wrap
                                              (numS
                                                ((a0.extract (IntKind.i64.wrap (9 + IntKind.i64.wrap (16 * a12))).toNat
                                                      (IntKind.i64.wrap
                                                          (25 + IntKind.i64.wrap (16 * a12))).toNat).extract
                                                  (Int.toNat 0) (Int.toNat 4))) *
                                            4294967296)) |||
                                      BitVec.ofInt IntKind.u64.bits
                                        (IntKind.u64.wrap
                                          (numS
                                            ((a0.extract (IntKind.i64.wrap (9 + IntKind.i64.wrap (16 * a12))).toNat
                                                  (IntKind.i64.wrap (25 + IntKind.i64.wrap (16 * a12))).toNat).extract
                                              (Int.toNat 4) (Int.toNat 8))))).toNat :
                                Int)).toNat
                          4701340746312056832 ==
                        some Ordering.eq) then
                some
                  (Xt.ret, [PV.sc (Value.int IntKind.i64 0), PV.sc (Value.int IntKind.i64 3)],
                    [Blk.fix true
                        [PV.sc (Value.int IntKind.i64 a5), PV.sc (Value.int IntKind.i64 a6),
                          PV.sc (Value.slice none 0 0)],
                      Blk.fix true
                        [PV.sc (Value.int IntKind.i64 a5), PV.sc (Value.int IntKind.i64 a6),
                          PV.sc (Value.slice none 0 0)],
                      Blk.fix true
                        [PV.sc (Value.int IntKind.i64 a7), PV.sc (Value.int IntKind.i64 a8),
                          PV.sl 4 0 6 a9.length a9.length false a10],
                      Blk.dead,
                      Blk.row true
                        ((Kd.int IntKind.i64).pair
                          ((Kd.int IntKind.i64).pair
                            ((Kd.int IntKind.i64).pair
                              ((Kd.int IntKind.i64).pair ((Kd.int IntKind.i64).pair (Kd.int IntKind.i64))))))
                        a9])
              else
                bindO
                  (floatToIntVal FloatKind.f64
                    (IntKind.u64.wrap
                        (↑(BitVec.ofInt IntKind.u64.bits
                                  (IntKind.u64.wrap
                                    (IntKind.u64.wrap
                                        (numS
                                          ((a0.extract (IntKind.i64.wrap (9 + IntKind.i64.wrap (16 * a12))).toNat
                                                (IntKind.i64.wrap (25 + IntKind.i64.wrap (16 * a12))).toNat).extract
                                            (Int.toNat 0) (Int.toNat 4))) *
                                      4294967296)) |||
                                BitVec.ofInt IntKind.u64.bits
                                  (IntKind.u64.wrap
                                    (numS
                                      ((a0.extract (IntKind.i64.wrap (9 + IntKind.i64.wrap (16 * a12))).toNat
                                            (IntKind.i64.wrap (25 + IntKind.i64.wrap (16 * a12))).toNat).extract
                                        (Int.toNat 4) (Int.toNat 8))))).toNat :
                          Int)).toNat
                    IntKind.i64)
                  fun x =>
                  guardB
                    (decide
                      (10 ≤
                        (↑(a0.extract (IntKind.i64.wrap (9 + IntKind.i64.wrap (16 * a12))).toNat
                                (IntKind.i64.wrap (25 + IntKind.i64.wrap (16 * a12))).toNat).size :
                          Int)))
                    (guardB
                      (decide
                        (((a0.extract (IntKind.i64.wrap (9 + IntKind.i64.wrap (16 * a12))).toNat
                                  (IntKind.i64.wrap (25 + IntKind.i64.wrap (16 * a12))).toNat).extract
                              (Int.toNat 8) (Int.toNat 10)).size ≤
                          7))
                      (guardB
                        (decide
                          (14 ≤
                            (↑(a0.extract (IntKind.i64.wrap (9 + IntKind.i64.wrap (16 * a12))).toNat
                                    (IntKind.i64.wrap (25 + IntKind.i64.wrap (16 * a12))).toNat).size :
                              Int)))
                        (guardB
                          (decide
                            (((a0.extract (IntKind.i64.wrap (9 + IntKind.i64.wrap (16 * a12))).toNat
                                      (IntKind.i64.wrap (25 + IntKind.i64.wrap (16 * a12))).toNat).extract
                                  (Int.toNat 10) (Int.toNat 14)).size ≤
                              7))
                          (guardB
                            (decide
                              (16 ≤
                                (↑(a0.extract (IntKind.i64.wrap (9 + IntKind.i64.wrap (16 * a12))).toNat
                                        (IntKind.i64.wrap (25 + IntKind.i64.wrap (16 * a12))).toNat).size :
                                  Int)))
                            (guardB
                              (decide
                                (((a0.extract (IntKind.i64.wrap (9 + IntKind.i64.wrap (16 * a12))).toNat
                                          (IntKind.i64.wrap (25 + IntKind.i64.wrap (16 * a12))).toNat).extract
                                      (Int.toNat 14) (Int.toNat 16)).size ≤
                                  7))
                              (guardB
                                (decide (0 + a9.length ≤ a9.length) && true &&
                                    decide ((a9.length + 1) * 48 ≤ 140737488355328) &&
                                  decide (a9.length + 1 ≤ 4611686018427387904))
                                (guardB
                                  (decide
                                    (muRe
                                        (a0, (a1, a2, (), ()), a3, a4, (a5, a6, (), ()),
                                          (a7, a8,
                                            (List.take a9.length a9 ++
                                                [(a7, a8, x,
                                                    numS
                                                      ((a0.extract
                                                            (IntKind.i64.wrap (9 + IntKind.i64.wrap (16 * a12))).toNat
                                                            (IntKind.i64.wrap
                                                                (25 + IntKind.i64.wrap (16 * a12))).toNat).extract
                                                        (Int.toNat 8) (Int.toNat 10)),
                                                    numS
                                                      ((a0.extract
                                                            (IntKind.i64.wrap (9 + IntKind.i64.wrap (16 * a12))).toNat
                                                            (IntKind.i64.wrap
                                                                (25 + IntKind.i64.wrap (16 * a12))).toNat).extract
                                                        (Int.toNat 10) (Int.toNat 14)),
                                                    IntKind.i64.wrap
                                                      (numS
                                                          ((a0.extract
                                                                (IntKind.i64.wrap
                                                                    (9 + IntKind.i64.wrap (16 * a12))).toNat
                                                                (IntKind.i64.wrap
                                                                    (25 + IntKind.i64.wrap (16 * a12))).toNat).extract
                                                            (Int.toNat 14) (Int.toNat 16)) -
                                                        1))],
                                              false),
                                            ()),
                                          a11, IntKind.i64.wrap (a12 + 1), ()) <
                                      muRe
                                        (a0, (a1, a2, (), ()), a3, a4, (a5, a6, (), ()), (a7, a8, (a9, a10), ()), a11,
                                          a12, ())))
                                  (guardB
                                    (bif
                                        decide
                                          (a9.length + 1 =
                                            (List.take a9.length a9 ++
                                                [(a7, a8, x,
                                                    numS
                                                      ((a0.extract
                                                            (IntKind.i64.wrap (9 + IntKind.i64.wrap (16 * a12))).toNat
                                                            (IntKind.i64.wrap
                                                                (25 + IntKind.i64.wrap (16 * a12))).toNat).extract
                                                        (Int.toNat 8) (Int.toNat 10)),
                                                    numS
                                                      ((a0.extract
                                                            (IntKind.i64.wrap (9 + IntKind.i64.wrap (16 * a12))).toNat
                                                            (IntKind.i64.wrap
                                                                (25 + IntKind.i64.wrap (16 * a12))).toNat).extract
                                                        (Int.toNat 10) (Int.toNat 14)),
                                                    IntKind.i64.wrap
                                                      (numS
                                                          ((a0.extract
                                                                (IntKind.i64.wrap
                                                                    (9 + IntKind.i64.wrap (16 * a12))).toNat
                                                                (IntKind.i64.wrap
                                                                    (25 + IntKind.i64.wrap (16 * a12))).toNat).extract
                                                            (Int.toNat 14) (Int.toNat 16)) -
                                                        1))]).length) then
                                      bp
                                        (okRe a0
                                          (List.take a9.length a9 ++
                                            [(a7, a8, x,
                                                numS
                                                  ((a0.extract
                                                        (IntKind.i64.wrap (9 + IntKind.i64.wrap (16 * a12))).toNat
                                                        (IntKind.i64.wrap
                                                            (25 + IntKind.i64.wrap (16 * a12))).toNat).extract
                                                    (Int.toNat 8) (Int.toNat 10)),
                                                numS
                                                  ((a0.extract
                                                        (IntKind.i64.wrap (9 + IntKind.i64.wrap (16 * a12))).toNat
                                                        (IntKind.i64.wrap
                                                            (25 + IntKind.i64.wrap (16 * a12))).toNat).extract
                                                    (Int.toNat 10) (Int.toNat 14)),
                                                IntKind.i64.wrap
                                                  (numS
                                                      ((a0.extract
                                                            (IntKind.i64.wrap (9 + IntKind.i64.wrap (16 * a12))).toNat
                                                            (IntKind.i64.wrap
                                                                (25 + IntKind.i64.wrap (16 * a12))).toNat).extract
                                                        (Int.toNat 14) (Int.toNat 16)) -
                                                    1))])
                                          a11 (IntKind.i64.wrap (a12 + 1)) a1 a2 a5 a6)
                                    else false)
                                    (bif
                                        flO a0 (IntKind.i64.wrap (a12 + 1))
                                          (Int.toNat (a11 - IntKind.i64.wrap (a12 + 1))) then
                                      some
                                        (Xt.exit 0,
                                          [PV.sc (Value.int IntKind.i64 a3), PV.sc (Value.int IntKind.i64 a4)],
                                          [Blk.fix true
                                              [PV.sc (Value.int IntKind.i64 0), PV.sc (Value.int IntKind.i64 0),
                                                PV.sc (Value.slice none 0 0)],
                                            Blk.fix true
                                              [PV.sc (Value.int IntKind.i64 0), PV.sc (Value.int IntKind.i64 0),
                                                PV.sc (Value.slice none 0 0)],
                                            Blk.fix true
                                              [PV.sc (Value.int IntKind.i64 a7), PV.sc (Value.int IntKind.i64 a8),
                                                PV.sl 4 0 6
                                                  (postRe
                                                                          (a0, (a1, a2, (), ()), a3, a4,
                                                                            (a5, a6, (), ()),
                                                                            (a7, a8,
                                                                              (List.take a9.length a9 ++
                                                                                  [(a7, a8, x,
                                                                                      numS
                                                                                        ((a0.extract
                                                                                              (IntKind.i64.wrap
                                                                                                  (9 +
                                                                                                    IntKind.i64.wrap
                                                                                                      (16 * a12))).toNat
                                                                                              (IntKind.i64.wrap
                                                                                                  (25 +
                                                                                                    IntKind.i64.wrap
                                                                                                      (16 *
                                                                                                        a12))).toNat).extract
                                                                                          (Int.toNat 8) (Int.toNat 10)),
                                                                                      numS
                                                                                        ((a0.extract
                                                                                              (IntKind.i64.wrap
                                                                                                  (9 +
                                                                                                    IntKind.i64.wrap
                                                                                                      (16 * a12))).toNat
                                                                                              (IntKind.i64.wrap
                                                                                                  (25 +
                                                                                                    IntKind.i64.wrap
                                                                                                      (16 *
                                                                                                        a12))).toNat).extract
                                                                                          (Int.toNat 10)
                                                                                          (Int.toNat 14)),
                                                                                      IntKind.i64.wrap
                                                                                        (numS
                                                                                            ((a0.extract
                                                                                                  (IntKind.i64.wrap
                                                                                                      (9 +
                                                                                                        IntKind.i64.wrap
                                                                                                          (16 *
                                                                                                            a12))).toNat
                                                                                                  (IntKind.i64.wrap
                                                                                                      (25 +
                                                                                                        IntKind.i64.wrap
                                                                                                          (16 *
                                                                                                            a12))).toNat).extract
                                                                                              (Int.toNat 14)
                                                                                              (Int.toNat 16)) -
                                                                                          1))],
                                                                                false),
                                                                              ()),
                                                                            a11, IntKind.i64.wrap (a12 + 1),
                                                                            ())).snd.snd.snd.snd.snd.fst.snd.snd.fst.fst.length
                                                  (postRe
                                                                          (a0, (a1, a2, (), ()), a3, a4,
                                                                            (a5, a6, (), ()),
                                                                            (a7, a8,
                                                                              (List.take a9.length a9 ++
                                                                                  [(a7, a8, x,
                                                                                      numS
                                                                                        ((a0.extract
                                                                                              (IntKind.i64.wrap
                                                                                                  (9 +
                                                                                                    IntKind.i64.wrap
                                                                                                      (16 * a12))).toNat
                                                                                              (IntKind.i64.wrap
                                                                                                  (25 +
                                                                                                    IntKind.i64.wrap
                                                                                                      (16 *
                                                                                                        a12))).toNat).extract
                                                                                          (Int.toNat 8) (Int.toNat 10)),
                                                                                      numS
                                                                                        ((a0.extract
                                                                                              (IntKind.i64.wrap
                                                                                                  (9 +
                                                                                                    IntKind.i64.wrap
                                                                                                      (16 * a12))).toNat
                                                                                              (IntKind.i64.wrap
                                                                                                  (25 +
                                                                                                    IntKind.i64.wrap
                                                                                                      (16 *
                                                                                                        a12))).toNat).extract
                                                                                          (Int.toNat 10)
                                                                                          (Int.toNat 14)),
                                                                                      IntKind.i64.wrap
                                                                                        (numS
                                                                                            ((a0.extract
                                                                                                  (IntKind.i64.wrap
                                                                                                      (9 +
                                                                                                        IntKind.i64.wrap
                                                                                                          (16 *
                                                                                                            a12))).toNat
                                                                                                  (IntKind.i64.wrap
                                                                                                      (25 +
                                                                                                        IntKind.i64.wrap
                                                                                                          (16 *
                                                                                                            a12))).toNat).extract
                                                                                              (Int.toNat 14)
                                                                                              (Int.toNat 16)) -
                                                                                          1))],
                                                                                false),
                                                                              ()),
                                                                            a11, IntKind.i64.wrap (a12 + 1),
                                                                            ())).snd.snd.snd.snd.snd.fst.snd.snd.fst.fst.length
                                                  false (flagR a0 a11 (IntKind.i64.wrap (a12 + 1)) false)],
                                            Blk.dead,
                                            Blk.row true
                                              ((Kd.int IntKind.i64).pair
                                                ((Kd.int IntKind.i64).pair
                                                  ((Kd.int IntKind.i64).pair
                                                    ((Kd.int IntKind.i64).pair
                                                      ((Kd.int IntKind.i64).pair (Kd.int IntKind.i64))))))
                                              (List.take a9.length a9 ++
                                                  [(a7, a8, x,
                                                      numS
                                                        ((a0.extract
                                                              (IntKind.i64.wrap (9 + IntKind.i64.wrap (16 * a12))).toNat
                                                              (IntKind.i64.wrap
                                                                  (25 + IntKind.i64.wrap (16 * a12))).toNat).extract
                                                          (Int.toNat 8) (Int.toNat 10)),
                                                      numS
                                                        ((a0.extract
                                                              (IntKind.i64.wrap (9 + IntKind.i64.wrap (16 * a12))).toNat
                                                              (IntKind.i64.wrap
                                                                  (25 + IntKind.i64.wrap (16 * a12))).toNat).extract
                                                          (Int.toNat 10) (Int.toNat 14)),
                                                      IntKind.i64.wrap
                                                        (numS
                                                            ((a0.extract
                                                                  (IntKind.i64.wrap
                                                                      (9 + IntKind.i64.wrap (16 * a12))).toNat
                                                                  (IntKind.i64.wrap
                                                                      (25 + IntKind.i64.wrap (16 * a12))).toNat).extract
                                                              (Int.toNat 14) (Int.toNat 16)) -
                                                          1))] ++
                                                flT a0 a7 a8 (IntKind.i64.wrap (a12 + 1))
                                                  (Int.toNat (a11 - IntKind.i64.wrap (a12 + 1))))])
                                    else
                                      some
                                        (Xt.ret, [PV.sc (Value.int IntKind.i64 0), PV.sc (Value.int IntKind.i64 3)],
                                          [Blk.fix true
                                              [PV.sc (Value.int IntKind.i64 0), PV.sc (Value.int IntKind.i64 0),
                                                PV.sc (Value.slice none 0 0)],
                                            Blk.fix true
                                              [PV.sc (Value.int IntKind.i64 0), PV.sc (Value.int IntKind.i64 0),
                                                PV.sc (Value.slice none 0 0)],
                                            Blk.fix true
                                              [PV.sc (Value.int IntKind.i64 a7), PV.sc (Value.int IntKind.i64 a8),
                                                PV.sl 4 0 6
                                                  (postRe
                                                                          (a0, (a1, a2, (), ()), a3, a4,
                                                                            (a5, a6, (), ()),
                                                                            (a7, a8,
                                                                              (List.take a9.length a9 ++
                                                                                  [(a7, a8, x,
                                                                                      numS
                                                                                        ((a0.extract
                                                                                              (IntKind.i64.wrap
                                                                                                  (9 +
                                                                                                    IntKind.i64.wrap
                                                                                                      (16 * a12))).toNat
                                                                                              (IntKind.i64.wrap
                                                                                                  (25 +
                                                                                                    IntKind.i64.wrap
                                                                                                      (16 *
                                                                                                        a12))).toNat).extract
                                                                                          (Int.toNat 8) (Int.toNat 10)),
                                                                                      numS
                                                                                        ((a0.extract
                                                                                              (IntKind.i64.wrap
                                                                                                  (9 +
                                                                                                    IntKind.i64.wrap
                                                                                                      (16 * a12))).toNat
                                                                                              (IntKind.i64.wrap
                                                                                                  (25 +
                                                                                                    IntKind.i64.wrap
                                                                                                      (16 *
                                                                                                        a12))).toNat).extract
                                                                                          (Int.toNat 10)
                                                                                          (Int.toNat 14)),
                                                                                      IntKind.i64.wrap
                                                                                        (numS
                                                                                            ((a0.extract
                                                                                                  (IntKind.i64.wrap
                                                                                                      (9 +
                                                                                                        IntKind.i64.wrap
                                                                                                          (16 *
                                                                                                            a12))).toNat
                                                                                                  (IntKind.i64.wrap
                                                                                                      (25 +
                                                                                                        IntKind.i64.wrap
                                                                                                          (16 *
                                                                                                            a12))).toNat).extract
                                                                                              (Int.toNat 14)
                                                                                              (Int.toNat 16)) -
                                                                                          1))],
                                                                                false),
                                                                              ()),
                                                                            a11, IntKind.i64.wrap (a12 + 1),
                                                                            ())).snd.snd.snd.snd.snd.fst.snd.snd.fst.fst.length
                                                  (postRe
                                                                          (a0, (a1, a2, (), ()), a3, a4,
                                                                            (a5, a6, (), ()),
                                                                            (a7, a8,
                                                                              (List.take a9.length a9 ++
                                                                                  [(a7, a8, x,
                                                                                      numS
                                                                                        ((a0.extract
                                                                                              (IntKind.i64.wrap
                                                                                                  (9 +
                                                                                                    IntKind.i64.wrap
                                                                                                      (16 * a12))).toNat
                                                                                              (IntKind.i64.wrap
                                                                                                  (25 +
                                                                                                    IntKind.i64.wrap
                                                                                                      (16 *
                                                                                                        a12))).toNat).extract
                                                                                          (Int.toNat 8) (Int.toNat 10)),
                                                                                      numS
                                                                                        ((a0.extract
                                                                                              (IntKind.i64.wrap
                                                                                                  (9 +
                                                                                                    IntKind.i64.wrap
                                                                                                      (16 * a12))).toNat
                                                                                              (IntKind.i64.wrap
                                                                                                  (25 +
                                                                                                    IntKind.i64.wrap
                                                                                                      (16 *
                                                                                                        a12))).toNat).extract
                                                                                          (Int.toNat 10)
                                                                                          (Int.toNat 14)),
                                                                                      IntKind.i64.wrap
                                                                                        (numS
                                                                                            ((a0.extract
                                                                                                  (IntKind.i64.wrap
                                                                                                      (9 +
                                                                                                        IntKind.i64.wrap
                                                                                                          (16 *
                                                                                                            a12))).toNat
                                                                                                  (IntKind.i64.wrap
                                                                                                      (25 +
                                                                                                        IntKind.i64.wrap
                                                                                                          (16 *
                                                                                                            a12))).toNat).extract
                                                                                              (Int.toNat 14)
                                                                                              (Int.toNat 16)) -
                                                                                          1))],
                                                                                false),
                                                                              ()),
                                                                            a11, IntKind.i64.wrap (a12 + 1),
                                                                            ())).snd.snd.snd.snd.snd.fst.snd.snd.fst.fst.length
                                                  false (flagR a0 a11 (IntKind.i64.wrap (a12 + 1)) false)],
                                            Blk.dead,
                                            Blk.row true
                                              ((Kd.int IntKind.i64).pair
                                                ((Kd.int IntKind.i64).pair
                                                  ((Kd.int IntKind.i64).pair
                                                    ((Kd.int IntKind.i64).pair
                                                      ((Kd.int IntKind.i64).pair (Kd.int IntKind.i64))))))
                                              (List.take a9.length a9 ++
                                                  [(a7, a8, x,
                                                      numS
                                                        ((a0.extract
                                                              (IntKind.i64.wrap (9 + IntKind.i64.wrap (16 * a12))).toNat
                                                              (IntKind.i64.wrap
                                                                  (25 + IntKind.i64.wrap (16 * a12))).toNat).extract
                                                          (Int.toNat 8) (Int.toNat 10)),
                                                      numS
                                                        ((a0.extract
                                                              (IntKind.i64.wrap (9 + IntKind.i64.wrap (16 * a12))).toNat
                                                              (IntKind.i64.wrap
                                                                  (25 + IntKind.i64.wrap (16 * a12))).toNat).extract
                                                          (Int.toNat 10) (Int.toNat 14)),
                                                      IntKind.i64.wrap
                                                        (numS
                                                            ((a0.extract
                                                                  (IntKind.i64.wrap
                                                                      (9 + IntKind.i64.wrap (16 * a12))).toNat
                                                                  (IntKind.i64.wrap
                                                                      (25 + IntKind.i64.wrap (16 * a12))).toNat).extract
                                                              (Int.toNat 14) (Int.toNat 16)) -
                                                          1))] ++
                                                flT a0 a7 a8 (IntKind.i64.wrap (a12 + 1))
                                                  (Int.toNat (a11 - IntKind.i64.wrap (a12 + 1))))]))))))))))
            else
              some
                (Xt.ret, [PV.sc (Value.int IntKind.i64 0), PV.sc (Value.int IntKind.i64 3)],
                  [Blk.fix true
                      [PV.sc (Value.int IntKind.i64 a5), PV.sc (Value.int IntKind.i64 a6),
                        PV.sc (Value.slice none 0 0)],
                    Blk.fix true
                      [PV.sc (Value.int IntKind.i64 a5), PV.sc (Value.int IntKind.i64 a6),
                        PV.sc (Value.slice none 0 0)],
                    Blk.fix true
                      [PV.sc (Value.int IntKind.i64 a7), PV.sc (Value.int IntKind.i64 a8),
                        PV.sl 4 0 6 a9.length a9.length false a10],
                    Blk.dead,
                    Blk.row true
                      ((Kd.int IntKind.i64).pair
                        ((Kd.int IntKind.i64).pair
                          ((Kd.int IntKind.i64).pair
                            ((Kd.int IntKind.i64).pair ((Kd.int IntKind.i64).pair (Kd.int IntKind.i64))))))
                      a9]))))))
else
  some
    (Xt.exit 0, [PV.sc (Value.int IntKind.i64 a3), PV.sc (Value.int IntKind.i64 a4)],
      [Blk.fix true [PV.sc (Value.int IntKind.i64 a1), PV.sc (Value.int IntKind.i64 a2), PV.sc (Value.slice none 0 0)],
        Blk.fix true [PV.sc (Value.int IntKind.i64 a5), PV.sc (Value.int IntKind.i64 a6), PV.sc (Value.slice none 0 0)],
        Blk.fix true
          [PV.sc (Value.int IntKind.i64 a7), PV.sc (Value.int IntKind.i64 a8),
            PV.sl 4 0 6 a9.length a9.length false a10],
        Blk.dead,
        Blk.row true
          ((Kd.int IntKind.i64).pair
            ((Kd.int IntKind.i64).pair
              ((Kd.int IntKind.i64).pair ((Kd.int IntKind.i64).pair ((Kd.int IntKind.i64).pair (Kd.int IntKind.i64))))))
          a9])) := by kernel_rfl
noncomputable abbrev j68T (a0 : ByteArray) : Option (PV × List Blk) := bif decide ((↑a0.size : Int) < 9) then some (PV.tup [PV.agg [PV.sc (Value.int IntKind.i64 0), PV.sc (Value.int IntKind.i64 0), PV.sc (Value.slice none 0 0)], PV.sc (Value.int IntKind.i64 0), PV.sc (Value.int IntKind.i64 8)], []) else guardB (decide (3 ≤ (↑a0.size : Int))) (guardB (decide ((a0.extract (Int.toNat 2) (Int.toNat 3)).size ≤ 7)) (guardB (decide (7 ≤ (↑a0.size : Int))) (guardB (decide ((a0.extract (Int.toNat 3) (Int.toNat 7)).size ≤ 7)) (guardB (decide (9 ≤ (↑a0.size : Int))) (guardB (decide ((a0.extract (Int.toNat 7) (Int.toNat 9)).size ≤ 7)) (bif decide (numS (a0.extract (Int.toNat 3) (Int.toNat 7)) > 200000) then some (PV.tup [PV.agg [PV.sc (Value.int IntKind.i64 0), PV.sc (Value.int IntKind.i64 0), PV.sc (Value.slice none 0 0)], PV.sc (Value.int IntKind.i64 0), PV.sc (Value.int IntKind.i64 3)], []) else bif decide (numS (a0.extract (Int.toNat 7) (Int.toNat 9)) > 32) then some (PV.tup [PV.agg [PV.sc (Value.int IntKind.i64 0), PV.sc (Value.int IntKind.i64 0), PV.sc (Value.slice none 0 0)], PV.sc (Value.int IntKind.i64 0), PV.sc (Value.int IntKind.i64 3)], []) else bif decide ((↑a0.size : Int) < IntKind.i64.wrap (IntKind.i64.wrap (9 + IntKind.i64.wrap (16 * numS (a0.extract (Int.toNat 7) (Int.toNat 9)))) + 2)) then some (PV.tup [PV.agg [PV.sc (Value.int IntKind.i64 0), PV.sc (Value.int IntKind.i64 0), PV.sc (Value.slice none 0 0)], PV.sc (Value.int IntKind.i64 0), PV.sc (Value.int IntKind.i64 8)], []) else guardB (decide (0 ≤ IntKind.i64.wrap (IntKind.i64.wrap (IntKind.i64.wrap (9 + IntKind.i64.wrap (16 * numS (a0.extract (Int.toNat 7) (Int.toNat 9)))) + 2) - 2)) && decide (IntKind.i64.wrap (IntKind.i64.wrap (IntKind.i64.wrap (9 + IntKind.i64.wrap (16 * numS (a0.extract (Int.toNat 7) (Int.toNat 9)))) + 2) - 2) ≤ (↑a0.size : Int))) (guardB (decide ((a0.extract (Int.toNat 0) (IntKind.i64.wrap (IntKind.i64.wrap (IntKind.i64.wrap (9 + IntKind.i64.wrap (16 * numS (a0.extract (Int.toNat 7) (Int.toNat 9)))) + 2) - 2)).toNat).size ≤ 4000)) (guardB (decide (0 ≤ IntKind.i64.wrap (IntKind.i64.wrap (IntKind.i64.wrap (9 + IntKind.i64.wrap (16 * numS (a0.extract (Int.toNat 7) (Int.toNat 9)))) + 2) - 2)) && decide (IntKind.i64.wrap (IntKind.i64.wrap (IntKind.i64.wrap (9 + IntKind.i64.wrap (16 * numS (a0.extract (Int.toNat 7) (Int.toNat 9)))) + 2) - 2) ≤ IntKind.i64.wrap (IntKind.i64.wrap (9 + IntKind.i64.wrap (16 * numS (a0.extract (Int.toNat 7) (Int.toNat 9)))) + 2)) && decide (IntKind.i64.wrap (IntKind.i64.wrap (9 + IntKind.i64.wrap (16 * numS (a0.extract (Int.toNat 7) (Int.toNat 9)))) + 2) ≤ (↑a0.size : Int))) (guardB (decide ((a0.extract (IntKind.i64.wrap (IntKind.i64.wrap (IntKind.i64.wrap (9 + IntKind.i64.wrap (16 * numS (a0.extract (Int.toNat 7) (Int.toNat 9)))) + 2) - 2)).toNat (IntKind.i64.wrap (IntKind.i64.wrap (9 + IntKind.i64.wrap (16 * numS (a0.extract (Int.toNat 7) (Int.toNat 9)))) + 2)).toNat).size ≤ 7)) (bif (chkR 0 0 (bytesI (a0.extract (Int.toNat 0) (IntKind.i64.wrap (IntKind.i64.wrap (IntKind.i64.wrap (9 + IntKind.i64.wrap (16 * numS (a0.extract (Int.toNat 7) (Int.toNat 9)))) + 2) - 2)).toNat))).snd.tmod 255 * 256 + (chkR 0 0 (bytesI (a0.extract (Int.toNat 0) (IntKind.i64.wrap (IntKind.i64.wrap (IntKind.i64.wrap (9 + IntKind.i64.wrap (16 * numS (a0.extract (Int.toNat 7) (Int.toNat 9)))) + 2) - 2)).toNat))).fst.tmod 255 != numS (a0.extract (IntKind.i64.wrap (IntKind.i64.wrap (IntKind.i64.wrap (9 + IntKind.i64.wrap (16 * numS (a0.extract (Int.toNat 7) (Int.toNat 9)))) + 2) - 2)).toNat (IntKind.i64.wrap (IntKind.i64.wrap (9 + IntKind.i64.wrap (16 * numS (a0.extract (Int.toNat 7) (Int.toNat 9)))) + 2)).toNat) then some (PV.tup [PV.agg [PV.sc (Value.int IntKind.i64 0), PV.sc (Value.int IntKind.i64 0), PV.sc (Value.slice none 0 0)], PV.sc (Value.int IntKind.i64 0), PV.sc (Value.int IntKind.i64 13)], []) else guardB (bp (okRe a0 [] (numS (a0.extract (Int.toNat 7) (Int.toNat 9))) 0 0 0 0 0)) (bif flO a0 0 (Int.toNat (numS (a0.extract (Int.toNat 7) (Int.toNat 9)) - 0)) then guardB (bif decide (0 + (postRe (a0, (0, 0, (), ()), 0, 0, (0, 0, (), ()), (numS (a0.extract (Int.toNat 2) (Int.toNat 3)), numS (a0.extract (Int.toNat 3) (Int.toNat 7)), ([], true), ()), numS (a0.extract (Int.toNat 7) (Int.toNat 9)), 0, ())).snd.snd.snd.snd.snd.fst.snd.snd.fst.fst.length ≤ (flT a0 (numS (a0.extract (Int.toNat 2) (Int.toNat 3))) (numS (a0.extract (Int.toNat 3) (Int.toNat 7))) 0 (Int.toNat (numS (a0.extract (Int.toNat 7) (Int.toNat 9)) - 0))).length) then decide ((List.take (postRe (a0, (0, 0, (), ()), 0, 0, (0, 0, (), ()), (numS (a0.extract (Int.toNat 2) (Int.toNat 3)), numS (a0.extract (Int.toNat 3) (Int.toNat 7)), ([], true), ()), numS (a0.extract (Int.toNat 7) (Int.toNat 9)), 0, ())).snd.snd.snd.snd.snd.fst.snd.snd.fst.fst.length (flT a0 (numS (a0.extract (Int.toNat 2) (Int.toNat 3))) (numS (a0.extract (Int.toNat 3) (Int.toNat 7))) 0 (Int.toNat (numS (a0.extract (Int.toNat 7) (Int.toNat 9)) - 0)))).length ≤ 100000000000000) else false) (bif frmE (numS (a0.extract (Int.toNat 2) (Int.toNat 3))) (numS (a0.extract (Int.toNat 3) (Int.toNat 7))) (List.take (postRe (a0, (0, 0, (), ()), 0, 0, (0, 0, (), ()), (numS (a0.extract (Int.toNat 2) (Int.toNat 3)), numS (a0.extract (Int.toNat 3) (Int.toNat 7)), ([], true), ()), numS (a0.extract (Int.toNat 7) (Int.toNat 9)), 0, ())).snd.snd.snd.snd.snd.fst.snd.snd.fst.fst.length (flT a0 (numS (a0.extract (Int.toNat 2) (Int.toNat 3))) (numS (a0.extract (Int.toNat 3) (Int.toNat 7))) 0 (Int.toNat (numS (a0.extract (Int.toNat 7) (Int.toNat 9)) - 0)))) != 0 then some (PV.tup [PV.agg [PV.sc (Value.int IntKind.i64 0), PV.sc (Value.int IntKind.i64 0), PV.sc (Value.slice none 0 0)], PV.sc (Value.int IntKind.i64 0), PV.sc (Value.int IntKind.i64 3)], []) else guardB (bif decide (0 + (postRe (a0, (0, 0, (), ()), 0, 0, (0, 0, (), ()), (numS (a0.extract (Int.toNat 2) (Int.toNat 3)), numS (a0.extract (Int.toNat 3) (Int.toNat 7)), ([], true), ()), numS (a0.extract (Int.toNat 7) (Int.toNat 9)), 0, ())).snd.snd.snd.snd.snd.fst.snd.snd.fst.fst.length ≤ (flT a0 (numS (a0.extract (Int.toNat 2) (Int.toNat 3))) (numS (a0.extract (Int.toNat 3) (Int.toNat 7))) 0 (Int.toNat (numS (a0.extract (Int.toNat 7) (Int.toNat 9)) - 0))).length) then decide ((List.take (postRe (a0, (0, 0, (), ()), 0, 0, (0, 0, (), ()), (numS (a0.extract (Int.toNat 2) (Int.toNat 3)), numS (a0.extract (Int.toNat 3) (Int.toNat 7)), ([], true), ()), numS (a0.extract (Int.toNat 7) (Int.toNat 9)), 0, ())).snd.snd.snd.snd.snd.fst.snd.snd.fst.fst.length (flT a0 (numS (a0.extract (Int.toNat 2) (Int.toNat 3))) (numS (a0.extract (Int.toNat 3) (Int.toNat 7))) 0 (Int.toNat (numS (a0.extract (Int.toNat 7) (Int.toNat 9)) - 0)))).length ≤ 100000000000000) && frmE (numS (a0.extract (Int.toNat 2) (Int.toNat 3))) (numS (a0.extract (Int.toNat 3) (Int.toNat 7))) (List.take (postRe (a0, (0, 0, (), ()), 0, 0, (0, 0, (), ()), (numS (a0.extract (Int.toNat 2) (Int.toNat 3)), numS (a0.extract (Int.toNat 3) (Int.toNat 7)), ([], true), ()), numS (a0.extract (Int.toNat 7) (Int.toNat 9)), 0, ())).snd.snd.snd.snd.snd.fst.snd.snd.fst.fst.length (flT a0 (numS (a0.extract (Int.toNat 2) (Int.toNat 3))) (numS (a0.extract (Int.toNat 3) (Int.toNat 7))) 0 (Int.toNat (numS (a0.extract (Int.toNat 7) (Int.toNat 9)) - 0)))) == 0 else false) (guardB (decide (0 ≤ IntKind.i64.wrap (IntKind.i64.wrap (9 + IntKind.i64.wrap (16 * numS (a0.extract (Int.toNat 7) (Int.toNat 9)))) + 2)) && decide (IntKind.i64.wrap (IntKind.i64.wrap (9 + IntKind.i64.wrap (16 * numS (a0.extract (Int.toNat 7) (Int.toNat 9)))) + 2) ≤ (↑a0.size : Int))) (bif !decide (frmS (numS (a0.extract (Int.toNat 2) (Int.toNat 3))) (numS (a0.extract (Int.toNat 3) (Int.toNat 7))) (List.take (postRe (a0, (0, 0, (), ()), 0, 0, (0, 0, (), ()), (numS (a0.extract (Int.toNat 2) (Int.toNat 3)), numS (a0.extract (Int.toNat 3) (Int.toNat 7)), ([], true), ()), numS (a0.extract (Int.toNat 7) (Int.toNat 9)), 0, ())).snd.snd.snd.snd.snd.fst.snd.snd.fst.fst.length (flT a0 (numS (a0.extract (Int.toNat 2) (Int.toNat 3))) (numS (a0.extract (Int.toNat 3) (Int.toNat 7))) 0 (Int.toNat (numS (a0.extract (Int.toNat 7) (Int.toNat 9)) - 0)))) = a0.extract (Int.toNat 0) (IntKind.i64.wrap (IntKind.i64.wrap (9 + IntKind.i64.wrap (16 * numS (a0.extract (Int.toNat 7) (Int.toNat 9)))) + 2)).toNat) then some (PV.tup [PV.agg [PV.sc (Value.int IntKind.i64 0), PV.sc (Value.int IntKind.i64 0), PV.sc (Value.slice none 0 0)], PV.sc (Value.int IntKind.i64 0), PV.sc (Value.int IntKind.i64 3)], []) else some (PV.tup [PV.agg [PV.sc (Value.int IntKind.i64 (numS (a0.extract (Int.toNat 2) (Int.toNat 3)))), PV.sc (Value.int IntKind.i64 (numS (a0.extract (Int.toNat 3) (Int.toNat 7)))), PV.sl 0 0 6 (postRe (a0, (0, 0, (), ()), 0, 0, (0, 0, (), ()), (numS (a0.extract (Int.toNat 2) (Int.toNat 3)), numS (a0.extract (Int.toNat 3) (Int.toNat 7)), ([], true), ()), numS (a0.extract (Int.toNat 7) (Int.toNat 9)), 0, ())).snd.snd.snd.snd.snd.fst.snd.snd.fst.fst.length (postRe (a0, (0, 0, (), ()), 0, 0, (0, 0, (), ()), (numS (a0.extract (Int.toNat 2) (Int.toNat 3)), numS (a0.extract (Int.toNat 3) (Int.toNat 7)), ([], true), ()), numS (a0.extract (Int.toNat 7) (Int.toNat 9)), 0, ())).snd.snd.snd.snd.snd.fst.snd.snd.fst.fst.length false (flagR a0 (numS (a0.extract (Int.toNat 7) (Int.toNat 9))) 0 true)], PV.sc (Value.int IntKind.i64 (IntKind.i64.wrap (IntKind.i64.wrap (9 + IntKind.i64.wrap (16 * numS (a0.extract (Int.toNat 7) (Int.toNat 9)))) + 2))), PV.sc (Value.int IntKind.i64 0)], [Blk.row true ((Kd.int IntKind.i64).pair ((Kd.int IntKind.i64).pair ((Kd.int IntKind.i64).pair ((Kd.int IntKind.i64).pair ((Kd.int IntKind.i64).pair (Kd.int IntKind.i64)))))) (flT a0 (numS (a0.extract (Int.toNat 2) (Int.toNat 3))) (numS (a0.extract (Int.toNat 3) (Int.toNat 7))) 0 (Int.toNat (numS (a0.extract (Int.toNat 7) (Int.toNat 9)) - 0)))])))) else some (PV.tup [PV.agg [PV.sc (Value.int IntKind.i64 0), PV.sc (Value.int IntKind.i64 0), PV.sc (Value.slice none 0 0)], PV.sc (Value.int IntKind.i64 0), PV.sc (Value.int IntKind.i64 3)], []))))))))))))
noncomputable abbrev j68L (a0 : ByteArray) := evFuncV Try.prog J3 (addCut 0 [0, 2, 3, 4, 5, 6, 75, 76] [3, 4] (entC kRe cRe) noCuts) Try.f68 (killA 0 [sS]) (showA 0 [sS] (a0, ())).1 (showA 0 [sS] (a0, ())).2
theorem j68 (a0 : ByteArray) : j68L a0 = (bif decide ((↑a0.size : Int) > 0) then bindO a0[Int.toNat 0]? fun x => bif (↑x.toNat : Int) != 83 then some (PV.tup [PV.agg [PV.sc (Value.int IntKind.i64 0), PV.sc (Value.int IntKind.i64 0), PV.sc (Value.slice none 0 0)], PV.sc (Value.int IntKind.i64 0), PV.sc (Value.int IntKind.i64 3)], []) else bif decide ((↑a0.size : Int) > 1) then bindO a0[Int.toNat 1]? fun x => bif (↑x.toNat : Int) != 87 then some (PV.tup [PV.agg [PV.sc (Value.int IntKind.i64 0), PV.sc (Value.int IntKind.i64 0), PV.sc (Value.slice none 0 0)], PV.sc (Value.int IntKind.i64 0), PV.sc (Value.int IntKind.i64 3)], []) else j68T a0 else j68T a0 else bif decide ((↑a0.size : Int) > 1) then bindO a0[Int.toNat 1]? fun x => bif (↑x.toNat : Int) != 87 then some (PV.tup [PV.agg [PV.sc (Value.int IntKind.i64 0), PV.sc (Value.int IntKind.i64 0), PV.sc (Value.slice none 0 0)], PV.sc (Value.int IntKind.i64 0), PV.sc (Value.int IntKind.i64 3)], []) else j68T a0 else j68T a0) := by kernel_rfl
theorem num_1 (s : ByteArray) (a b : Nat) (h : a ≤ b) : numS (s.extract a b) = getN s (a : Int) ((b - a : Nat) : Int) := by
  rw [numS_eq, getN_eq, bytes_ext, Int.toNat_natCast, Int.toNat_natCast]
theorem num_p (s : ByteArray) (a : Int) (c d : Nat) (h0 : 0 ≤ a) (hc : c ≤ d) (hd : d ≤ 16) : numS ((s.extract a.toNat (a + 16).toNat).extract c d) = getN s (a + (c : Int)) ((d - c : Nat) : Int) := by
  rw [numS_eq, getN_eq, bytes_ext, bytes_ext, Int.toNat_natCast, show (a + (c : Int)).toNat = a.toNat + c by omega, show (a + 16).toNat - a.toNat = 16 by omega, List.drop_take, List.take_take, List.drop_drop, Nat.min_eq_left (by omega)]
theorem numL_lin : ∀ (l : List Int) (n : Int), numL n l = n * 256 ^ l.length + numL 0 l
  | [], n => by rw [numL, numL, List.length_nil, Int.pow_zero]; omega
  | x :: r, n => by
    rw [numL, numL, numL_lin r (n * 256 + x), numL_lin r (0 * 256 + x), List.length_cons, Int.pow_succ, Int.add_mul, Int.zero_mul, Int.zero_add, Int.mul_assoc, Int.mul_comm 256, Int.add_assoc]
theorem get8 (s : ByteArray) (a : Int) (h : okG s a 8) : getN s a 8 = getN s a 4 * 4294967296 + getN s (a + 4) 4 := by
  obtain ⟨h0, h1, h2, h3, h4⟩ := h
  obtain ⟨n, rfl⟩ := Int.eq_ofNat_of_zero_le h1
  have e1 : getN s (n : Int) 8 = numL 0 (seg s n 8) := getN_seg s n 8
  have e2 : getN s (n : Int) 4 = numL 0 (seg s n 4) := getN_seg s n 4
  have e3 : getN s ((n : Int) + 4) 4 = numL 0 (seg s (n + 4) 4) := getN_seg s (n + 4) 4
  rw [e1, e2, e3, show (8 : Nat) = 4 + 4 from rfl, seg_add, numL_app, numL_lin, seg_len s (n + 4) 4 (by omega)]
  rfl
theorem or32 {x y : Int} (h0 : 0 ≤ x) (h1 : x < 4294967296) (h2 : 0 ≤ y) (h3 : y < 4294967296) : IntKind.u64.wrap (((BitVec.ofInt 64 (IntKind.u64.wrap (IntKind.u64.wrap x * 4294967296)) ||| BitVec.ofInt 64 (IntKind.u64.wrap y)).toNat : Nat) : Int) = x * 4294967296 + y := by
  obtain ⟨x, rfl⟩ := Int.eq_ofNat_of_zero_le h0
  obtain ⟨y, rfl⟩ := Int.eq_ofNat_of_zero_le h2
  rw [u64_in (n := (x : Int)) (by omega) (by omega), u64_in (n := (y : Int)) (by omega) (by omega), u64_in (n := (x : Int) * 4294967296) (by omega) (by omega), show (x : Int) * 4294967296 = ((x * 4294967296 : Nat) : Int) by omega, BitVec.toNat_or, bv_nat (by omega), bv_nat (by omega)]
  have e := Nat.two_pow_add_eq_or_of_lt (i := 32) (b := y) (by omega) x
  rw [show (2 : Nat) ^ 32 = 4294967296 by decide, Nat.mul_comm] at e
  rw [← e, u64_in (by omega) (by omega)]
  omega
abbrev blR (a1 a2 r t : Int) (l : List P6) (nl : Bool) : List Blk := [Blk.fix true [PV.sc (.int .i64 a1), PV.sc (.int .i64 a2), PV.sc (.slice none 0 0)], Blk.fix true [PV.sc (.int .i64 0), PV.sc (.int .i64 0), PV.sc (.slice none 0 0)], Blk.fix true [PV.sc (.int .i64 r), PV.sc (.int .i64 t), PV.sl 4 0 6 l.length l.length false nl], Blk.dead, Blk.row true kP l]
theorem p68a (s : ByteArray) (a1 a2 a3 a4 b1 b2 r t : Int) (l : List P6) (nl : Bool) (n i : Int) (h : okRe s l n i a1 a2 b1 b2) : j68aL s a1 a2 a3 a4 b1 b2 r t l nl n i = pickA (cRe (s, (a1, a2, (), ()), a3, a4, (b1, b2, (), ()), (r, t, (l, nl), ()), n, i, ())).2 := by
  obtain ⟨⟨h0, h1, h2, h3, h4, h5, rfl, rfl⟩, rfl, rfl⟩ := h
  show _ = cond (flO s i (n - i).toNat) (some (Xt.exit 0, [PV.sc (.int .i64 a3), PV.sc (.int .i64 a4)], blR 0 0 r t (l ++ flT s r t i (n - i).toNat) (flagR s n i nl))) (some (Xt.ret, [PV.sc (.int .i64 0), PV.sc (.int .i64 3)], blR 0 0 r t (l ++ flT s r t i (n - i).toNat) (flagR s n i nl)))
  rw [j68a]
  refine cond_split (fun h => ?_) (fun h => ?_)
  · have hf : flagR s n i nl = bif fO s (9 + 16 * i) then false else nl := by unfold flagR; rw [h, Bool.true_and]
    have h := of_decide_eq_true h
    rw [IntWalk.i64_in (16 * i) (by omega), IntWalk.i64_in (9 + 16 * i) (by omega), IntWalk.i64_in (25 + 16 * i) (by omega), IntWalk.i64_in (i + 1) (by omega), hf, show (n - i).toNat = (n - (i + 1)).toNat + 1 by omega, flO, flT]
    have ea : (25 : Int) + 16 * i = 9 + 16 * i + 16 := by omega
    rw [ea]
    have ha : 0 ≤ 9 + 16 * i := by omega
    have hb : 9 + 16 * i + 16 ≤ (s.size : Int) := by omega
    generalize 9 + 16 * i = a at *
    have g8 : okG s a 8 := ⟨h0, by omega, by omega, by omega, by omega⟩
    have g4 : okG s a 4 := ⟨h0, by omega, by omega, by omega, by omega⟩
    have g44 : okG s (a + 4) 4 := ⟨h0, by omega, by omega, by omega, by omega⟩
    have ga : okG s (a + 8) 2 := ⟨h0, by omega, by omega, by omega, by omega⟩
    have gh : okG s (a + 10) 4 := ⟨h0, by omega, by omega, by omega, by omega⟩
    have gc : okG s (a + 14) 2 := ⟨h0, by omega, by omega, by omega, by omega⟩
    have i4 := getN4 g4
    have i44 := getN4 g44
    have ic := getN2 gc
    have n1 : numS ((s.extract a.toNat (a + 16).toNat).extract (Int.toNat 0) (Int.toNat 4)) = getN s a 4 := by
      have := num_p s a 0 4 ha (by omega) (by omega)
      rw [show a + ((0 : Nat) : Int) = a by omega] at this; exact this
    have n2 : numS ((s.extract a.toNat (a + 16).toNat).extract (Int.toNat 4) (Int.toNat 8)) = getN s (a + 4) 4 := num_p s a 4 8 ha (by omega) (by omega)
    have n3 : numS ((s.extract a.toNat (a + 16).toNat).extract (Int.toNat 8) (Int.toNat 10)) = getN s (a + 8) 2 := num_p s a 8 10 ha (by omega) (by omega)
    have n4 : numS ((s.extract a.toNat (a + 16).toNat).extract (Int.toNat 10) (Int.toNat 14)) = getN s (a + 10) 4 := num_p s a 10 14 ha (by omega) (by omega)
    have n5 : numS ((s.extract a.toNat (a + 16).toNat).extract (Int.toNat 14) (Int.toNat 16)) = getN s (a + 14) 2 := num_p s a 14 16 ha (by omega) (by omega)
    have ez : (s.extract a.toNat (a + 16).toNat).size = 16 := by rw [ext_size s _ _ (by omega)]; omega
    rw [n1, n2, n3, n4, n5, show IntKind.u64.bits = 64 from rfl, or32 i4.1 i4.2 i44.1 i44.2, ← get8 s a g8, IntWalk.i64_in (getN s (a + 14) 2 - 1) (by omega)]
    generalize hE : s.extract a.toNat (a + 16).toNat = E at *
    have s1 : (E.extract (Int.toNat 0) (Int.toNat 4)).size ≤ 7 := by rw [ByteArray.size_extract]; show min 4 _ - 0 ≤ 7; omega
    have s2 : (E.extract (Int.toNat 4) (Int.toNat 8)).size ≤ 7 := by rw [ByteArray.size_extract]; show min 8 _ - 4 ≤ 7; omega
    have s3 : (E.extract (Int.toNat 8) (Int.toNat 10)).size ≤ 7 := by rw [ByteArray.size_extract]; show min 10 _ - 8 ≤ 7; omega
    have s4 : (E.extract (Int.toNat 10) (Int.toNat 14)).size ≤ 7 := by rw [ByteArray.size_extract]; show min 14 _ - 10 ≤ 7; omega
    have s5 : (E.extract (Int.toNat 14) (Int.toNat 16)).size ≤ 7 := by rw [ByteArray.size_extract]; show min 16 _ - 14 ≤ 7; omega
    refine guard_split (by simp; omega) (guard_split (decide_eq_true (by omega)) (guard_split (decide_eq_true s1) (guard_split (decide_eq_true (by omega)) (guard_split (decide_eq_true s2) ?_))))
    show cond (geZ (getN s a 8).toNat) (cond (!leM (getN s a 8).toNat) _ _) _ = _
    have hfo : fO s a = (geZ (getN s a 8).toNat && leM (getN s a 8).toNat) := rfl
    rw [hfo]
    cases h1 : geZ (getN s a 8).toNat with
    | false => simp only [Bool.false_and, cond_false, List.append_nil]
    | true => cases h2 : leM (getN s a 8).toNat with
      | false => simp only [Bool.and_false, Bool.not_false, cond_true, Bool.false_and, cond_false, List.append_nil]
      | true =>
        obtain ⟨x, hx, _⟩ := flt_ok _ h1 h2
        have efr : fR s a = x := by unfold fR; rw [hx]; rfl
        simp only [Bool.and_self, Bool.true_and, Bool.not_true, cond_true, cond_false]
        rw [hx]
        simp only [bindO, List.take_length, Nat.zero_add, len_true]
        have e : l ++ [(r, t, x, getN s (a + 8) 2, getN s (a + 10) 4, getN s (a + 14) 2 - 1)] = l ++ [fP s a r t] := by unfold fP; rw [efr]
        rw [e]
        have el : (l ++ [fP s a r t]).length = l.length + 1 := by simp
        have e2 : l ++ fP s a r t :: flT s r t (i + 1) (n - (i + 1)).toNat = l ++ [fP s a r t] ++ flT s r t (i + 1) (n - (i + 1)).toNat := by simp
        have hfl : flagR s n (i + 1) false = false := by unfold flagR; cases decide (i + 1 < n) && fO s (9 + 16 * (i + 1)) <;> rfl
        rw [e2, hfl]
        generalize l ++ [fP s a r t] = l1 at *
        refine guard_split (decide_eq_true (by omega)) (guard_split (decide_eq_true s3) (guard_split (decide_eq_true (by omega)) (guard_split (decide_eq_true s4) (guard_split (decide_eq_true (by omega)) (guard_split (decide_eq_true s5) (guard_split (by simp; omega) (guard_split (decide_eq_true (show (n - (i + 1)).toNat < (n - i).toNat by omega)) (guard_split ?_ ?_))))))))
        · rw [decide_eq_true (show l.length + 1 = l1.length by omega)]
          exact bp_mk ⟨⟨h0, by omega, by omega, by omega, by omega, by omega, rfl, rfl⟩, rfl, rfl⟩
        · cases flO s (i + 1) (n - (i + 1)).toNat <;> rfl
  · have hf : flagR s n i nl = nl := by unfold flagR; rw [h]; rfl
    have h := of_decide_eq_false h
    rw [hf, show (n - i).toNat = 0 by omega, flO, flT, List.append_nil]
    rfl
theorem in68 : CutOK Try.prog Try.f68.ntmps (codeAt 0 (bodyF Try.f68)) [0, 2, 3, 4, 5, 6, 75, 76] [3, 4] (entC kRe cRe) :=
  loop_cutW (kill := killA 0 kRe) J3_ok mixed muRe (by kernel_rfl) (noCuts_ok _) fun v h => p68a v.1 v.2.1.1 v.2.1.2.1 v.2.2.1 v.2.2.2.1 v.2.2.2.2.1.1 v.2.2.2.2.1.2.1 v.2.2.2.2.2.1.1 v.2.2.2.2.2.1.2.1 v.2.2.2.2.2.1.2.2.1.1 v.2.2.2.2.2.1.2.2.1.2 v.2.2.2.2.2.2.1 v.2.2.2.2.2.2.2.1 (bp_true.1 h)
theorem flag_eq (s : ByteArray) (r t : Int) (m : Int) (h0 : 0 ≤ m) (h1 : plsO s r t 0 m.toNat = true) (h2 : flO s 0 m.toNat = true) : flagR s m 0 true = flagD s r t m 0 true := by
  unfold flagR flagD
  cases hb : decide (0 < m) with
  | false => rfl
  | true =>
    have hb := of_decide_eq_true hb
    rw [show m.toNat = (m - 1).toNat + 1 by omega] at h1 h2
    rw [plsO, Bool.and_eq_true] at h1
    rw [flO, Bool.and_eq_true] at h2
    rw [h1.1, h2.1]
theorem p68t (s : ByteArray) (h : s.size ≤ 140737488355328) (hs : swP (bytesI s) = true) : j68T s = cond (decE s != 0) (rZ (decE s)) (rY s) := by
  rw [decE_eq]
  unfold decE0 j68T
  rw [hs]
  simp only [Bool.not_true, cond_false]
  refine cond_split (fun h9 => ?_) (fun h9 => ?_)
  · rw [h9]; rfl
  · rw [h9]
    have h9 := of_decide_eq_false h9
    have g1 : okG s 2 1 := ⟨h, by omega, by omega, by omega, by omega⟩
    have g2 : okG s 3 4 := ⟨h, by omega, by omega, by omega, by omega⟩
    have g3 : okG s 7 2 := ⟨h, by omega, by omega, by omega, by omega⟩
    have i1 := getN1 g1
    have i2 := getN4 g2
    have i3 := getN2 g3
    have n1 : numS (s.extract (Int.toNat 2) (Int.toNat 3)) = rI s := num_1 s 2 3 (by omega)
    have n2 : numS (s.extract (Int.toNat 3) (Int.toNat 7)) = tI s := num_1 s 3 7 (by omega)
    have n3 : numS (s.extract (Int.toNat 7) (Int.toNat 9)) = mI s := num_1 s 7 9 (by omega)
    have i3 : 0 ≤ mI s ∧ mI s < 65536 := i3
    rw [n1, n2, n3]
    have s1 : (s.extract (Int.toNat 2) (Int.toNat 3)).size ≤ 7 := by rw [ByteArray.size_extract]; show min 3 _ - 2 ≤ 7; omega
    have s2 : (s.extract (Int.toNat 3) (Int.toNat 7)).size ≤ 7 := by rw [ByteArray.size_extract]; show min 7 _ - 3 ≤ 7; omega
    have s3 : (s.extract (Int.toNat 7) (Int.toNat 9)).size ≤ 7 := by rw [ByteArray.size_extract]; show min 9 _ - 7 ≤ 7; omega
    rw [IntWalk.i64_in (16 * mI s) (by omega), IntWalk.i64_in (9 + 16 * mI s) (by omega), IntWalk.i64_in (9 + 16 * mI s + 2) (by omega), IntWalk.i64_in (9 + 16 * mI s + 2 - 2) (by omega), Int.add_sub_cancel, show 9 + 16 * mI s = nI s by unfold nI; omega, Int.sub_zero]
    have hn : nI s = 9 + mI s * 16 := rfl
    refine guard_split (decide_eq_true (by omega)) (guard_split (decide_eq_true s1) (guard_split (decide_eq_true (by omega)) (guard_split (decide_eq_true s2) (guard_split (decide_eq_true (by omega)) (guard_split (decide_eq_true s3) ?_)))))
    cases ht : decide (tI s > 200000) with
    | true => rfl
    | false => cases hm : decide (mI s > 32) with
      | true => rfl
      | false => cases hz : decide ((s.size : Int) < nI s + 2) with
        | true => rfl
        | false =>
          have ht : ¬ tI s > 200000 := of_decide_eq_false ht
          have hm : ¬ mI s > 32 := of_decide_eq_false hm
          have hz : ¬ (s.size : Int) < nI s + 2 := of_decide_eq_false hz
          simp only [cond_false, Bool.or_false]
          have g4 : okG s (nI s) 2 := ⟨h, by omega, by omega, by omega, by omega⟩
          have i4 := getN2 g4
          have ez : (s.extract (Int.toNat 0) (nI s).toNat).size = (nI s).toNat := ext_size s 0 _ (by omega)
          have ez2 : (s.extract (nI s).toNat (nI s + 2).toNat).size = 2 := by rw [ext_size s _ _ (by omega)]; omega
          have n4 : numS (s.extract (nI s).toNat (nI s + 2).toNat) = getN s (nI s) 2 := by
            rw [num_1 s _ _ (by omega), show (nI s + 2).toNat - (nI s).toNat = 2 by omega, show (((nI s).toNat : Nat) : Int) = nI s by omega]; rfl
          have eb : bytesI (s.extract (Int.toNat 0) (nI s).toNat) = (bytesI s).take (nI s).toNat := by rw [bytes_ext]; show ((bytesI s).drop 0).take _ = _; rw [List.drop_zero]; rfl
          have esum : (chkR 0 0 ((bytesI s).take (nI s).toNat)).snd.tmod 255 * 256 + (chkR 0 0 ((bytesI s).take (nI s).toNat)).fst.tmod 255 = sum2 ((bytesI s).take (nI s).toNat) := by
            rw [sum_chk2 (fun x hx => (bytes_in s x (List.mem_of_mem_take hx)).1)]; rfl
          rw [eb, n4, esum]
          refine guard_split (by simp; omega) (guard_split (decide_eq_true (by omega)) (guard_split (by simp; omega) (guard_split (decide_eq_true (by omega)) ?_)))
          cases hc : (getN s (nI s) 2 != sum2 ((bytesI s).take (nI s).toNat)) with
          | true =>
            have : (sum2 ((bytesI s).take (nI s).toNat) != getN s (nI s) 2) = true := by
              simp at hc ⊢; exact fun e => hc e.symm
            rw [this]; rfl
          | false =>
            have hc : getN s (nI s) 2 = sum2 ((bytesI s).take (nI s).toNat) := by simpa using hc
            rw [hc, bne_self_eq_false]
            simp only [cond_false]
            refine guard_split (bp_mk ⟨⟨h, by omega, by omega, by omega, by omega, by simp, rfl, rfl⟩, rfl, rfl⟩) ?_
            obtain ⟨b1, b2⟩ := both s h hs (by omega) (by omega) (by omega) (by omega) hc
            have ep : (postRe (s, (0, 0, (), ()), 0, 0, (0, 0, (), ()), (rI s, tI s, ([], true), ()), mI s, 0, ())).snd.snd.snd.snd.snd.fst.snd.snd.fst.fst = flT s (rI s) (tI s) 0 (mI s).toNat := by
              show ([] : List P6) ++ flT s (rI s) (tI s) 0 (Int.toNat (mI s - 0)) = _
              rw [Int.sub_zero, List.nil_append]
            rw [ep]
            simp only [List.take_length, Nat.zero_add, len_true, cond_true]
            cases hf : flO s 0 (mI s).toNat with
            | false =>
              have : plsO s (rI s) (tI s) 0 (mI s).toNat = false := by
                cases hp : plsO s (rI s) (tI s) 0 (mI s).toNat with
                | false => rfl
                | true => rw [(b1.1 hp).1] at hf; cases hf
              rw [this]; rfl
            | true =>
              simp only [cond_true]
              have hlen := flT_len s (rI s) (tI s) (mI s).toNat 0 hf
              refine guard_split (decide_eq_true (by omega)) ?_
              cases he : (frmE (rI s) (tI s) (flT s (rI s) (tI s) 0 (mI s).toNat) != 0) with
              | true =>
                have : plsO s (rI s) (tI s) 0 (mI s).toNat = false := by
                  cases hp : plsO s (rI s) (tI s) 0 (mI s).toNat with
                  | false => rfl
                  | true => rw [(b1.1 hp).2.1] at he; cases he
                rw [this]; rfl
              | false =>
                have he : frmE (rI s) (tI s) (flT s (rI s) (tI s) 0 (mI s).toNat) = 0 := by simpa using he
                simp only [cond_false]
                rw [he]
                refine guard_split ?_ (guard_split (by simp; omega) ?_)
                · rw [decide_eq_true (show (flT s (rI s) (tI s) 0 (mI s).toNat).length ≤ 100000000000000 by omega)]; rfl
                · by_cases hq : frmS (rI s) (tI s) (flT s (rI s) (tI s) 0 (mI s).toNat) = s.extract (Int.toNat 0) (nI s + 2).toNat
                  · have hp := b1.2 ⟨hf, he, hq⟩
                    rw [decide_eq_true hq, hp]
                    simp only [Bool.not_true, cond_false, cond_true]
                    rw [flag_eq s (rI s) (tI s) (mI s) (by omega) hp hf]
                    rw [← b2 hp]
                    rfl
                  · have : plsO s (rI s) (tI s) 0 (mI s).toNat = false := by
                      cases hp : plsO s (rI s) (tI s) 0 (mI s).toNat with
                      | false => rfl
                      | true => exact absurd (b1.1 hp).2.2 hq
                    rw [decide_eq_false hq, this]; rfl
theorem p68 (s : ByteArray) (h : s.size ≤ 140737488355328) : j68L s = cond (decE s != 0) (rZ (decE s)) (rY s) := by
  have hl := bytes_len s
  have bad : swP (bytesI s) = false → decE s = 3 := fun e => by rw [decE_eq]; unfold decE0; rw [e]; rfl
  rw [j68]
  match hb : bytesI s, hl with
  | [], hl =>
    have hz : s.size = 0 := by simpa using hl.symm
    rw [decide_eq_false (show ¬ (s.size : Int) > 0 by omega), decide_eq_false (show ¬ (s.size : Int) > 1 by omega)]
    exact p68t s h (by rw [hb]; rfl)
  | [x], hl =>
    have hz : s.size = 1 := by simpa using hl.symm
    obtain ⟨u, hu, hc⟩ := bytes_get s 0 (by omega)
    have hx : (u.toNat : Int) = x := by rw [hb] at hc; simpa using hc.symm
    rw [decide_eq_true (show (s.size : Int) > 0 by omega), decide_eq_false (show ¬ (s.size : Int) > 1 by omega), show Int.toNat 0 = 0 from rfl, hu]
    simp only [cond_true, cond_false, bindO, hx]
    cases hq : (x == 83) with
    | true =>
      rw [show (x != 83) = false by rw [show (x != 83) = !(x == 83) from rfl, hq]; rfl]
      exact p68t s h (by rw [hb]; exact hq)
    | false =>
      rw [show (x != 83) = true by rw [show (x != 83) = !(x == 83) from rfl, hq]; rfl, bad (by rw [hb]; exact hq)]; rfl
  | x :: y :: r, hl =>
    have hz : s.size = r.length + 2 := by simpa using hl.symm
    obtain ⟨u, hu, hc⟩ := bytes_get s 0 (by omega)
    obtain ⟨u2, hu2, hc2⟩ := bytes_get s 1 (by omega)
    have hx : (u.toNat : Int) = x := by rw [hb] at hc; simpa using hc.symm
    have hy : (u2.toNat : Int) = y := by rw [hb] at hc2; simpa using hc2.symm
    rw [decide_eq_true (show (s.size : Int) > 0 by omega), decide_eq_true (show (s.size : Int) > 1 by omega), show Int.toNat 0 = 0 from rfl, show Int.toNat 1 = 1 from rfl, hu, hu2]
    simp only [cond_true, bindO, hx, hy]
    have e : swP (bytesI s) = (x == 83 && y == 87) := by rw [hb]; rfl
    cases hq : (x == 83) with
    | false =>
      rw [show (x != 83) = true by rw [show (x != 83) = !(x == 83) from rfl, hq]; rfl, bad (by rw [e, hq]; rfl)]; rfl
    | true =>
      rw [show (x != 83) = false by rw [show (x != 83) = !(x == 83) from rfl, hq]; rfl]
      cases hr : (y == 87) with
      | false =>
        rw [show (y != 87) = true by rw [show (y != 87) = !(y == 87) from rfl, hr]; rfl, bad (by rw [e, hq, hr]; rfl)]; rfl
      | true =>
        rw [show (y != 87) = false by rw [show (y != 87) = !(y == 87) from rfl, hr]; rfl]
        exact p68t s h (by rw [e, hq, hr]; rfl)
end Go.Proofs.YtacdahpjmeianaaWi
