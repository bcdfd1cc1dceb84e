/- What is proved: the law ApproachSays answers true on every input that can be read. No condition. -/
import Derived.Test.YtlaaeighanknpaaTas2
import Derived.Test.YtlaaeighanknpaaEvZd
namespace Go.Proofs.YtlaaeighanknpaaAs
open Go Go.Proofs Go.Proofs.YtlaaeighanknpaaEv
set_option maxRecDepth 100000
set_option linter.unusedSimpArgs false
set_option linter.unusedVariables false
noncomputable abbrev a52L := evFuncV Try.prog TD noCuts Try.f52 (killA 0 []) (showA 0 [] ()).1 (showA 0 [] ()).2
theorem a52 : a52L = (some (PV.sc (Value.bool true), [])) := by kernel_rfl
noncomputable abbrev a13L (a0 : List (ByteArray × Int × Int × Int)) (a1 : Bool) (a2 : List Int) := evFuncV Try.prog TF (addCut 0 [0, 11, 61, 62, 63] [11] (entC k54 c54) noCuts) Try.f13 (killA 0 kC) (showA 0 kC ((a0, a1), (a2, ()))).1 (showA 0 kC ((a0, a1), (a2, ()))).2
theorem a13 (a0 : List (ByteArray × Int × Int × Int)) (a1 : Bool) (a2 : List Int) : a13L a0 a1 a2 = (guardB (decide (16 ≤ a2.length))
  (guardB (bif decide (0 + a0.length ≤ a0.length) then preL (List.take 16 a2) else false)
    (bif decide (errS (List.take a0.length a0) (List.take 16 a2) = 0) then
      guardB (decide (16 ≤ a2.length))
        (guardB (bif decide (0 + a0.length ≤ a0.length) then preL (List.take 16 a2) else false)
          (bif decide (errS (List.take a0.length a0) (List.take 16 a2) = 0) then
            guardB (decide (16 ≤ a2.length))
              (guardB (bif decide (0 + a0.length ≤ a0.length) then preL (List.take 16 a2) else false)
                (bif errS (List.take a0.length a0) (List.take 16 a2) != 0 then
                  bif 0 == errS (List.take a0.length a0) (List.take 16 a2) then
                    bif 0 == errS (List.take a0.length a0) (List.take 16 a2) then
                      guardB (decide (16 ≤ a2.length))
                        (guardB (bif decide (0 + a0.length ≤ a0.length) then preL (List.take 16 a2) else false)
                          (bif
                              errS (List.take a0.length a0) (List.take 16 a2) ==
                                errS (List.take a0.length a0) (List.take 16 a2) then
                            bif (↑(timesS (List.take 16 a2) (List.take a0.length a0)).length : Int) == 0 then
                              some
                                (PV.sc
                                    (Value.bool
                                      ((↑(lateS (List.take 16 a2) (List.take a0.length a0)).length : Int) == 0)),
                                  [Blk.row false
                                      (Kd.str.pair
                                        ((Kd.int IntKind.i64).pair ((Kd.int IntKind.i64).pair (Kd.int IntKind.i64))))
                                      a0])
                            else
                              some
                                (PV.sc (Value.bool false),
                                  [Blk.row false
                                      (Kd.str.pair
                                        ((Kd.int IntKind.i64).pair ((Kd.int IntKind.i64).pair (Kd.int IntKind.i64))))
                                      a0])
                          else
                            some
                              (PV.sc (Value.bool false),
                                [Blk.row false
                                    (Kd.str.pair
                                      ((Kd.int IntKind.i64).pair ((Kd.int IntKind.i64).pair (Kd.int IntKind.i64))))
                                    a0])))
                    else
                      some
                        (PV.sc (Value.bool false),
                          [Blk.row false
                              (Kd.str.pair ((Kd.int IntKind.i64).pair ((Kd.int IntKind.i64).pair (Kd.int IntKind.i64))))
                              a0])
                  else
                    some
                      (PV.sc (Value.bool false),
                        [Blk.row false
                            (Kd.str.pair ((Kd.int IntKind.i64).pair ((Kd.int IntKind.i64).pair (Kd.int IntKind.i64))))
                            a0])
                else
                  guardB (decide (16 ≤ a2.length))
                    (guardB
                      (bif decide (0 + a0.length ≤ a0.length) then preF (List.take a0.length a0) (List.take 16 a2)
                      else false)
                      (guardB
                        (bif decide (0 + a0.length ≤ a0.length) then
                          bif
                              decide
                                (0 + (timesS (List.take 16 a2) (List.take a0.length a0)).length ≤
                                  (timesS (List.take 16 a2) (List.take a0.length a0)).length) then
                            pre54 (List.take a0.length a0) [] true
                              (List.take (timesS (List.take 16 a2) (List.take a0.length a0)).length
                                (timesS (List.take 16 a2) (List.take a0.length a0)))
                              (↑(timesS (List.take 16 a2) (List.take a0.length a0)).length : Int) 0
                          else false
                        else false)
                        (guardB (decide (16 ≤ a2.length))
                          (guardB (bif decide (0 + a0.length ≤ a0.length) then preL (List.take 16 a2) else false)
                            (bif errS (List.take a0.length a0) (List.take 16 a2) == 0 then
                              guardB
                                (bif
                                    decide
                                      (0 + (timesS (List.take 16 a2) (List.take a0.length a0)).length ≤
                                        (timesS (List.take 16 a2) (List.take a0.length a0)).length) then
                                  bif
                                      decide
                                        (0 + (timesS (List.take 16 a2) (List.take a0.length a0)).length ≤
                                          (timesS (List.take 16 a2) (List.take a0.length a0)).length) then
                                    preE
                                      (List.take (timesS (List.take 16 a2) (List.take a0.length a0)).length
                                        (timesS (List.take 16 a2) (List.take a0.length a0)))
                                  else false
                                else false)
                                (bif
                                    decide
                                      (List.take (timesS (List.take 16 a2) (List.take a0.length a0)).length
                                          (timesS (List.take 16 a2) (List.take a0.length a0)) =
                                        List.take (timesS (List.take 16 a2) (List.take a0.length a0)).length
                                          (timesS (List.take 16 a2) (List.take a0.length a0))) then
                                  guardB
                                    (bif
                                        decide
                                          (0 + (lateS (List.take 16 a2) (List.take a0.length a0)).length ≤
                                            (lateS (List.take 16 a2) (List.take a0.length a0)).length) then
                                      bif
                                          decide
                                            (0 +
                                                (lateK (List.take a0.length a0)
                                                    (List.take
                                                      (timesS (List.take 16 a2) (List.take a0.length a0)).length
                                                      (timesS (List.take 16 a2) (List.take a0.length a0)))
                                                    (List.take a0.length a0).length).length ≤
                                              (lateK (List.take a0.length a0)
                                                  (List.take (timesS (List.take 16 a2) (List.take a0.length a0)).length
                                                    (timesS (List.take 16 a2) (List.take a0.length a0)))
                                                  (List.take a0.length a0).length).length) then
                                        preE
                                          (List.take (lateS (List.take 16 a2) (List.take a0.length a0)).length
                                            (lateS (List.take 16 a2) (List.take a0.length a0)))
                                      else false
                                    else false)
                                    (some
                                      (PV.sc
                                          (Value.bool
                                            (decide
                                              (List.take (lateS (List.take 16 a2) (List.take a0.length a0)).length
                                                  (lateS (List.take 16 a2) (List.take a0.length a0)) =
                                                List.take
                                                  (lateK (List.take a0.length a0)
                                                      (List.take
                                                        (timesS (List.take 16 a2) (List.take a0.length a0)).length
                                                        (timesS (List.take 16 a2) (List.take a0.length a0)))
                                                      (List.take a0.length a0).length).length
                                                  (lateK (List.take a0.length a0)
                                                    (List.take
                                                      (timesS (List.take 16 a2) (List.take a0.length a0)).length
                                                      (timesS (List.take 16 a2) (List.take a0.length a0)))
                                                    (List.take a0.length a0).length)))),
                                        [Blk.row false
                                            (Kd.str.pair
                                              ((Kd.int IntKind.i64).pair
                                                ((Kd.int IntKind.i64).pair (Kd.int IntKind.i64))))
                                            a0]))
                                else
                                  some
                                    (PV.sc (Value.bool false),
                                      [Blk.row false
                                          (Kd.str.pair
                                            ((Kd.int IntKind.i64).pair
                                              ((Kd.int IntKind.i64).pair (Kd.int IntKind.i64))))
                                          a0]))
                            else
                              some
                                (PV.sc (Value.bool false),
                                  [Blk.row false
                                      (Kd.str.pair
                                        ((Kd.int IntKind.i64).pair ((Kd.int IntKind.i64).pair (Kd.int IntKind.i64))))
                                      a0]))))))))
          else
            guardB (decide (16 ≤ a2.length))
              (guardB (bif decide (0 + a0.length ≤ a0.length) then preL (List.take 16 a2) else false)
                (bif errS (List.take a0.length a0) (List.take 16 a2) != 0 then
                  bif 0 == errS (List.take a0.length a0) (List.take 16 a2) then
                    bif
                        errS (List.take a0.length a0) (List.take 16 a2) ==
                          errS (List.take a0.length a0) (List.take 16 a2) then
                      guardB (decide (16 ≤ a2.length))
                        (guardB (bif decide (0 + a0.length ≤ a0.length) then preL (List.take 16 a2) else false)
                          (bif
                              errS (List.take a0.length a0) (List.take 16 a2) ==
                                errS (List.take a0.length a0) (List.take 16 a2) then
                            bif (↑(timesS (List.take 16 a2) (List.take a0.length a0)).length : Int) == 0 then
                              some
                                (PV.sc (Value.bool true),
                                  [Blk.row false
                                      (Kd.str.pair
                                        ((Kd.int IntKind.i64).pair ((Kd.int IntKind.i64).pair (Kd.int IntKind.i64))))
                                      a0])
                            else
                              some
                                (PV.sc (Value.bool false),
                                  [Blk.row false
                                      (Kd.str.pair
                                        ((Kd.int IntKind.i64).pair ((Kd.int IntKind.i64).pair (Kd.int IntKind.i64))))
                                      a0])
                          else
                            some
                              (PV.sc (Value.bool false),
                                [Blk.row false
                                    (Kd.str.pair
                                      ((Kd.int IntKind.i64).pair ((Kd.int IntKind.i64).pair (Kd.int IntKind.i64))))
                                    a0])))
                    else
                      some
                        (PV.sc (Value.bool false),
                          [Blk.row false
                              (Kd.str.pair ((Kd.int IntKind.i64).pair ((Kd.int IntKind.i64).pair (Kd.int IntKind.i64))))
                              a0])
                  else
                    some
                      (PV.sc (Value.bool false),
                        [Blk.row false
                            (Kd.str.pair ((Kd.int IntKind.i64).pair ((Kd.int IntKind.i64).pair (Kd.int IntKind.i64))))
                            a0])
                else
                  guardB (decide (16 ≤ a2.length))
                    (guardB
                      (bif decide (0 + a0.length ≤ a0.length) then preF (List.take a0.length a0) (List.take 16 a2)
                      else false)
                      (guardB
                        (bif decide (0 + a0.length ≤ a0.length) then
                          bif
                              decide
                                (0 + (timesS (List.take 16 a2) (List.take a0.length a0)).length ≤
                                  (timesS (List.take 16 a2) (List.take a0.length a0)).length) then
                            pre54 (List.take a0.length a0) [] true
                              (List.take (timesS (List.take 16 a2) (List.take a0.length a0)).length
                                (timesS (List.take 16 a2) (List.take a0.length a0)))
                              (↑(timesS (List.take 16 a2) (List.take a0.length a0)).length : Int) 0
                          else false
                        else false)
                        (bif errS (List.take a0.length a0) (List.take 16 a2) == 0 then
                          guardB (decide (16 ≤ a2.length))
                            (guardB (bif decide (0 + a0.length ≤ a0.length) then preL (List.take 16 a2) else false)
                              (bif errS (List.take a0.length a0) (List.take 16 a2) == 0 then
                                guardB
                                  (bif
                                      decide
                                        (0 + (timesS (List.take 16 a2) (List.take a0.length a0)).length ≤
                                          (timesS (List.take 16 a2) (List.take a0.length a0)).length) then
                                    bif
                                        decide
                                          (0 + (timesS (List.take 16 a2) (List.take a0.length a0)).length ≤
                                            (timesS (List.take 16 a2) (List.take a0.length a0)).length) then
                                      preE
                                        (List.take (timesS (List.take 16 a2) (List.take a0.length a0)).length
                                          (timesS (List.take 16 a2) (List.take a0.length a0)))
                                    else false
                                  else false)
                                  (bif
                                      decide
                                        (List.take (timesS (List.take 16 a2) (List.take a0.length a0)).length
                                            (timesS (List.take 16 a2) (List.take a0.length a0)) =
                                          List.take (timesS (List.take 16 a2) (List.take a0.length a0)).length
                                            (timesS (List.take 16 a2) (List.take a0.length a0))) then
                                    guardB
                                      (bif
                                          decide
                                            (0 +
                                                (lateK (List.take a0.length a0)
                                                    (List.take
                                                      (timesS (List.take 16 a2) (List.take a0.length a0)).length
                                                      (timesS (List.take 16 a2) (List.take a0.length a0)))
                                                    (List.take a0.length a0).length).length ≤
                                              (lateK (List.take a0.length a0)
                                                  (List.take (timesS (List.take 16 a2) (List.take a0.length a0)).length
                                                    (timesS (List.take 16 a2) (List.take a0.length a0)))
                                                  (List.take a0.length a0).length).length) then
                                        true
                                      else false)
                                      (some
                                        (PV.sc
                                            (Value.bool
                                              (decide
                                                ([] =
                                                  List.take
                                                    (lateK (List.take a0.length a0)
                                                        (List.take
                                                          (timesS (List.take 16 a2) (List.take a0.length a0)).length
                                                          (timesS (List.take 16 a2) (List.take a0.length a0)))
                                                        (List.take a0.length a0).length).length
                                                    (lateK (List.take a0.length a0)
                                                      (List.take
                                                        (timesS (List.take 16 a2) (List.take a0.length a0)).length
                                                        (timesS (List.take 16 a2) (List.take a0.length a0)))
                                                      (List.take a0.length a0).length)))),
                                          [Blk.row false
                                              (Kd.str.pair
                                                ((Kd.int IntKind.i64).pair
                                                  ((Kd.int IntKind.i64).pair (Kd.int IntKind.i64))))
                                              a0]))
                                  else
                                    some
                                      (PV.sc (Value.bool false),
                                        [Blk.row false
                                            (Kd.str.pair
                                              ((Kd.int IntKind.i64).pair
                                                ((Kd.int IntKind.i64).pair (Kd.int IntKind.i64))))
                                            a0]))
                              else
                                some
                                  (PV.sc (Value.bool false),
                                    [Blk.row false
                                        (Kd.str.pair
                                          ((Kd.int IntKind.i64).pair ((Kd.int IntKind.i64).pair (Kd.int IntKind.i64))))
                                        a0])))
                        else
                          some
                            (PV.sc (Value.bool false),
                              [Blk.row false
                                  (Kd.str.pair
                                    ((Kd.int IntKind.i64).pair ((Kd.int IntKind.i64).pair (Kd.int IntKind.i64))))
                                  a0]))))))))
    else
      guardB (decide (16 ≤ a2.length))
        (guardB (bif decide (0 + a0.length ≤ a0.length) then preL (List.take 16 a2) else false)
          (bif decide (errS (List.take a0.length a0) (List.take 16 a2) = 0) then
            guardB (decide (16 ≤ a2.length))
              (guardB (bif decide (0 + a0.length ≤ a0.length) then preL (List.take 16 a2) else false)
                (bif errS (List.take a0.length a0) (List.take 16 a2) != 0 then
                  bif
                      errS (List.take a0.length a0) (List.take 16 a2) ==
                        errS (List.take a0.length a0) (List.take 16 a2) then
                    bif 0 == errS (List.take a0.length a0) (List.take 16 a2) then
                      guardB (decide (16 ≤ a2.length))
                        (guardB (bif decide (0 + a0.length ≤ a0.length) then preL (List.take 16 a2) else false)
                          (bif
                              errS (List.take a0.length a0) (List.take 16 a2) ==
                                errS (List.take a0.length a0) (List.take 16 a2) then
                            some
                              (PV.sc
                                  (Value.bool
                                    ((↑(lateS (List.take 16 a2) (List.take a0.length a0)).length : Int) == 0)),
                                [Blk.row false
                                    (Kd.str.pair
                                      ((Kd.int IntKind.i64).pair ((Kd.int IntKind.i64).pair (Kd.int IntKind.i64))))
                                    a0])
                          else
                            some
                              (PV.sc (Value.bool false),
                                [Blk.row false
                                    (Kd.str.pair
                                      ((Kd.int IntKind.i64).pair ((Kd.int IntKind.i64).pair (Kd.int IntKind.i64))))
                                    a0])))
                    else
                      some
                        (PV.sc (Value.bool false),
                          [Blk.row false
                              (Kd.str.pair ((Kd.int IntKind.i64).pair ((Kd.int IntKind.i64).pair (Kd.int IntKind.i64))))
                              a0])
                  else
                    some
                      (PV.sc (Value.bool false),
                        [Blk.row false
                            (Kd.str.pair ((Kd.int IntKind.i64).pair ((Kd.int IntKind.i64).pair (Kd.int IntKind.i64))))
                            a0])
                else
                  guardB (decide (16 ≤ a2.length))
                    (guardB
                      (bif decide (0 + a0.length ≤ a0.length) then preF (List.take a0.length a0) (List.take 16 a2)
                      else false)
                      (guardB
                        (bif decide (0 + a0.length ≤ a0.length) then
                          bif
                              decide
                                (0 + (timesS (List.take 16 a2) (List.take a0.length a0)).length ≤
                                  (timesS (List.take 16 a2) (List.take a0.length a0)).length) then
                            pre54 (List.take a0.length a0) [] true
                              (List.take (timesS (List.take 16 a2) (List.take a0.length a0)).length
                                (timesS (List.take 16 a2) (List.take a0.length a0)))
                              (↑(timesS (List.take 16 a2) (List.take a0.length a0)).length : Int) 0
                          else false
                        else false)
                        (bif errS (List.take a0.length a0) (List.take 16 a2) == 0 then
                          guardB (decide (16 ≤ a2.length))
                            (guardB (bif decide (0 + a0.length ≤ a0.length) then preL (List.take 16 a2) else false)
                              (bif errS (List.take a0.length a0) (List.take 16 a2) == 0 then
                                guardB
                                  (bif
                                      decide
                                        (0 + (timesS (List.take 16 a2) (List.take a0.length a0)).length ≤
                                          (timesS (List.take 16 a2) (List.take a0.length a0)).length) then
                                    true
                                  else false)
                                  (bif
                                      decide
                                        ([] =
                                          List.take (timesS (List.take 16 a2) (List.take a0.length a0)).length
                                            (timesS (List.take 16 a2) (List.take a0.length a0))) then
                                    guardB
                                      (bif
                                          decide
                                            (0 + (lateS (List.take 16 a2) (List.take a0.length a0)).length ≤
                                              (lateS (List.take 16 a2) (List.take a0.length a0)).length) then
                                        bif
                                            decide
                                              (0 +
                                                  (lateK (List.take a0.length a0)
                                                      (List.take
                                                        (timesS (List.take 16 a2) (List.take a0.length a0)).length
                                                        (timesS (List.take 16 a2) (List.take a0.length a0)))
                                                      (List.take a0.length a0).length).length ≤
                                                (lateK (List.take a0.length a0)
                                                    (List.take
                                                      (timesS (List.take 16 a2) (List.take a0.length a0)).length
                                                      (timesS (List.take 16 a2) (List.take a0.length a0)))
                                                    (List.take a0.length a0).length).length) then
                                          preE
                                            (List.take (lateS (List.take 16 a2) (List.take a0.length a0)).length
                                              (lateS (List.take 16 a2) (List.take a0.length a0)))
                                        else false
                                      else false)
                                      (some
                                        (PV.sc
                                            (Value.bool
                                              (decide
                                                (List.take (lateS (List.take 16 a2) (List.take a0.length a0)).length
                                                    (lateS (List.take 16 a2) (List.take a0.length a0)) =
                                                  List.take
                                                    (lateK (List.take a0.length a0)
                                                        (List.take
                                                          (timesS (List.take 16 a2) (List.take a0.length a0)).length
                                                          (timesS (List.take 16 a2) (List.take a0.length a0)))
                                                        (List.take a0.length a0).length).length
                                                    (lateK (List.take a0.length a0)
                                                      (List.take
                                                        (timesS (List.take 16 a2) (List.take a0.length a0)).length
                                                        (timesS (List.take 16 a2) (List.take a0.length a0)))
                                                      (List.take a0.length a0).length)))),
                                          [Blk.row false
                                              (Kd.str.pair
                                                ((Kd.int IntKind.i64).pair
                                                  ((Kd.int IntKind.i64).pair (Kd.int IntKind.i64))))
                                              a0]))
                                  else
                                    some
                                      (PV.sc (Value.bool false),
                                        [Blk.row false
                                            (Kd.str.pair
                                              ((Kd.int IntKind.i64).pair
                                                ((Kd.int IntKind.i64).pair (Kd.int IntKind.i64))))
                                            a0]))
                              else
                                some
                                  (PV.sc (Value.bool false),
                                    [Blk.row false
                                        (Kd.str.pair
                                          ((Kd.int IntKind.i64).pair ((Kd.int IntKind.i64).pair (Kd.int IntKind.i64))))
                                        a0])))
                        else
                          some
                            (PV.sc (Value.bool false),
                              [Blk.row false
                                  (Kd.str.pair
                                    ((Kd.int IntKind.i64).pair ((Kd.int IntKind.i64).pair (Kd.int IntKind.i64))))
                                  a0]))))))
          else
            guardB (decide (16 ≤ a2.length))
              (guardB (bif decide (0 + a0.length ≤ a0.length) then preL (List.take 16 a2) else false)
                (bif errS (List.take a0.length a0) (List.take 16 a2) != 0 then
                  bif
                      errS (List.take a0.length a0) (List.take 16 a2) ==
                        errS (List.take a0.length a0) (List.take 16 a2) then
                    bif
                        errS (List.take a0.length a0) (List.take 16 a2) ==
                          errS (List.take a0.length a0) (List.take 16 a2) then
                      guardB (decide (16 ≤ a2.length))
                        (guardB (bif decide (0 + a0.length ≤ a0.length) then preL (List.take 16 a2) else false)
                          (bif
                              errS (List.take a0.length a0) (List.take 16 a2) ==
                                errS (List.take a0.length a0) (List.take 16 a2) then
                            some
                              (PV.sc (Value.bool true),
                                [Blk.row false
                                    (Kd.str.pair
                                      ((Kd.int IntKind.i64).pair ((Kd.int IntKind.i64).pair (Kd.int IntKind.i64))))
                                    a0])
                          else
                            some
                              (PV.sc (Value.bool false),
                                [Blk.row false
                                    (Kd.str.pair
                                      ((Kd.int IntKind.i64).pair ((Kd.int IntKind.i64).pair (Kd.int IntKind.i64))))
                                    a0])))
                    else
                      some
                        (PV.sc (Value.bool false),
                          [Blk.row false
                              (Kd.str.pair ((Kd.int IntKind.i64).pair ((Kd.int IntKind.i64).pair (Kd.int IntKind.i64))))
                              a0])
                  else
                    some
                      (PV.sc (Value.bool false),
                        [Blk.row false
                            (Kd.str.pair ((Kd.int IntKind.i64).pair ((Kd.int IntKind.i64).pair (Kd.int IntKind.i64))))
                            a0])
                else
                  guardB (decide (16 ≤ a2.length))
                    (guardB
                      (bif decide (0 + a0.length ≤ a0.length) then preF (List.take a0.length a0) (List.take 16 a2)
                      else false)
                      (guardB
                        (bif decide (0 + a0.length ≤ a0.length) then
                          bif
                              decide
                                (0 + (timesS (List.take 16 a2) (List.take a0.length a0)).length ≤
                                  (timesS (List.take 16 a2) (List.take a0.length a0)).length) then
                            pre54 (List.take a0.length a0) [] true
                              (List.take (timesS (List.take 16 a2) (List.take a0.length a0)).length
                                (timesS (List.take 16 a2) (List.take a0.length a0)))
                              (↑(timesS (List.take 16 a2) (List.take a0.length a0)).length : Int) 0
                          else false
                        else false)
                        (bif errS (List.take a0.length a0) (List.take 16 a2) == 0 then
                          bif errS (List.take a0.length a0) (List.take 16 a2) == 0 then
                            guardB (decide (16 ≤ a2.length))
                              (guardB (bif decide (0 + a0.length ≤ a0.length) then preL (List.take 16 a2) else false)
                                (bif errS (List.take a0.length a0) (List.take 16 a2) == 0 then
                                  guardB
                                    (bif
                                        decide
                                          (0 + (timesS (List.take 16 a2) (List.take a0.length a0)).length ≤
                                            (timesS (List.take 16 a2) (List.take a0.length a0)).length) then
                                      true
                                    else false)
                                    (bif
                                        decide
                                          ([] =
                                            List.take (timesS (List.take 16 a2) (List.take a0.length a0)).length
                                              (timesS (List.take 16 a2) (List.take a0.length a0))) then
                                      guardB
                                        (bif
                                            decide
                                              (0 +
                                                  (lateK (List.take a0.length a0)
                                                      (List.take
                                                        (timesS (List.take 16 a2) (List.take a0.length a0)).length
                                                        (timesS (List.take 16 a2) (List.take a0.length a0)))
                                                      (List.take a0.length a0).length).length ≤
                                                (lateK (List.take a0.length a0)
                                                    (List.take
                                                      (timesS (List.take 16 a2) (List.take a0.length a0)).length
                                                      (timesS (List.take 16 a2) (List.take a0.length a0)))
                                                    (List.take a0.length a0).length).length) then
                                          true
                                        else false)
                                        (some
                                          (PV.sc
                                              (Value.bool
                                                (decide
                                                  ([] =
                                                    List.take
                                                      (lateK (List.take a0.length a0)
                                                          (List.take
                                                            (timesS (List.take 16 a2) (List.take a0.length a0)).length
                                                            (timesS (List.take 16 a2) (List.take a0.length a0)))
                                                          (List.take a0.length a0).length).length
                                                      (lateK (List.take a0.length a0)
                                                        (List.take
                                                          (timesS (List.take 16 a2) (List.take a0.length a0)).length
                                                          (timesS (List.take 16 a2) (List.take a0.length a0)))
                                                        (List.take a0.length a0).length)))),
                                            [Blk.row false
                                                (Kd.str.pair
                                                  ((Kd.int IntKind.i64).pair
                                                    ((Kd.int IntKind.i64).pair (Kd.int IntKind.i64))))
                                                a0]))
                                    else
                                      some
                                        (PV.sc (Value.bool false),
                                          [Blk.row false
                                              (Kd.str.pair
                                                ((Kd.int IntKind.i64).pair
                                                  ((Kd.int IntKind.i64).pair (Kd.int IntKind.i64))))
                                              a0]))
                                else
                                  some
                                    (PV.sc (Value.bool false),
                                      [Blk.row false
                                          (Kd.str.pair
                                            ((Kd.int IntKind.i64).pair
                                              ((Kd.int IntKind.i64).pair (Kd.int IntKind.i64))))
                                          a0])))
                          else
                            some
                              (PV.sc (Value.bool false),
                                [Blk.row false
                                    (Kd.str.pair
                                      ((Kd.int IntKind.i64).pair ((Kd.int IntKind.i64).pair (Kd.int IntKind.i64))))
                                    a0])
                        else
                          some
                            (PV.sc (Value.bool false),
                              [Blk.row false
                                  (Kd.str.pair
                                    ((Kd.int IntKind.i64).pair ((Kd.int IntKind.i64).pair (Kd.int IntKind.i64))))
                                  a0]))))))))))) := by kernel_rfl
noncomputable abbrev a13lL (a0 : List (ByteArray × Int × Int × Int)) (a1 : Bool) (a2 : List Int) (a3 : Bool) (a4 : List Int) (a5 : Bool) (a6 : Int) (a7 : Int) := evRound Try.prog TF noCuts 102 (loopOf (codeAt 0 (bodyF Try.f13))) k54 mu54 (killA 0 k54) [0, 11, 61, 62, 63] [11] c54 ((a0, a1), ((a2, a3), ((a4, a5), (a6, (a7, ())))))
theorem a13l (a0 : List (ByteArray × Int × Int × Int)) (a1 : Bool) (a2 : List Int) (a3 : Bool) (a4 : List Int) (a5 : Bool) (a6 : Int) (a7 : Int) : a13lL a0 a1 a2 a3 a4 a5 a6 a7 = (bif decide (a7 < a6) then
  guardB (decide (0 ≤ a7) && decide (a7 < (↑a4.length : Int)))
    (bindO a4[0 + a7.toNat]? fun x =>
      guardB (decide (0 ≤ a7) && decide (a7 < (↑a0.length : Int)))
        (bindO a0[0 + a7.toNat]? fun x_1 =>
          bif decide (x > x_1.snd.snd.snd) then
            guardB
              (decide (0 + a2.length ≤ a2.length) && true && decide ((a2.length + 1) * 8 ≤ 140737488355328) &&
                decide (a2.length + 1 ≤ 4611686018427387904))
              (guardB
                (decide
                  (mu54
                      ((List.take a0.length a0, a1), (List.take a2.length a2 ++ [a7], false),
                        (List.take a4.length a4, a5), a6, IntKind.i64.wrap (a7 + 1), PUnit.unit) <
                    mu54 ((a0, a1), (a2, a3), (a4, a5), a6, a7, ())))
                (guardB
                  (bif decide (0 + a0.length ≤ a0.length) then
                    bif decide (a2.length + 1 = (List.take a2.length a2 ++ [a7]).length) then
                      bif decide (0 + a4.length ≤ a4.length) then
                        pre54 (List.take a0.length a0) (List.take a2.length a2 ++ [a7]) false (List.take a4.length a4)
                          a6 (IntKind.i64.wrap (a7 + 1))
                      else false
                    else false
                  else false)
                  (some
                    (Xt.exit 0,
                      [PV.sl 3 0 1
                          (lateK (List.take a0.length a0) (List.take a4.length a4)
                              (List.take a0.length a0).length).length
                          (lateK (List.take a0.length a0) (List.take a4.length a4)
                              (List.take a0.length a0).length).length
                          false
                          (lateK (List.take a0.length a0) (List.take a4.length a4)
                              (List.take a0.length a0).length).isEmpty],
                      [Blk.row false
                          (Kd.str.pair ((Kd.int IntKind.i64).pair ((Kd.int IntKind.i64).pair (Kd.int IntKind.i64)))) a0,
                        Blk.dead, Blk.row false (Kd.int IntKind.i64) a4,
                        Blk.row true (Kd.int IntKind.i64)
                          (lateK (List.take a0.length a0) (List.take a4.length a4) (List.take a0.length a0).length)]))))
          else
            guardB
              (decide
                (mu54
                    ((List.take a0.length a0, a1), (a2, a3), (List.take a4.length a4, a5), a6,
                      IntKind.i64.wrap (a7 + 1), PUnit.unit) <
                  mu54 ((a0, a1), (a2, a3), (a4, a5), a6, a7, ())))
              (guardB
                (bif decide (0 + a0.length ≤ a0.length) then
                  bif decide (a2.length = a2.length) then
                    bif decide (0 + a4.length ≤ a4.length) then
                      pre54 (List.take a0.length a0) a2 a3 (List.take a4.length a4) a6 (IntKind.i64.wrap (a7 + 1))
                    else false
                  else false
                else false)
                (some
                  (Xt.exit 0,
                    [PV.sl 3 0 1
                        (lateK (List.take a0.length a0) (List.take a4.length a4) (List.take a0.length a0).length).length
                        (lateK (List.take a0.length a0) (List.take a4.length a4) (List.take a0.length a0).length).length
                        false
                        (lateK (List.take a0.length a0) (List.take a4.length a4)
                            (List.take a0.length a0).length).isEmpty],
                    [Blk.row false
                        (Kd.str.pair ((Kd.int IntKind.i64).pair ((Kd.int IntKind.i64).pair (Kd.int IntKind.i64)))) a0,
                      Blk.dead, Blk.row false (Kd.int IntKind.i64) a4,
                      Blk.row true (Kd.int IntKind.i64)
                        (lateK (List.take a0.length a0) (List.take a4.length a4) (List.take a0.length a0).length)])))))
else
  some
    (Xt.exit 0, [PV.sl 3 0 1 a2.length a2.length false a3],
      [Blk.row false (Kd.str.pair ((Kd.int IntKind.i64).pair ((Kd.int IntKind.i64).pair (Kd.int IntKind.i64)))) a0,
        Blk.dead, Blk.row false (Kd.int IntKind.i64) a4, Blk.row true (Kd.int IntKind.i64) a2])) := by kernel_rfl
theorem in54 : CutOK Try.prog Try.f54.ntmps (codeAt 0 (bodyF Try.f54)) [0, 7, 18, 19, 20] [7] (entC k54 c54) := loop_cutW (kill := killA 0 k54) TT_ok mixed mu54 (by kernel_rfl) (noCuts_ok _) fun v h => p54l v.1.1 v.1.2 v.2.1.1 v.2.1.2 v.2.2.1.1 v.2.2.1.2 v.2.2.2.1 v.2.2.2.2.1 h
theorem in58 : CutOK Try.prog Try.f58.ntmps (codeAt 0 (bodyF Try.f58)) [0, 1, 12, 13] [4] (entC k58 c58) := loop_cutW (kill := killA 0 k58) (T0_ok _) mixed mu58 (by kernel_rfl) (noCuts_ok _) fun v h => p58l v.1.1 v.1.2 v.2.1.1 v.2.1.2 v.2.2.1 v.2.2.2.1 h
theorem in84 : CutOK Try.prog Try.f84.ntmps (codeAt 0 (bodyF Try.f84)) [0, 1, 12, 13] [4] (entC k58 c58) := loop_cutW (kill := killA 0 k58) (T0_ok _) mixed mu58 (by kernel_rfl) (noCuts_ok _) fun v h => p84l v.1.1 v.1.2 v.2.1.1 v.2.1.2 v.2.2.1 v.2.2.2.1 h
theorem in57a : CutOK Try.prog Try.f57.ntmps (codeAt 0 (bodyF Try.f57)) [5, 14, 15, 16] [] (entC k57a c57a) := loop_cutW (kill := killA 0 k57a) (T0_ok _) mixed mu57a (by kernel_rfl) (noCuts_ok _) fun v h => p57a v.1.1 v.1.2 v.2.1.1 v.2.1.2 v.2.2.1 v.2.2.2.1 h
theorem in57d : CutOK Try.prog Try.f57.ntmps (codeAt 6 (bodyF Try.f57)) [0, 3, 5, 8, 36, 37] [] (entC k57d c57d) := loop_cutW (kill := killA 0 k57d) (T0_ok _) mixed mu57d (by kernel_rfl) (noCuts_ok _) fun v h => p57d v.1.1 v.1.2 v.2.1 v.2.2.1.1 v.2.2.1.2 v.2.2.2.1 v.2.2.2.2.1 v.2.2.2.2.2.1 h
theorem in57c : CutOK Try.prog Try.f57.ntmps (codeAt 4 (bodyF Try.f57)) [0, 3, 5, 32, 33] [] (entC k57c c57c) := loop_cutW (kill := killA 0 k57c) (T0_ok _) mixed mu57c (by kernel_rfl) (cut_at (by kernel_rfl) (by kernel_rfl) in57d (noCuts_ok _)) fun v h => p57c v.1.1 v.1.2 v.2.1 v.2.2.1.1 v.2.2.1.2 v.2.2.2.1 v.2.2.2.2.1 h
theorem in57b : CutOK Try.prog Try.f57.ntmps (codeAt 2 (bodyF Try.f57)) [0, 3, 5, 28, 29] [] (entC k57c c57b) := loop_cutW (kill := killA 0 k57c) (T0_ok _) mixed mu57c (by kernel_rfl) (cut_at (by kernel_rfl) (by kernel_rfl) in57c (noCuts_ok _)) fun v h => p57b v.1.1 v.1.2 v.2.1 v.2.2.1.1 v.2.2.1.2 v.2.2.2.1 v.2.2.2.2.1 h
theorem TD_ok : TableOK Try.prog TD :=
  ext_ok (entV_ok Try.call53 (liftV TT_ok mixed Try.func53 (show Try.f53.body = some (bodyF Try.f53) from rfl) (noCuts_ok _) (by decide) fun v h => p53 v.1.1 v.1.2 v.2.1 h))
  (ext_ok (entV_ok Try.call54 (liftV TT_ok mixed Try.func54 (show Try.f54.body = some (bodyF Try.f54) from rfl) (cut_cons (by kernel_rfl) in54 (noCuts_ok _)) (by decide) fun v h => p54 v.1.1 v.1.2 v.2.1 h))
  (ext_ok (entV_ok Try.call57 (liftV (T0_ok _) mixed Try.func57 (show Try.f57.body = some (bodyF Try.f57) from rfl) (cut_cons (by kernel_rfl) in57a (cut_cons (by kernel_rfl) in57b (noCuts_ok _))) (by decide) fun v h => p57 v.1.1 v.1.2 v.2.1 h))
  (ext_ok (entV_ok Try.call58 (liftV (T0_ok _) mixed Try.func58 (show Try.f58.body = some (bodyF Try.f58) from rfl) (cut_cons (by kernel_rfl) in58 (noCuts_ok _)) (by decide) fun v h => p58 v.1.1 v.1.2 v.2.1.1 v.2.1.2 h))
  (ext_ok (entV_ok Try.call84 (liftV (T0_ok _) mixed Try.func84 (show Try.f84.body = some (bodyF Try.f84) from rfl) (cut_cons (by kernel_rfl) in84 (noCuts_ok _)) (by decide) fun v h => p84 v.1.1 v.1.2 v.2.1.1 v.2.1.2 h)) TT_ok))))
theorem TF_ok : TableOK Try.prog TF := ext_ok (entV_ok Try.call52 (liftV TD_ok mixed Try.func52 (show Try.f52.body = some (bodyF Try.f52) from rfl) (noCuts_ok _) (by decide) fun _ _ => a52)) TD_ok
theorem p13l (l : List Item) (nl : Bool) (out : List Int) (no : Bool) (T : List Int) (nT : Bool) (n k : Int) (h : pre54 l out no T n k = true) : a13lL l nl out no T nT n k = ans54 l T (lateK l T l.length) (lateK l T l.length).isEmpty :=
  (show a13lL l nl out no T nT n k = a54lL l nl out no T nT n k by rw [a13l, a54l]).trans (p54l l nl out no T nT n k h)
theorem in13 : CutOK Try.prog Try.f13.ntmps (codeAt 0 (bodyF Try.f13)) [0, 11, 61, 62, 63] [11] (entC k54 c54) := loop_cutW (kill := killA 0 k54) TF_ok mixed mu54 (by kernel_rfl) (noCuts_ok _) fun v h => p13l v.1.1 v.1.2 v.2.1.1 v.2.1.2 v.2.2.1.1 v.2.2.1.2 v.2.2.2.1 v.2.2.2.2.1 h
theorem p13 (l : List Item) (nl : Bool) (g : List Int) (h : preL g = true) : ∃ H', a13L l nl g = some (PV.sc (.bool true), H') := by
  have hg := of_decide_eq_true h
  rw [a13, take16 hg]
  simp only [List.take_length, Nat.zero_add, len_true, cond_true, h]
  by_cases he : errS l g = 0
  · obtain ⟨f1, f2, f3, f4⟩ := fine_at ⟨hg, he⟩
    have hF := fine_mk hg he
    have h5 := pre54_0 (g := g) f2
    have hE : preE (timesS g l) = true := decide_eq_true (by rw [timesS_len]; omega)
    have hL : preE (lateS g l) = true := decide_eq_true (by have := late_len (l := l) (T := timesS g l) l.length; unfold lateS; omega)
    simp [he, guardB, hg, hF, h5, hE, hL]
    rfl
  · have h1 : (errS l g != 0) = true := by simpa using he
    have h2 : (errS l g == 0) = false := by simpa using he
    have h3 : (0 == errS l g) = false := by simpa using Ne.symm he
    simp [he, h1, h2, h3, guardB, hg]
theorem lawOK (v : denA [(.s (.ro (Kd.pair Kd.str (Kd.pair (Kd.int .i64) (Kd.pair (Kd.int .i64) (Kd.int .i64)))))), (.s (.ar (Kd.int .i64) 16))]) (h : (gSlice (k := (Kd.pair Kd.str (Kd.pair (Kd.int .i64) (Kd.pair (Kd.int .i64) (Kd.int .i64))))) 40 (both gStr (both (gInt .i64) (both (gInt .i64) (gInt .i64))))) v.1 ∧ (fun x : List (Kd.den (Kd.int .i64)) => x.length = 16 ∧ ∀ y ∈ x, (gInt .i64) y) v.2.1 ∧ True) : ∃ H', CallOK Try.prog 13 (showA 0 [(.s (.ro (Kd.pair Kd.str (Kd.pair (Kd.int .i64) (Kd.pair (Kd.int .i64) (Kd.int .i64)))))), (.s (.ar (Kd.int .i64) 16))] v).1 (showA 0 [(.s (.ro (Kd.pair Kd.str (Kd.pair (Kd.int .i64) (Kd.pair (Kd.int .i64) (Kd.int .i64)))))), (.s (.ar (Kd.int .i64) 16))] v).2 (.sc (.bool true)) H' := by
  obtain ⟨_, ⟨h1, _⟩, _⟩ := h
  obtain ⟨H', hH⟩ := p13 v.1.1 v.1.2 v.2.1 (decide_eq_true h1)
  exact ⟨H', evFuncV_sound TF_ok mixed Try.func13 (show Try.f13.body = some (bodyF Try.f13) from rfl) (cut_cons (by kernel_rfl) in13 (noCuts_ok _)) hH (by rw [showA_len]; decide)⟩
end Go.Proofs.YtlaaeighanknpaaAs
