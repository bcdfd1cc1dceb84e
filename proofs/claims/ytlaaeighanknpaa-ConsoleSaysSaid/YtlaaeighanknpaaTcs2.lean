/- What is proved: the law ConsoleSays says true. Condition: each string is within the form's reach. -/
import Derived.Test.YtlaaeighanknpaaTcs1
namespace Go.Proofs.YtlaaeighanknpaaCs
open Go Go.Proofs Go.Proofs.YtlaaeighanknpaaEv
set_option maxRecDepth 100000
set_option linter.unusedSimpArgs false
set_option linter.unusedVariables false
noncomputable abbrev s12aL (a0 : ByteArray) (a1 : Int) (a2 : Int) (a3 : Bool) := evBlock Try.prog T5 noCuts 141 (codeAt 0 (bodyF Try.f12)) k0 (killA 0 k0) [25, 5, 6, 7] [5, 6, 7] (a0, (a1, (a2, (a3, ()))))
theorem s12a (a0 : ByteArray) (a1 : Int) (a2 : Int) (a3 : Bool) : s12aL a0 a1 a2 a3 = (bif decide (a0 = ByteArray.mk #[104, 101, 105, 103, 104, 116]) then
  some (Xt.normal, [PV.sc (Value.int IntKind.i64 60000), PV.sc (Value.int IntKind.i64 0), PV.sc (Value.bool a3)], [])
else
  bif decide (a0 = ByteArray.mk #[104, 101, 97, 100, 105, 110, 103]) then
    some (Xt.normal, [PV.sc (Value.int IntKind.i64 4095), PV.sc (Value.int IntKind.i64 1), PV.sc (Value.bool a3)], [])
  else
    bif decide (a0 = ByteArray.mk #[115, 112, 101, 101, 100]) then
      some (Xt.normal, [PV.sc (Value.int IntKind.i64 400), PV.sc (Value.int IntKind.i64 2), PV.sc (Value.bool a3)], [])
    else
      some
        (Xt.normal, [PV.sc (Value.int IntKind.i64 a1), PV.sc (Value.int IntKind.i64 a2), PV.sc (Value.bool false)], [])) := by kernel_rfl
noncomputable abbrev s12bL (a0 : ByteArray) (a1 : Int) (a2 : Bool) := evBlock Try.prog T5 noCuts 141 (codeAt 1 (bodyF Try.f12)) k1 (killA 0 k1) [33, 6, 8] [6, 8] (a0, (a1, (a2, ())))
theorem s12b (a0 : ByteArray) (a1 : Int) (a2 : Bool) : s12bL a0 a1 a2 = (bif decide (a0 = ByteArray.mk #[100, 105, 114, 101, 99, 116]) then
  some (Xt.normal, [PV.sc (Value.int IntKind.i64 3), PV.sc (Value.bool a2)], [])
else
  bif decide (a0 = ByteArray.mk #[104, 111, 108, 100]) then
    some (Xt.normal, [PV.sc (Value.int IntKind.i64 4), PV.sc (Value.bool a2)], [])
  else
    bif decide (a0 = ByteArray.mk #[99, 111, 110, 116, 97, 99, 116]) then
      some (Xt.normal, [PV.sc (Value.int IntKind.i64 5), PV.sc (Value.bool a2)], [])
    else
      bif decide (a0 = ByteArray.mk #[108, 97, 110, 100]) then
        some (Xt.normal, [PV.sc (Value.int IntKind.i64 6), PV.sc (Value.bool a2)], [])
      else
        bif decide (a0 = ByteArray.mk #[111, 102, 102, 101, 114]) then
          some (Xt.normal, [PV.sc (Value.int IntKind.i64 a1), PV.sc (Value.bool a2)], [])
        else some (Xt.normal, [PV.sc (Value.int IntKind.i64 a1), PV.sc (Value.bool false)], [])) := by kernel_rfl
noncomputable abbrev s12cL (a0 : ByteArray) (a1 : ByteArray) (a2 : Int) (a3 : ByteArray) (a4 : Int) (a5 : Bool) (a6 : Bool) (a7 : Int) := evBlock Try.prog T5 noCuts 141 (codeAt 2 (bodyF Try.f12)) k2 (killA 0 k2) [1, 5, 7, 8, 9] [9] ((a0, (a1, (a2, a3))), (a4, (a5, (a6, (a7, ())))))
theorem s12c (a0 : ByteArray) (a1 : ByteArray) (a2 : Int) (a3 : ByteArray) (a4 : Int) (a5 : Bool) (a6 : Bool) (a7 : Int) : s12cL a0 a1 a2 a3 a4 a5 a6 a7 = (bif !a5 then
  bif !a6 then
    bif !decide (a0 = ByteArray.mk #[97, 99, 99, 101, 112, 116]) then
      bif !decide (a0 = ByteArray.mk #[100, 114, 111, 112]) then
        some
          (Xt.normal, [PV.sc (Value.int IntKind.i64 5)],
            [Blk.fix false
                [PV.sc (Value.string a0), PV.sc (Value.string a1), PV.sc (Value.int IntKind.i64 a2),
                  PV.sc (Value.string a3)]])
      else
        guardB (decide (a1.size ≤ 1000000000000000000))
          (bif !namS a1 then
            some
              (Xt.normal, [PV.sc (Value.int IntKind.i64 6)],
                [Blk.fix false
                    [PV.sc (Value.string a0), PV.sc (Value.string a1), PV.sc (Value.int IntKind.i64 a2),
                      PV.sc (Value.string a3)]])
          else
            bif a6 then
              guardB (decide (a3.size ≤ 1000000000000000000))
                (bif !namS a3 then
                  some
                    (Xt.normal, [PV.sc (Value.int IntKind.i64 6)],
                      [Blk.fix false
                          [PV.sc (Value.string a0), PV.sc (Value.string a1), PV.sc (Value.int IntKind.i64 a2),
                            PV.sc (Value.string a3)]])
                else
                  bif !a6 then
                    bif !decide (a3 = ByteArray.mk #[]) then
                      some
                        (Xt.normal, [PV.sc (Value.int IntKind.i64 3)],
                          [Blk.fix false
                              [PV.sc (Value.string a0), PV.sc (Value.string a1), PV.sc (Value.int IntKind.i64 a2),
                                PV.sc (Value.string a3)]])
                    else
                      bif !a5 then
                        bif a2 != 0 then
                          some
                            (Xt.normal, [PV.sc (Value.int IntKind.i64 3)],
                              [Blk.fix false
                                  [PV.sc (Value.string a0), PV.sc (Value.string a1), PV.sc (Value.int IntKind.i64 a2),
                                    PV.sc (Value.string a3)]])
                        else
                          bif decide (a2 < 0) then
                            some
                              (Xt.normal, [PV.sc (Value.int IntKind.i64 4)],
                                [Blk.fix false
                                    [PV.sc (Value.string a0), PV.sc (Value.string a1), PV.sc (Value.int IntKind.i64 a2),
                                      PV.sc (Value.string a3)]])
                          else
                            bif decide (a2 > a4) then
                              some
                                (Xt.normal, [PV.sc (Value.int IntKind.i64 4)],
                                  [Blk.fix false
                                      [PV.sc (Value.string a0), PV.sc (Value.string a1),
                                        PV.sc (Value.int IntKind.i64 a2), PV.sc (Value.string a3)]])
                            else
                              some
                                (Xt.normal, [PV.sc (Value.int IntKind.i64 a7)],
                                  [Blk.fix false
                                      [PV.sc (Value.string a0), PV.sc (Value.string a1),
                                        PV.sc (Value.int IntKind.i64 a2), PV.sc (Value.string a3)]])
                      else
                        bif decide (a2 < 0) then
                          some
                            (Xt.normal, [PV.sc (Value.int IntKind.i64 4)],
                              [Blk.fix false
                                  [PV.sc (Value.string a0), PV.sc (Value.string a1), PV.sc (Value.int IntKind.i64 a2),
                                    PV.sc (Value.string a3)]])
                        else
                          bif decide (a2 > a4) then
                            some
                              (Xt.normal, [PV.sc (Value.int IntKind.i64 4)],
                                [Blk.fix false
                                    [PV.sc (Value.string a0), PV.sc (Value.string a1), PV.sc (Value.int IntKind.i64 a2),
                                      PV.sc (Value.string a3)]])
                          else
                            some
                              (Xt.normal, [PV.sc (Value.int IntKind.i64 a7)],
                                [Blk.fix false
                                    [PV.sc (Value.string a0), PV.sc (Value.string a1), PV.sc (Value.int IntKind.i64 a2),
                                      PV.sc (Value.string a3)]])
                  else
                    bif !a5 then
                      bif a2 != 0 then
                        some
                          (Xt.normal, [PV.sc (Value.int IntKind.i64 3)],
                            [Blk.fix false
                                [PV.sc (Value.string a0), PV.sc (Value.string a1), PV.sc (Value.int IntKind.i64 a2),
                                  PV.sc (Value.string a3)]])
                      else
                        bif decide (a2 < 0) then
                          some
                            (Xt.normal, [PV.sc (Value.int IntKind.i64 4)],
                              [Blk.fix false
                                  [PV.sc (Value.string a0), PV.sc (Value.string a1), PV.sc (Value.int IntKind.i64 a2),
                                    PV.sc (Value.string a3)]])
                        else
                          bif decide (a2 > a4) then
                            some
                              (Xt.normal, [PV.sc (Value.int IntKind.i64 4)],
                                [Blk.fix false
                                    [PV.sc (Value.string a0), PV.sc (Value.string a1), PV.sc (Value.int IntKind.i64 a2),
                                      PV.sc (Value.string a3)]])
                          else
                            some
                              (Xt.normal, [PV.sc (Value.int IntKind.i64 a7)],
                                [Blk.fix false
                                    [PV.sc (Value.string a0), PV.sc (Value.string a1), PV.sc (Value.int IntKind.i64 a2),
                                      PV.sc (Value.string a3)]])
                    else
                      bif decide (a2 < 0) then
                        some
                          (Xt.normal, [PV.sc (Value.int IntKind.i64 4)],
                            [Blk.fix false
                                [PV.sc (Value.string a0), PV.sc (Value.string a1), PV.sc (Value.int IntKind.i64 a2),
                                  PV.sc (Value.string a3)]])
                      else
                        bif decide (a2 > a4) then
                          some
                            (Xt.normal, [PV.sc (Value.int IntKind.i64 4)],
                              [Blk.fix false
                                  [PV.sc (Value.string a0), PV.sc (Value.string a1), PV.sc (Value.int IntKind.i64 a2),
                                    PV.sc (Value.string a3)]])
                        else
                          some
                            (Xt.normal, [PV.sc (Value.int IntKind.i64 a7)],
                              [Blk.fix false
                                  [PV.sc (Value.string a0), PV.sc (Value.string a1), PV.sc (Value.int IntKind.i64 a2),
                                    PV.sc (Value.string a3)]]))
            else
              bif !a6 then
                bif !decide (a3 = ByteArray.mk #[]) then
                  some
                    (Xt.normal, [PV.sc (Value.int IntKind.i64 3)],
                      [Blk.fix false
                          [PV.sc (Value.string a0), PV.sc (Value.string a1), PV.sc (Value.int IntKind.i64 a2),
                            PV.sc (Value.string a3)]])
                else
                  bif !a5 then
                    bif a2 != 0 then
                      some
                        (Xt.normal, [PV.sc (Value.int IntKind.i64 3)],
                          [Blk.fix false
                              [PV.sc (Value.string a0), PV.sc (Value.string a1), PV.sc (Value.int IntKind.i64 a2),
                                PV.sc (Value.string a3)]])
                    else
                      bif decide (a2 < 0) then
                        some
                          (Xt.normal, [PV.sc (Value.int IntKind.i64 4)],
                            [Blk.fix false
                                [PV.sc (Value.string a0), PV.sc (Value.string a1), PV.sc (Value.int IntKind.i64 a2),
                                  PV.sc (Value.string a3)]])
                      else
                        bif decide (a2 > a4) then
                          some
                            (Xt.normal, [PV.sc (Value.int IntKind.i64 4)],
                              [Blk.fix false
                                  [PV.sc (Value.string a0), PV.sc (Value.string a1), PV.sc (Value.int IntKind.i64 a2),
                                    PV.sc (Value.string a3)]])
                        else
                          some
                            (Xt.normal, [PV.sc (Value.int IntKind.i64 a7)],
                              [Blk.fix false
                                  [PV.sc (Value.string a0), PV.sc (Value.string a1), PV.sc (Value.int IntKind.i64 a2),
                                    PV.sc (Value.string a3)]])
                  else
                    bif decide (a2 < 0) then
                      some
                        (Xt.normal, [PV.sc (Value.int IntKind.i64 4)],
                          [Blk.fix false
                              [PV.sc (Value.string a0), PV.sc (Value.string a1), PV.sc (Value.int IntKind.i64 a2),
                                PV.sc (Value.string a3)]])
                    else
                      bif decide (a2 > a4) then
                        some
                          (Xt.normal, [PV.sc (Value.int IntKind.i64 4)],
                            [Blk.fix false
                                [PV.sc (Value.string a0), PV.sc (Value.string a1), PV.sc (Value.int IntKind.i64 a2),
                                  PV.sc (Value.string a3)]])
                      else
                        some
                          (Xt.normal, [PV.sc (Value.int IntKind.i64 a7)],
                            [Blk.fix false
                                [PV.sc (Value.string a0), PV.sc (Value.string a1), PV.sc (Value.int IntKind.i64 a2),
                                  PV.sc (Value.string a3)]])
              else
                bif !a5 then
                  bif a2 != 0 then
                    some
                      (Xt.normal, [PV.sc (Value.int IntKind.i64 3)],
                        [Blk.fix false
                            [PV.sc (Value.string a0), PV.sc (Value.string a1), PV.sc (Value.int IntKind.i64 a2),
                              PV.sc (Value.string a3)]])
                  else
                    bif decide (a2 < 0) then
                      some
                        (Xt.normal, [PV.sc (Value.int IntKind.i64 4)],
                          [Blk.fix false
                              [PV.sc (Value.string a0), PV.sc (Value.string a1), PV.sc (Value.int IntKind.i64 a2),
                                PV.sc (Value.string a3)]])
                    else
                      bif decide (a2 > a4) then
                        some
                          (Xt.normal, [PV.sc (Value.int IntKind.i64 4)],
                            [Blk.fix false
                                [PV.sc (Value.string a0), PV.sc (Value.string a1), PV.sc (Value.int IntKind.i64 a2),
                                  PV.sc (Value.string a3)]])
                      else
                        some
                          (Xt.normal, [PV.sc (Value.int IntKind.i64 a7)],
                            [Blk.fix false
                                [PV.sc (Value.string a0), PV.sc (Value.string a1), PV.sc (Value.int IntKind.i64 a2),
                                  PV.sc (Value.string a3)]])
                else
                  bif decide (a2 < 0) then
                    some
                      (Xt.normal, [PV.sc (Value.int IntKind.i64 4)],
                        [Blk.fix false
                            [PV.sc (Value.string a0), PV.sc (Value.string a1), PV.sc (Value.int IntKind.i64 a2),
                              PV.sc (Value.string a3)]])
                  else
                    bif decide (a2 > a4) then
                      some
                        (Xt.normal, [PV.sc (Value.int IntKind.i64 4)],
                          [Blk.fix false
                              [PV.sc (Value.string a0), PV.sc (Value.string a1), PV.sc (Value.int IntKind.i64 a2),
                                PV.sc (Value.string a3)]])
                    else
                      some
                        (Xt.normal, [PV.sc (Value.int IntKind.i64 a7)],
                          [Blk.fix false
                              [PV.sc (Value.string a0), PV.sc (Value.string a1), PV.sc (Value.int IntKind.i64 a2),
                                PV.sc (Value.string a3)]]))
    else
      guardB (decide (a1.size ≤ 1000000000000000000))
        (bif !namS a1 then
          some
            (Xt.normal, [PV.sc (Value.int IntKind.i64 6)],
              [Blk.fix false
                  [PV.sc (Value.string a0), PV.sc (Value.string a1), PV.sc (Value.int IntKind.i64 a2),
                    PV.sc (Value.string a3)]])
        else
          bif a6 then
            guardB (decide (a3.size ≤ 1000000000000000000))
              (bif !namS a3 then
                some
                  (Xt.normal, [PV.sc (Value.int IntKind.i64 6)],
                    [Blk.fix false
                        [PV.sc (Value.string a0), PV.sc (Value.string a1), PV.sc (Value.int IntKind.i64 a2),
                          PV.sc (Value.string a3)]])
              else
                bif !a6 then
                  bif !decide (a3 = ByteArray.mk #[]) then
                    some
                      (Xt.normal, [PV.sc (Value.int IntKind.i64 3)],
                        [Blk.fix false
                            [PV.sc (Value.string a0), PV.sc (Value.string a1), PV.sc (Value.int IntKind.i64 a2),
                              PV.sc (Value.string a3)]])
                  else
                    bif !a5 then
                      bif a2 != 0 then
                        some
                          (Xt.normal, [PV.sc (Value.int IntKind.i64 3)],
                            [Blk.fix false
                                [PV.sc (Value.string a0), PV.sc (Value.string a1), PV.sc (Value.int IntKind.i64 a2),
                                  PV.sc (Value.string a3)]])
                      else
                        bif decide (a2 < 0) then
                          some
                            (Xt.normal, [PV.sc (Value.int IntKind.i64 4)],
                              [Blk.fix false
                                  [PV.sc (Value.string a0), PV.sc (Value.string a1), PV.sc (Value.int IntKind.i64 a2),
                                    PV.sc (Value.string a3)]])
                        else
                          bif decide (a2 > a4) then
                            some
                              (Xt.normal, [PV.sc (Value.int IntKind.i64 4)],
                                [Blk.fix false
                                    [PV.sc (Value.string a0), PV.sc (Value.string a1), PV.sc (Value.int IntKind.i64 a2),
                                      PV.sc (Value.string a3)]])
                          else
                            some
                              (Xt.normal, [PV.sc (Value.int IntKind.i64 a7)],
                                [Blk.fix false
                                    [PV.sc (Value.string a0), PV.sc (Value.string a1), PV.sc (Value.int IntKind.i64 a2),
                                      PV.sc (Value.string a3)]])
                    else
                      bif decide (a2 < 0) then
                        some
                          (Xt.normal, [PV.sc (Value.int IntKind.i64 4)],
                            [Blk.fix false
                                [PV.sc (Value.string a0), PV.sc (Value.string a1), PV.sc (Value.int IntKind.i64 a2),
                                  PV.sc (Value.string a3)]])
                      else
                        bif decide (a2 > a4) then
                          some
                            (Xt.normal, [PV.sc (Value.int IntKind.i64 4)],
                              [Blk.fix false
                                  [PV.sc (Value.string a0), PV.sc (Value.string a1), PV.sc (Value.int IntKind.i64 a2),
                                    PV.sc (Value.string a3)]])
                        else
                          some
                            (Xt.normal, [PV.sc (Value.int IntKind.i64 a7)],
                              [Blk.fix false
                                  [PV.sc (Value.string a0), PV.sc (Value.string a1), PV.sc (Value.int IntKind.i64 a2),
                                    PV.sc (Value.string a3)]])
                else
                  bif !a5 then
                    bif a2 != 0 then
                      some
                        (Xt.normal, [PV.sc (Value.int IntKind.i64 3)],
                          [Blk.fix false
                              [PV.sc (Value.string a0), PV.sc (Value.string a1), PV.sc (Value.int IntKind.i64 a2),
                                PV.sc (Value.string a3)]])
                    else
                      bif decide (a2 < 0) then
                        some
                          (Xt.normal, [PV.sc (Value.int IntKind.i64 4)],
                            [Blk.fix false
                                [PV.sc (Value.string a0), PV.sc (Value.string a1), PV.sc (Value.int IntKind.i64 a2),
                                  PV.sc (Value.string a3)]])
                      else
                        bif decide (a2 > a4) then
                          some
                            (Xt.normal, [PV.sc (Value.int IntKind.i64 4)],
                              [Blk.fix false
                                  [PV.sc (Value.string a0), PV.sc (Value.string a1), PV.sc (Value.int IntKind.i64 a2),
                                    PV.sc (Value.string a3)]])
                        else
                          some
                            (Xt.normal, [PV.sc (Value.int IntKind.i64 a7)],
                              [Blk.fix false
                                  [PV.sc (Value.string a0), PV.sc (Value.string a1), PV.sc (Value.int IntKind.i64 a2),
                                    PV.sc (Value.string a3)]])
                  else
                    bif decide (a2 < 0) then
                      some
                        (Xt.normal, [PV.sc (Value.int IntKind.i64 4)],
                          [Blk.fix false
                              [PV.sc (Value.string a0), PV.sc (Value.string a1), PV.sc (Value.int IntKind.i64 a2),
                                PV.sc (Value.string a3)]])
                    else
                      bif decide (a2 > a4) then
                        some
                          (Xt.normal, [PV.sc (Value.int IntKind.i64 4)],
                            [Blk.fix false
                                [PV.sc (Value.string a0), PV.sc (Value.string a1), PV.sc (Value.int IntKind.i64 a2),
                                  PV.sc (Value.string a3)]])
                      else
                        some
                          (Xt.normal, [PV.sc (Value.int IntKind.i64 a7)],
                            [Blk.fix false
                                [PV.sc (Value.string a0), PV.sc (Value.string a1), PV.sc (Value.int IntKind.i64 a2),
                                  PV.sc (Value.string a3)]]))
          else
            bif !a6 then
              bif !decide (a3 = ByteArray.mk #[]) then
                some
                  (Xt.normal, [PV.sc (Value.int IntKind.i64 3)],
                    [Blk.fix false
                        [PV.sc (Value.string a0), PV.sc (Value.string a1), PV.sc (Value.int IntKind.i64 a2),
                          PV.sc (Value.string a3)]])
              else
                bif !a5 then
                  bif a2 != 0 then
                    some
                      (Xt.normal, [PV.sc (Value.int IntKind.i64 3)],
                        [Blk.fix false
                            [PV.sc (Value.string a0), PV.sc (Value.string a1), PV.sc (Value.int IntKind.i64 a2),
                              PV.sc (Value.string a3)]])
                  else
                    bif decide (a2 < 0) then
                      some
                        (Xt.normal, [PV.sc (Value.int IntKind.i64 4)],
                          [Blk.fix false
                              [PV.sc (Value.string a0), PV.sc (Value.string a1), PV.sc (Value.int IntKind.i64 a2),
                                PV.sc (Value.string a3)]])
                    else
                      bif decide (a2 > a4) then
                        some
                          (Xt.normal, [PV.sc (Value.int IntKind.i64 4)],
                            [Blk.fix false
                                [PV.sc (Value.string a0), PV.sc (Value.string a1), PV.sc (Value.int IntKind.i64 a2),
                                  PV.sc (Value.string a3)]])
                      else
                        some
                          (Xt.normal, [PV.sc (Value.int IntKind.i64 a7)],
                            [Blk.fix false
                                [PV.sc (Value.string a0), PV.sc (Value.string a1), PV.sc (Value.int IntKind.i64 a2),
                                  PV.sc (Value.string a3)]])
                else
                  bif decide (a2 < 0) then
                    some
                      (Xt.normal, [PV.sc (Value.int IntKind.i64 4)],
                        [Blk.fix false
                            [PV.sc (Value.string a0), PV.sc (Value.string a1), PV.sc (Value.int IntKind.i64 a2),
                              PV.sc (Value.string a3)]])
                  else
                    bif decide (a2 > a4) then
                      some
                        (Xt.normal, [PV.sc (Value.int IntKind.i64 4)],
                          [Blk.fix false
                              [PV.sc (Value.string a0), PV.sc (Value.string a1), PV.sc (Value.int IntKind.i64 a2),
                                PV.sc (Value.string a3)]])
                    else
                      some
                        (Xt.normal, [PV.sc (Value.int IntKind.i64 a7)],
                          [Blk.fix false
                              [PV.sc (Value.string a0), PV.sc (Value.string a1), PV.sc (Value.int IntKind.i64 a2),
                                PV.sc (Value.string a3)]])
            else
              bif !a5 then
                bif a2 != 0 then
                  some
                    (Xt.normal, [PV.sc (Value.int IntKind.i64 3)],
                      [Blk.fix false
                          [PV.sc (Value.string a0), PV.sc (Value.string a1), PV.sc (Value.int IntKind.i64 a2),
                            PV.sc (Value.string a3)]])
                else
                  bif decide (a2 < 0) then
                    some
                      (Xt.normal, [PV.sc (Value.int IntKind.i64 4)],
                        [Blk.fix false
                            [PV.sc (Value.string a0), PV.sc (Value.string a1), PV.sc (Value.int IntKind.i64 a2),
                              PV.sc (Value.string a3)]])
                  else
                    bif decide (a2 > a4) then
                      some
                        (Xt.normal, [PV.sc (Value.int IntKind.i64 4)],
                          [Blk.fix false
                              [PV.sc (Value.string a0), PV.sc (Value.string a1), PV.sc (Value.int IntKind.i64 a2),
                                PV.sc (Value.string a3)]])
                    else
                      some
                        (Xt.normal, [PV.sc (Value.int IntKind.i64 a7)],
                          [Blk.fix false
                              [PV.sc (Value.string a0), PV.sc (Value.string a1), PV.sc (Value.int IntKind.i64 a2),
                                PV.sc (Value.string a3)]])
              else
                bif decide (a2 < 0) then
                  some
                    (Xt.normal, [PV.sc (Value.int IntKind.i64 4)],
                      [Blk.fix false
                          [PV.sc (Value.string a0), PV.sc (Value.string a1), PV.sc (Value.int IntKind.i64 a2),
                            PV.sc (Value.string a3)]])
                else
                  bif decide (a2 > a4) then
                    some
                      (Xt.normal, [PV.sc (Value.int IntKind.i64 4)],
                        [Blk.fix false
                            [PV.sc (Value.string a0), PV.sc (Value.string a1), PV.sc (Value.int IntKind.i64 a2),
                              PV.sc (Value.string a3)]])
                  else
                    some
                      (Xt.normal, [PV.sc (Value.int IntKind.i64 a7)],
                        [Blk.fix false
                            [PV.sc (Value.string a0), PV.sc (Value.string a1), PV.sc (Value.int IntKind.i64 a2),
                              PV.sc (Value.string a3)]]))
  else
    guardB (decide (a1.size ≤ 1000000000000000000))
      (bif !namS a1 then
        some
          (Xt.normal, [PV.sc (Value.int IntKind.i64 6)],
            [Blk.fix false
                [PV.sc (Value.string a0), PV.sc (Value.string a1), PV.sc (Value.int IntKind.i64 a2),
                  PV.sc (Value.string a3)]])
      else
        bif a6 then
          guardB (decide (a3.size ≤ 1000000000000000000))
            (bif !namS a3 then
              some
                (Xt.normal, [PV.sc (Value.int IntKind.i64 6)],
                  [Blk.fix false
                      [PV.sc (Value.string a0), PV.sc (Value.string a1), PV.sc (Value.int IntKind.i64 a2),
                        PV.sc (Value.string a3)]])
            else
              bif !a6 then
                bif !decide (a3 = ByteArray.mk #[]) then
                  some
                    (Xt.normal, [PV.sc (Value.int IntKind.i64 3)],
                      [Blk.fix false
                          [PV.sc (Value.string a0), PV.sc (Value.string a1), PV.sc (Value.int IntKind.i64 a2),
                            PV.sc (Value.string a3)]])
                else
                  bif !a5 then
                    bif a2 != 0 then
                      some
                        (Xt.normal, [PV.sc (Value.int IntKind.i64 3)],
                          [Blk.fix false
                              [PV.sc (Value.string a0), PV.sc (Value.string a1), PV.sc (Value.int IntKind.i64 a2),
                                PV.sc (Value.string a3)]])
                    else
                      bif decide (a2 < 0) then
                        some
                          (Xt.normal, [PV.sc (Value.int IntKind.i64 4)],
                            [Blk.fix false
                                [PV.sc (Value.string a0), PV.sc (Value.string a1), PV.sc (Value.int IntKind.i64 a2),
                                  PV.sc (Value.string a3)]])
                      else
                        bif decide (a2 > a4) then
                          some
                            (Xt.normal, [PV.sc (Value.int IntKind.i64 4)],
                              [Blk.fix false
                                  [PV.sc (Value.string a0), PV.sc (Value.string a1), PV.sc (Value.int IntKind.i64 a2),
                                    PV.sc (Value.string a3)]])
                        else
                          some
                            (Xt.normal, [PV.sc (Value.int IntKind.i64 a7)],
                              [Blk.fix false
                                  [PV.sc (Value.string a0), PV.sc (Value.string a1), PV.sc (Value.int IntKind.i64 a2),
                                    PV.sc (Value.string a3)]])
                  else
                    bif decide (a2 < 0) then
                      some
                        (Xt.normal, [PV.sc (Value.int IntKind.i64 4)],
                          [Blk.fix false
                              [PV.sc (Value.string a0), PV.sc (Value.string a1), PV.sc (Value.int IntKind.i64 a2),
                                PV.sc (Value.string a3)]])
                    else
                      bif decide (a2 > a4) then
                        some
                          (Xt.normal, [PV.sc (Value.int IntKind.i64 4)],
                            [Blk.fix false
                                [PV.sc (Value.string a0), PV.sc (Value.string a1), PV.sc (Value.int IntKind.i64 a2),
                                  PV.sc (Value.string a3)]])
                      else
                        some
                          (Xt.normal, [PV.sc (Value.int IntKind.i64 a7)],
                            [Blk.fix false
                                [PV.sc (Value.string a0), PV.sc (Value.string a1), PV.sc (Value.int IntKind.i64 a2),
                                  PV.sc (Value.string a3)]])
              else
                bif !a5 then
                  bif a2 != 0 then
                    some
                      (Xt.normal, [PV.sc (Value.int IntKind.i64 3)],
                        [Blk.fix false
                            [PV.sc (Value.string a0), PV.sc (Value.string a1), PV.sc (Value.int IntKind.i64 a2),
                              PV.sc (Value.string a3)]])
                  else
                    bif decide (a2 < 0) then
                      some
                        (Xt.normal, [PV.sc (Value.int IntKind.i64 4)],
                          [Blk.fix false
                              [PV.sc (Value.string a0), PV.sc (Value.string a1), PV.sc (Value.int IntKind.i64 a2),
                                PV.sc (Value.string a3)]])
                    else
                      bif decide (a2 > a4) then
                        some
                          (Xt.normal, [PV.sc (Value.int IntKind.i64 4)],
                            [Blk.fix false
                                [PV.sc (Value.string a0), PV.sc (Value.string a1), PV.sc (Value.int IntKind.i64 a2),
                                  PV.sc (Value.string a3)]])
                      else
                        some
                          (Xt.normal, [PV.sc (Value.int IntKind.i64 a7)],
                            [Blk.fix false
                                [PV.sc (Value.string a0), PV.sc (Value.string a1), PV.sc (Value.int IntKind.i64 a2),
                                  PV.sc (Value.string a3)]])
                else
                  bif decide (a2 < 0) then
                    some
                      (Xt.normal, [PV.sc (Value.int IntKind.i64 4)],
                        [Blk.fix false
                            [PV.sc (Value.string a0), PV.sc (Value.string a1), PV.sc (Value.int IntKind.i64 a2),
                              PV.sc (Value.string a3)]])
                  else
                    bif decide (a2 > a4) then
                      some
                        (Xt.normal, [PV.sc (Value.int IntKind.i64 4)],
                          [Blk.fix false
                              [PV.sc (Value.string a0), PV.sc (Value.string a1), PV.sc (Value.int IntKind.i64 a2),
                                PV.sc (Value.string a3)]])
                    else
                      some
                        (Xt.normal, [PV.sc (Value.int IntKind.i64 a7)],
                          [Blk.fix false
                              [PV.sc (Value.string a0), PV.sc (Value.string a1), PV.sc (Value.int IntKind.i64 a2),
                                PV.sc (Value.string a3)]]))
        else
          bif !a6 then
            bif !decide (a3 = ByteArray.mk #[]) then
              some
                (Xt.normal, [PV.sc (Value.int IntKind.i64 3)],
                  [Blk.fix false
                      [PV.sc (Value.string a0), PV.sc (Value.string a1), PV.sc (Value.int IntKind.i64 a2),
                        PV.sc (Value.string a3)]])
            else
              bif !a5 then
                bif a2 != 0 then
                  some
                    (Xt.normal, [PV.sc (Value.int IntKind.i64 3)],
                      [Blk.fix false
                          [PV.sc (Value.string a0), PV.sc (Value.string a1), PV.sc (Value.int IntKind.i64 a2),
                            PV.sc (Value.string a3)]])
                else
                  bif decide (a2 < 0) then
                    some
                      (Xt.normal, [PV.sc (Value.int IntKind.i64 4)],
                        [Blk.fix false
                            [PV.sc (Value.string a0), PV.sc (Value.string a1), PV.sc (Value.int IntKind.i64 a2),
                              PV.sc (Value.string a3)]])
                  else
                    bif decide (a2 > a4) then
                      some
                        (Xt.normal, [PV.sc (Value.int IntKind.i64 4)],
                          [Blk.fix false
                              [PV.sc (Value.string a0), PV.sc (Value.string a1), PV.sc (Value.int IntKind.i64 a2),
                                PV.sc (Value.string a3)]])
                    else
                      some
                        (Xt.normal, [PV.sc (Value.int IntKind.i64 a7)],
                          [Blk.fix false
                              [PV.sc (Value.string a0), PV.sc (Value.string a1), PV.sc (Value.int IntKind.i64 a2),
                                PV.sc (Value.string a3)]])
              else
                bif decide (a2 < 0) then
                  some
                    (Xt.normal, [PV.sc (Value.int IntKind.i64 4)],
                      [Blk.fix false
                          [PV.sc (Value.string a0), PV.sc (Value.string a1), PV.sc (Value.int IntKind.i64 a2),
                            PV.sc (Value.string a3)]])
                else
                  bif decide (a2 > a4) then
                    some
                      (Xt.normal, [PV.sc (Value.int IntKind.i64 4)],
                        [Blk.fix false
                            [PV.sc (Value.string a0), PV.sc (Value.string a1), PV.sc (Value.int IntKind.i64 a2),
                              PV.sc (Value.string a3)]])
                  else
                    some
                      (Xt.normal, [PV.sc (Value.int IntKind.i64 a7)],
                        [Blk.fix false
                            [PV.sc (Value.string a0), PV.sc (Value.string a1), PV.sc (Value.int IntKind.i64 a2),
                              PV.sc (Value.string a3)]])
          else
            bif !a5 then
              bif a2 != 0 then
                some
                  (Xt.normal, [PV.sc (Value.int IntKind.i64 3)],
                    [Blk.fix false
                        [PV.sc (Value.string a0), PV.sc (Value.string a1), PV.sc (Value.int IntKind.i64 a2),
                          PV.sc (Value.string a3)]])
              else
                bif decide (a2 < 0) then
                  some
                    (Xt.normal, [PV.sc (Value.int IntKind.i64 4)],
                      [Blk.fix false
                          [PV.sc (Value.string a0), PV.sc (Value.string a1), PV.sc (Value.int IntKind.i64 a2),
                            PV.sc (Value.string a3)]])
                else
                  bif decide (a2 > a4) then
                    some
                      (Xt.normal, [PV.sc (Value.int IntKind.i64 4)],
                        [Blk.fix false
                            [PV.sc (Value.string a0), PV.sc (Value.string a1), PV.sc (Value.int IntKind.i64 a2),
                              PV.sc (Value.string a3)]])
                  else
                    some
                      (Xt.normal, [PV.sc (Value.int IntKind.i64 a7)],
                        [Blk.fix false
                            [PV.sc (Value.string a0), PV.sc (Value.string a1), PV.sc (Value.int IntKind.i64 a2),
                              PV.sc (Value.string a3)]])
            else
              bif decide (a2 < 0) then
                some
                  (Xt.normal, [PV.sc (Value.int IntKind.i64 4)],
                    [Blk.fix false
                        [PV.sc (Value.string a0), PV.sc (Value.string a1), PV.sc (Value.int IntKind.i64 a2),
                          PV.sc (Value.string a3)]])
              else
                bif decide (a2 > a4) then
                  some
                    (Xt.normal, [PV.sc (Value.int IntKind.i64 4)],
                      [Blk.fix false
                          [PV.sc (Value.string a0), PV.sc (Value.string a1), PV.sc (Value.int IntKind.i64 a2),
                            PV.sc (Value.string a3)]])
                else
                  some
                    (Xt.normal, [PV.sc (Value.int IntKind.i64 a7)],
                      [Blk.fix false
                          [PV.sc (Value.string a0), PV.sc (Value.string a1), PV.sc (Value.int IntKind.i64 a2),
                            PV.sc (Value.string a3)]]))
else
  guardB (decide (a1.size ≤ 1000000000000000000))
    (bif !namS a1 then
      some
        (Xt.normal, [PV.sc (Value.int IntKind.i64 6)],
          [Blk.fix false
              [PV.sc (Value.string a0), PV.sc (Value.string a1), PV.sc (Value.int IntKind.i64 a2),
                PV.sc (Value.string a3)]])
    else
      bif a6 then
        guardB (decide (a3.size ≤ 1000000000000000000))
          (bif !namS a3 then
            some
              (Xt.normal, [PV.sc (Value.int IntKind.i64 6)],
                [Blk.fix false
                    [PV.sc (Value.string a0), PV.sc (Value.string a1), PV.sc (Value.int IntKind.i64 a2),
                      PV.sc (Value.string a3)]])
          else
            bif !a6 then
              bif !decide (a3 = ByteArray.mk #[]) then
                some
                  (Xt.normal, [PV.sc (Value.int IntKind.i64 3)],
                    [Blk.fix false
                        [PV.sc (Value.string a0), PV.sc (Value.string a1), PV.sc (Value.int IntKind.i64 a2),
                          PV.sc (Value.string a3)]])
              else
                bif !a5 then
                  bif a2 != 0 then
                    some
                      (Xt.normal, [PV.sc (Value.int IntKind.i64 3)],
                        [Blk.fix false
                            [PV.sc (Value.string a0), PV.sc (Value.string a1), PV.sc (Value.int IntKind.i64 a2),
                              PV.sc (Value.string a3)]])
                  else
                    bif decide (a2 < 0) then
                      some
                        (Xt.normal, [PV.sc (Value.int IntKind.i64 4)],
                          [Blk.fix false
                              [PV.sc (Value.string a0), PV.sc (Value.string a1), PV.sc (Value.int IntKind.i64 a2),
                                PV.sc (Value.string a3)]])
                    else
                      bif decide (a2 > a4) then
                        some
                          (Xt.normal, [PV.sc (Value.int IntKind.i64 4)],
                            [Blk.fix false
                                [PV.sc (Value.string a0), PV.sc (Value.string a1), PV.sc (Value.int IntKind.i64 a2),
                                  PV.sc (Value.string a3)]])
                      else
                        some
                          (Xt.normal, [PV.sc (Value.int IntKind.i64 a7)],
                            [Blk.fix false
                                [PV.sc (Value.string a0), PV.sc (Value.string a1), PV.sc (Value.int IntKind.i64 a2),
                                  PV.sc (Value.string a3)]])
                else
                  bif decide (a2 < 0) then
                    some
                      (Xt.normal, [PV.sc (Value.int IntKind.i64 4)],
                        [Blk.fix false
                            [PV.sc (Value.string a0), PV.sc (Value.string a1), PV.sc (Value.int IntKind.i64 a2),
                              PV.sc (Value.string a3)]])
                  else
                    bif decide (a2 > a4) then
                      some
                        (Xt.normal, [PV.sc (Value.int IntKind.i64 4)],
                          [Blk.fix false
                              [PV.sc (Value.string a0), PV.sc (Value.string a1), PV.sc (Value.int IntKind.i64 a2),
                                PV.sc (Value.string a3)]])
                    else
                      some
                        (Xt.normal, [PV.sc (Value.int IntKind.i64 a7)],
                          [Blk.fix false
                              [PV.sc (Value.string a0), PV.sc (Value.string a1), PV.sc (Value.int IntKind.i64 a2),
                                PV.sc (Value.string a3)]])
            else
              bif !a5 then
                bif a2 != 0 then
                  some
                    (Xt.normal, [PV.sc (Value.int IntKind.i64 3)],
                      [Blk.fix false
                          [PV.sc (Value.string a0), PV.sc (Value.string a1), PV.sc (Value.int IntKind.i64 a2),
                            PV.sc (Value.string a3)]])
                else
                  bif decide (a2 < 0) then
                    some
                      (Xt.normal, [PV.sc (Value.int IntKind.i64 4)],
                        [Blk.fix false
                            [PV.sc (Value.string a0), PV.sc (Value.string a1), PV.sc (Value.int IntKind.i64 a2),
                              PV.sc (Value.string a3)]])
                  else
                    bif decide (a2 > a4) then
                      some
                        (Xt.normal, [PV.sc (Value.int IntKind.i64 4)],
                          [Blk.fix false
                              [PV.sc (Value.string a0), PV.sc (Value.string a1), PV.sc (Value.int IntKind.i64 a2),
                                PV.sc (Value.string a3)]])
                    else
                      some
                        (Xt.normal, [PV.sc (Value.int IntKind.i64 a7)],
                          [Blk.fix false
                              [PV.sc (Value.string a0), PV.sc (Value.string a1), PV.sc (Value.int IntKind.i64 a2),
                                PV.sc (Value.string a3)]])
              else
                bif decide (a2 < 0) then
                  some
                    (Xt.normal, [PV.sc (Value.int IntKind.i64 4)],
                      [Blk.fix false
                          [PV.sc (Value.string a0), PV.sc (Value.string a1), PV.sc (Value.int IntKind.i64 a2),
                            PV.sc (Value.string a3)]])
                else
                  bif decide (a2 > a4) then
                    some
                      (Xt.normal, [PV.sc (Value.int IntKind.i64 4)],
                        [Blk.fix false
                            [PV.sc (Value.string a0), PV.sc (Value.string a1), PV.sc (Value.int IntKind.i64 a2),
                              PV.sc (Value.string a3)]])
                  else
                    some
                      (Xt.normal, [PV.sc (Value.int IntKind.i64 a7)],
                        [Blk.fix false
                            [PV.sc (Value.string a0), PV.sc (Value.string a1), PV.sc (Value.int IntKind.i64 a2),
                              PV.sc (Value.string a3)]]))
      else
        bif !a6 then
          bif !decide (a3 = ByteArray.mk #[]) then
            some
              (Xt.normal, [PV.sc (Value.int IntKind.i64 3)],
                [Blk.fix false
                    [PV.sc (Value.string a0), PV.sc (Value.string a1), PV.sc (Value.int IntKind.i64 a2),
                      PV.sc (Value.string a3)]])
          else
            bif !a5 then
              bif a2 != 0 then
                some
                  (Xt.normal, [PV.sc (Value.int IntKind.i64 3)],
                    [Blk.fix false
                        [PV.sc (Value.string a0), PV.sc (Value.string a1), PV.sc (Value.int IntKind.i64 a2),
                          PV.sc (Value.string a3)]])
              else
                bif decide (a2 < 0) then
                  some
                    (Xt.normal, [PV.sc (Value.int IntKind.i64 4)],
                      [Blk.fix false
                          [PV.sc (Value.string a0), PV.sc (Value.string a1), PV.sc (Value.int IntKind.i64 a2),
                            PV.sc (Value.string a3)]])
                else
                  bif decide (a2 > a4) then
                    some
                      (Xt.normal, [PV.sc (Value.int IntKind.i64 4)],
                        [Blk.fix false
                            [PV.sc (Value.string a0), PV.sc (Value.string a1), PV.sc (Value.int IntKind.i64 a2),
                              PV.sc (Value.string a3)]])
                  else
                    some
                      (Xt.normal, [PV.sc (Value.int IntKind.i64 a7)],
                        [Blk.fix false
                            [PV.sc (Value.string a0), PV.sc (Value.string a1), PV.sc (Value.int IntKind.i64 a2),
                              PV.sc (Value.string a3)]])
            else
              bif decide (a2 < 0) then
                some
                  (Xt.normal, [PV.sc (Value.int IntKind.i64 4)],
                    [Blk.fix false
                        [PV.sc (Value.string a0), PV.sc (Value.string a1), PV.sc (Value.int IntKind.i64 a2),
                          PV.sc (Value.string a3)]])
              else
                bif decide (a2 > a4) then
                  some
                    (Xt.normal, [PV.sc (Value.int IntKind.i64 4)],
                      [Blk.fix false
                          [PV.sc (Value.string a0), PV.sc (Value.string a1), PV.sc (Value.int IntKind.i64 a2),
                            PV.sc (Value.string a3)]])
                else
                  some
                    (Xt.normal, [PV.sc (Value.int IntKind.i64 a7)],
                      [Blk.fix false
                          [PV.sc (Value.string a0), PV.sc (Value.string a1), PV.sc (Value.int IntKind.i64 a2),
                            PV.sc (Value.string a3)]])
        else
          bif !a5 then
            bif a2 != 0 then
              some
                (Xt.normal, [PV.sc (Value.int IntKind.i64 3)],
                  [Blk.fix false
                      [PV.sc (Value.string a0), PV.sc (Value.string a1), PV.sc (Value.int IntKind.i64 a2),
                        PV.sc (Value.string a3)]])
            else
              bif decide (a2 < 0) then
                some
                  (Xt.normal, [PV.sc (Value.int IntKind.i64 4)],
                    [Blk.fix false
                        [PV.sc (Value.string a0), PV.sc (Value.string a1), PV.sc (Value.int IntKind.i64 a2),
                          PV.sc (Value.string a3)]])
              else
                bif decide (a2 > a4) then
                  some
                    (Xt.normal, [PV.sc (Value.int IntKind.i64 4)],
                      [Blk.fix false
                          [PV.sc (Value.string a0), PV.sc (Value.string a1), PV.sc (Value.int IntKind.i64 a2),
                            PV.sc (Value.string a3)]])
                else
                  some
                    (Xt.normal, [PV.sc (Value.int IntKind.i64 a7)],
                      [Blk.fix false
                          [PV.sc (Value.string a0), PV.sc (Value.string a1), PV.sc (Value.int IntKind.i64 a2),
                            PV.sc (Value.string a3)]])
          else
            bif decide (a2 < 0) then
              some
                (Xt.normal, [PV.sc (Value.int IntKind.i64 4)],
                  [Blk.fix false
                      [PV.sc (Value.string a0), PV.sc (Value.string a1), PV.sc (Value.int IntKind.i64 a2),
                        PV.sc (Value.string a3)]])
            else
              bif decide (a2 > a4) then
                some
                  (Xt.normal, [PV.sc (Value.int IntKind.i64 4)],
                    [Blk.fix false
                        [PV.sc (Value.string a0), PV.sc (Value.string a1), PV.sc (Value.int IntKind.i64 a2),
                          PV.sc (Value.string a3)]])
              else
                some
                  (Xt.normal, [PV.sc (Value.int IntKind.i64 a7)],
                    [Blk.fix false
                        [PV.sc (Value.string a0), PV.sc (Value.string a1), PV.sc (Value.int IntKind.i64 a2),
                          PV.sc (Value.string a3)]]))) := by kernel_rfl
noncomputable abbrev s12L (a0 : ByteArray) (a1 : ByteArray) (a2 : Int) (a3 : ByteArray) := evFuncV Try.prog T5 cutsL Try.f12 (killA 0 [sCmd]) (showA 0 [sCmd] ((a0, (a1, (a2, a3))), ())).1 (showA 0 [sCmd] ((a0, (a1, (a2, a3))), ())).2
theorem s12 (a0 : ByteArray) (a1 : ByteArray) (a2 : Int) (a3 : ByteArray) : s12L a0 a1 a2 a3 = (guardB (preC a1 a3)
  (guardB (preC a1 a3)
    (guardB (preC a1 a3)
      (bif
          chkS a0 a1 a2 a3 !=
            wantS a0 a1 a2 a3 (sw0 a0 0 (-1) true).fst (sw0 a0 0 (-1) true).snd.snd
              (sw1 a0 (sw0 a0 0 (-1) true).snd.fst true).snd 0 then
        some (PV.sc (Value.bool false), [])
      else
        bif
            wantS a0 a1 a2 a3 (sw0 a0 0 (-1) true).fst (sw0 a0 0 (-1) true).snd.snd
                (sw1 a0 (sw0 a0 0 (-1) true).snd.fst true).snd 0 ==
              0 then
          bif decide ((sw1 a0 (sw0 a0 0 (-1) true).snd.fst true).fst < 0) then
            bif (clrS a0 a1 a2 a3).snd == 8 then
              some
                (PV.sc
                    (Value.bool
                      (decide ((clrS a0 a1 a2 a3).fst.fst = ByteArray.mk #[]) &&
                        ((clrS a0 a1 a2 a3).fst.snd.fst == 0 &&
                          ((clrS a0 a1 a2 a3).fst.snd.snd.fst == 0 &&
                            (decide ((clrS a0 a1 a2 a3).fst.snd.snd.snd = ByteArray.mk #[]) && true))))),
                  [])
            else some (PV.sc (Value.bool false), [])
          else
            bif
                wantS a0 a1 a2 a3 (sw0 a0 0 (-1) true).fst (sw0 a0 0 (-1) true).snd.snd
                    (sw1 a0 (sw0 a0 0 (-1) true).snd.fst true).snd 0 !=
                  0 then
              bif
                  (clrS a0 a1 a2 a3).snd ==
                    wantS a0 a1 a2 a3 (sw0 a0 0 (-1) true).fst (sw0 a0 0 (-1) true).snd.snd
                      (sw1 a0 (sw0 a0 0 (-1) true).snd.fst true).snd 0 then
                some
                  (PV.sc
                      (Value.bool
                        (decide ((clrS a0 a1 a2 a3).fst.fst = ByteArray.mk #[]) &&
                          ((clrS a0 a1 a2 a3).fst.snd.fst == 0 &&
                            ((clrS a0 a1 a2 a3).fst.snd.snd.fst == 0 &&
                              (decide ((clrS a0 a1 a2 a3).fst.snd.snd.snd = ByteArray.mk #[]) && true))))),
                    [])
              else some (PV.sc (Value.bool false), [])
            else
              bif (clrS a0 a1 a2 a3).snd == 0 then
                some
                  (PV.sc
                      (Value.bool
                        (decide ((clrS a0 a1 a2 a3).fst.fst = a1) &&
                          ((clrS a0 a1 a2 a3).fst.snd.fst == (sw1 a0 (sw0 a0 0 (-1) true).snd.fst true).fst &&
                            ((clrS a0 a1 a2 a3).fst.snd.snd.fst == a2 &&
                              (decide ((clrS a0 a1 a2 a3).fst.snd.snd.snd = a3) && true))))),
                    [])
              else some (PV.sc (Value.bool false), [])
        else
          bif
              wantS a0 a1 a2 a3 (sw0 a0 0 (-1) true).fst (sw0 a0 0 (-1) true).snd.snd
                  (sw1 a0 (sw0 a0 0 (-1) true).snd.fst true).snd 0 !=
                0 then
            bif
                (clrS a0 a1 a2 a3).snd ==
                  wantS a0 a1 a2 a3 (sw0 a0 0 (-1) true).fst (sw0 a0 0 (-1) true).snd.snd
                    (sw1 a0 (sw0 a0 0 (-1) true).snd.fst true).snd 0 then
              some
                (PV.sc
                    (Value.bool
                      (decide ((clrS a0 a1 a2 a3).fst.fst = ByteArray.mk #[]) &&
                        ((clrS a0 a1 a2 a3).fst.snd.fst == 0 &&
                          ((clrS a0 a1 a2 a3).fst.snd.snd.fst == 0 &&
                            (decide ((clrS a0 a1 a2 a3).fst.snd.snd.snd = ByteArray.mk #[]) && true))))),
                  [])
            else some (PV.sc (Value.bool false), [])
          else
            bif (clrS a0 a1 a2 a3).snd == 0 then
              some
                (PV.sc
                    (Value.bool
                      (decide ((clrS a0 a1 a2 a3).fst.fst = a1) &&
                        ((clrS a0 a1 a2 a3).fst.snd.fst == (sw1 a0 (sw0 a0 0 (-1) true).snd.fst true).fst &&
                          ((clrS a0 a1 a2 a3).fst.snd.snd.fst == a2 &&
                            (decide ((clrS a0 a1 a2 a3).fst.snd.snd.snd = a3) && true))))),
                  [])
            else some (PV.sc (Value.bool false), []))))) := by kernel_rfl
theorem q12a (v : ByteArray) (m k : Int) (nb : Bool) : s12aL v m k nb = pickA (c0 (v, m, k, nb, ())).2 := by
  show _ = some (Xt.normal, [PV.sc (.int .i64 (sw0 v m k nb).1), .sc (.int .i64 (sw0 v m k nb).2.1), .sc (.bool (sw0 v m k nb).2.2)], [])
  rw [s12a]
  unfold sw0 eqN
  refine cond_split (fun h => by rw [if_pos h]) (fun h => ?_)
  rw [if_neg (by rw [h]; simp)]
  refine cond_split (fun h => by rw [if_pos h]) (fun h => ?_)
  rw [if_neg (by rw [h]; simp)]
  refine cond_split (fun h => by rw [if_pos h]) (fun h => ?_)
  rw [if_neg (by rw [h]; simp)]
theorem q12b (v : ByteArray) (k : Int) (fx : Bool) : s12bL v k fx = pickA (c1 (v, k, fx, ())).2 := by
  show _ = some (Xt.normal, [PV.sc (.int .i64 (sw1 v k fx).1), .sc (.bool (sw1 v k fx).2)], [])
  rw [s12b]
  unfold sw1 eqN
  iterate 5
    refine cond_split (fun h => by rw [if_pos h]) (fun h => ?_)
    rw [if_neg (by rw [h]; simp)]
theorem q12c (v c : ByteArray) (n : Int) (f : ByteArray) (m : Int) (nb fx : Bool) (w0 : Int) (h : preC c f = true) : s12cL v c n f m nb fx w0 = pickA (c2 ((v, c, n, f), m, nb, fx, w0, ())).2 := by
  obtain ⟨h1, h2⟩ := pre_C h
  show _ = some (Xt.normal, [PV.sc (.int .i64 (wantS v c n f m nb fx w0))], [Blk.fix false [.sc (.string v), .sc (.string c), .sc (.int .i64 n), .sc (.string f)]])
  rw [s12c, show decide (c.size ≤ 1000000000000000000) = true from decide_eq_true h1, show decide (f.size ≤ 1000000000000000000) = true from decide_eq_true h2]
  unfold wantS eqN
  generalize decide (n > m) = b8
  generalize decide (v = ⟨#[97, 99, 99, 101, 112, 116]⟩) = b1, decide (v = ⟨#[100, 114, 111, 112]⟩) = b3
  generalize namS c = b2, namS f = b4, decide (f = ⟨#[]⟩) = b6, (n != 0) = b7, decide (n < 0) = b9
  cases nb <;> cases fx <;> cases b1 <;> cases b3 <;> try rfl
  all_goals (cases b2 <;> try rfl)
  all_goals (cases b4 <;> cases b6 <;> cases b7 <;> cases b9 <;> cases b8 <;> rfl)
/-- The table's row, told by the law's two switches. -/
theorem find_tab (v : ByteArray) :
    ((findS v).2 = true ∧ (findS v).1.2.1 = (sw0 v 0 (-1) true).2.2 ∧ (findS v).1.2.2.1 = (sw1 v (sw0 v 0 (-1) true).2.1 true).2 ∧ (findS v).1.2.2.2.1 = (sw0 v 0 (-1) true).1 ∧ (findS v).1.2.2.2.2 = (sw1 v (sw0 v 0 (-1) true).2.1 true).1 ∧
      (!(sw0 v 0 (-1) true).2.2 && (!(sw1 v (sw0 v 0 (-1) true).2.1 true).2 && (!eqN v ⟨#[97, 99, 99, 101, 112, 116]⟩ && !eqN v ⟨#[100, 114, 111, 112]⟩))) = false) ∨
    ((findS v).2 = false ∧ (!(sw0 v 0 (-1) true).2.2 && (!(sw1 v (sw0 v 0 (-1) true).2.1 true).2 && (!eqN v ⟨#[97, 99, 99, 101, 112, 116]⟩ && !eqN v ⟨#[100, 114, 111, 112]⟩))) = true) := by
  by_cases e1 : v = ⟨#[97, 99, 99, 101, 112, 116]⟩
  · left; subst e1; decide
  by_cases e2 : v = ⟨#[99, 111, 110, 116, 97, 99, 116]⟩
  · left; subst e2; decide
  by_cases e3 : v = ⟨#[100, 105, 114, 101, 99, 116]⟩
  · left; subst e3; decide
  by_cases e4 : v = ⟨#[100, 114, 111, 112]⟩
  · left; subst e4; decide
  by_cases e5 : v = ⟨#[104, 101, 97, 100, 105, 110, 103]⟩
  · left; subst e5; decide
  by_cases e6 : v = ⟨#[104, 101, 105, 103, 104, 116]⟩
  · left; subst e6; decide
  by_cases e7 : v = ⟨#[104, 111, 108, 100]⟩
  · left; subst e7; decide
  by_cases e8 : v = ⟨#[108, 97, 110, 100]⟩
  · left; subst e8; decide
  by_cases e9 : v = ⟨#[111, 102, 102, 101, 114]⟩
  · left; subst e9; decide
  by_cases e10 : v = ⟨#[115, 112, 101, 101, 100]⟩
  · left; subst e10; decide
  right
  unfold findS verbsL isV sw1 sw0 eqN
  have c1 := fun h => e1 (Eq.symm h)
  have c2 := fun h => e2 (Eq.symm h)
  have c3 := fun h => e3 (Eq.symm h)
  have c4 := fun h => e4 (Eq.symm h)
  have c5 := fun h => e5 (Eq.symm h)
  have c6 := fun h => e6 (Eq.symm h)
  have c7 := fun h => e7 (Eq.symm h)
  have c8 := fun h => e8 (Eq.symm h)
  have c9 := fun h => e9 (Eq.symm h)
  have c10 := fun h => e10 (Eq.symm h)
  simp only [List.find?, decide_eq_false c1, decide_eq_false c2, decide_eq_false c3, decide_eq_false c4, decide_eq_false c5, decide_eq_false c6, decide_eq_false c7, decide_eq_false c8, decide_eq_false c9, decide_eq_false c10,
    decide_eq_false e1, decide_eq_false e2, decide_eq_false e3, decide_eq_false e4, decide_eq_false e5, decide_eq_false e6, decide_eq_false e7, decide_eq_false e8, decide_eq_false e9, decide_eq_false e10]
  refine ⟨?_, ?_⟩ <;> first | trivial | rfl
theorem chk_want (v c : ByteArray) (n : Int) (f : ByteArray) : chkS v c n f = wantS v c n f (sw0 v 0 (-1) true).1 (sw0 v 0 (-1) true).2.2 (sw1 v (sw0 v 0 (-1) true).2.1 true).2 0 := by
  unfold chkS wantS
  rcases find_tab v with ⟨h1, h2, h3, h4, _, h6⟩ | ⟨h1, h2⟩
  · rw [h6]
    unfold chkB
    rw [h1, h2, h3, h4]; rfl
  · rw [h2]
    unfold chkB
    rw [h1]; rfl
theorem kind_tab (v c : ByteArray) (n : Int) (f : ByteArray) (h : chkS v c n f = 0) : (findS v).1.2.2.2.2 = (sw1 v (sw0 v 0 (-1) true).2.1 true).1 := by
  rcases find_tab v with ⟨_, _, _, _, h5, _⟩ | ⟨h1, _⟩
  · exact h5
  · exfalso
    unfold chkS chkB at h
    rw [h1] at h
    have h : (5 : Int) = 0 := h
    omega
theorem law12 (v c : ByteArray) (n : Int) (f : ByteArray) (h : preC c f = true) : s12L v c n f = some (PV.sc (.bool true), []) := by
  rw [s12, ← chk_want]
  refine guard_split h (guard_split h (guard_split h ?_))
  rw [show (chkS v c n f != chkS v c n f) = false by simp]
  simp only [cond_false]
  by_cases h0 : chkS v c n f = 0
  · have hk := kind_tab v c n f h0
    rw [← hk, h0]
    by_cases hn : (findS v).1.2.2.2.2 < 0
    · have e : clrS v c n f = (zeroCl, 8) := by unfold clrS; rw [if_neg (by simpa using h0), if_pos hn]
      rw [e, decide_eq_true hn]; rfl
    · have e : clrS v c n f = ((c, (findS v).1.2.2.2.2, n, f), 0) := by unfold clrS; rw [if_neg (by simpa using h0), if_neg hn]
      rw [e, decide_eq_false hn]
      simp
  · have e : clrS v c n f = (zeroCl, chkS v c n f) := by unfold clrS; rw [if_pos h0]
    have h1 : (chkS v c n f == 0) = false := by simpa using h0
    have h2 : (chkS v c n f != 0) = true := by simpa using h0
    rw [e, h1, h2]
    simp only [cond_false, cond_true, beq_self_eq_true]
    rfl
theorem cutsOK : CutsOK Try.prog 141 cutsL (bodyF Try.f12) :=
  cut_cons (by kernel_rfl) (block_cutV (kill := killA 0 k0) T5_ok mixed (noCuts_ok _) fun v _ => q12a v.1 v.2.1 v.2.2.1 v.2.2.2.1)
  (cut_cons (by kernel_rfl) (block_cutV (kill := killA 0 k1) T5_ok mixed (noCuts_ok _) fun v _ => q12b v.1 v.2.1 v.2.2.1)
  (cut_cons (by kernel_rfl) (block_cutV (kill := killA 0 k2) T5_ok mixed (noCuts_ok _) fun v h => q12c v.1.1 v.1.2.1 v.1.2.2.1 v.1.2.2.2 v.2.1 v.2.2.1 v.2.2.2.1 v.2.2.2.2.1 h) (noCuts_ok _)))
theorem lawAt (v : denA [sCmd]) (h : preC v.1.2.1 v.1.2.2.2 = true) : CallOK Try.prog 12 (showA 0 [sCmd] v).1 (showA 0 [sCmd] v).2 (.sc (.bool true)) [] :=
  evFuncV_sound T5_ok mixed Try.func12 (show Try.f12.body = some (bodyF Try.f12) from rfl) cutsOK (law12 v.1.1 v.1.2.1 v.1.2.2.1 v.1.2.2.2 h) (by rw [showA_len]; decide)
theorem lawOK (v : dens [⟨true, (Kd.pair Kd.str (Kd.pair Kd.str (Kd.pair (Kd.int .i64) Kd.str)))⟩]) (h : (both gStr (both gStr (both (gInt .i64) gStr))) v.1 ∧ True) : CallOK Try.prog 12 (showL [⟨true, (Kd.pair Kd.str (Kd.pair Kd.str (Kd.pair (Kd.int .i64) Kd.str)))⟩] v) [] (.sc (.bool true)) [] := by
  obtain ⟨⟨_, h1, _, h2⟩, _⟩ := h
  exact lawAt (v.1, ()) (decide_eq_true ⟨Nat.le_trans h1 (by decide), Nat.le_trans h2 (by decide)⟩)
end Go.Proofs.YtlaaeighanknpaaCs
