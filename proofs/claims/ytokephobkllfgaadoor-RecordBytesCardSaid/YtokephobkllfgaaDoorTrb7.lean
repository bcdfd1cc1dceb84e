/- What is proved: what the two encodings of a record answer, and the law's answer. No condition. -/
import Derived.Test.YtokephobkllfgaaDoorTrb6
namespace Go.Proofs.YtokephobkllfgaaDoorRb
open Go Go.Proofs Go.Proofs.YtokephobkllfgaaDoorEv
set_option maxRecDepth 100000
set_option maxHeartbeats 4000000
set_option linter.unusedVariables false
set_option linter.unusedSimpArgs false
noncomputable abbrev b19L (a0 : Int) (a1 : Int) (a2 : ByteArray) (a3 : ByteArray) := evFuncV Tryd.prog R3 noCuts Tryd.f19 (killA 0 [sE]) (showA 0 [sE] ((a0, (a1, (a2, a3))), ())).1 (showA 0 [sE] ((a0, (a1, (a2, a3))), ())).2
theorem b19 (a0 : Int) (a1 : Int) (a2 : ByteArray) (a3 : ByteArray) : b19L a0 a1 a2 a3 = (bif entE a0 a1 a2 a3 != 0 then
  some (PV.tup [PV.sc (Value.string (ByteArray.mk #[])), PV.sc (Value.int IntKind.i64 (entE a0 a1 a2 a3))], [])
else
  guardB (bp (-9223372036854775808 ≤ a0 ∧ a0 ≤ 9223372036854775807))
    (guardB (((itoS a0).size + (ByteArray.mk #[32]).size).ble 9223372036854775807)
      (guardB (bp (-9223372036854775808 ≤ a1 ∧ a1 ≤ 9223372036854775807))
        (guardB (((itoS a0 ++ ByteArray.mk #[32]).size + (itoS a1).size).ble 9223372036854775807)
          (guardB
            (((itoS a0 ++ ByteArray.mk #[32] ++ itoS a1).size + (ByteArray.mk #[32]).size).ble 9223372036854775807)
            (guardB
              (((itoS a0 ++ ByteArray.mk #[32] ++ itoS a1 ++ ByteArray.mk #[32]).size + a2.size).ble
                9223372036854775807)
              (guardB
                (((itoS a0 ++ ByteArray.mk #[32] ++ itoS a1 ++ ByteArray.mk #[32] ++ a2).size +
                      (ByteArray.mk #[32]).size).ble
                  9223372036854775807)
                (guardB (bp (-9223372036854775808 ≤ (↑a3.size : Int) ∧ (↑a3.size : Int) ≤ 9223372036854775807))
                  (guardB
                    (((itoS a0 ++ ByteArray.mk #[32] ++ itoS a1 ++ ByteArray.mk #[32] ++ a2 ++
                              ByteArray.mk #[32]).size +
                          (itoS (↑a3.size : Int)).size).ble
                      9223372036854775807)
                    (guardB
                      (((itoS a0 ++ ByteArray.mk #[32] ++ itoS a1 ++ ByteArray.mk #[32] ++ a2 ++ ByteArray.mk #[32] ++
                                itoS (↑a3.size : Int)).size +
                            (ByteArray.mk #[58]).size).ble
                        9223372036854775807)
                      (guardB
                        (((itoS a0 ++ ByteArray.mk #[32] ++ itoS a1 ++ ByteArray.mk #[32] ++ a2 ++ ByteArray.mk #[32] ++
                                    itoS (↑a3.size : Int) ++
                                  ByteArray.mk #[58]).size +
                              a3.size).ble
                          9223372036854775807)
                        (guardB
                          (((itoS a0 ++ ByteArray.mk #[32] ++ itoS a1 ++ ByteArray.mk #[32] ++ a2 ++
                                          ByteArray.mk #[32] ++
                                        itoS (↑a3.size : Int) ++
                                      ByteArray.mk #[58] ++
                                    a3).size +
                                (ByteArray.mk #[59]).size).ble
                            9223372036854775807)
                          (guardB
                            (bp
                              ((itoS a0 ++ ByteArray.mk #[32] ++ itoS a1 ++ ByteArray.mk #[32] ++ a2 ++
                                          ByteArray.mk #[32] ++
                                        itoS (↑a3.size : Int) ++
                                      ByteArray.mk #[58] ++
                                    a3).size ≤
                                140737488355328))
                            (guardB
                              (bp
                                (-9223372036854775808 ≤
                                    256 *
                                        (sumQ 1 0
                                            (bytesI
                                              (itoS a0 ++ ByteArray.mk #[32] ++ itoS a1 ++ ByteArray.mk #[32] ++ a2 ++
                                                      ByteArray.mk #[32] ++
                                                    itoS (↑a3.size : Int) ++
                                                  ByteArray.mk #[58] ++
                                                a3))).snd +
                                      (sumQ 1 0
                                          (bytesI
                                            (itoS a0 ++ ByteArray.mk #[32] ++ itoS a1 ++ ByteArray.mk #[32] ++ a2 ++
                                                    ByteArray.mk #[32] ++
                                                  itoS (↑a3.size : Int) ++
                                                ByteArray.mk #[58] ++
                                              a3))).fst ∧
                                  256 *
                                        (sumQ 1 0
                                            (bytesI
                                              (itoS a0 ++ ByteArray.mk #[32] ++ itoS a1 ++ ByteArray.mk #[32] ++ a2 ++
                                                      ByteArray.mk #[32] ++
                                                    itoS (↑a3.size : Int) ++
                                                  ByteArray.mk #[58] ++
                                                a3))).snd +
                                      (sumQ 1 0
                                          (bytesI
                                            (itoS a0 ++ ByteArray.mk #[32] ++ itoS a1 ++ ByteArray.mk #[32] ++ a2 ++
                                                    ByteArray.mk #[32] ++
                                                  itoS (↑a3.size : Int) ++
                                                ByteArray.mk #[58] ++
                                              a3))).fst ≤
                                    9223372036854775807))
                              (guardB
                                (((itoS a0 ++ ByteArray.mk #[32] ++ itoS a1 ++ ByteArray.mk #[32] ++ a2 ++
                                                  ByteArray.mk #[32] ++
                                                itoS (↑a3.size : Int) ++
                                              ByteArray.mk #[58] ++
                                            a3 ++
                                          ByteArray.mk #[59]).size +
                                      (itoS
                                          (256 *
                                              (sumQ 1 0
                                                  (bytesI
                                                    (itoS a0 ++ ByteArray.mk #[32] ++ itoS a1 ++ ByteArray.mk #[32] ++
                                                              a2 ++
                                                            ByteArray.mk #[32] ++
                                                          itoS (↑a3.size : Int) ++
                                                        ByteArray.mk #[58] ++
                                                      a3))).snd +
                                            (sumQ 1 0
                                                (bytesI
                                                  (itoS a0 ++ ByteArray.mk #[32] ++ itoS a1 ++ ByteArray.mk #[32] ++
                                                            a2 ++
                                                          ByteArray.mk #[32] ++
                                                        itoS (↑a3.size : Int) ++
                                                      ByteArray.mk #[58] ++
                                                    a3))).fst)).size).ble
                                  9223372036854775807)
                                (guardB
                                  (((itoS a0 ++ ByteArray.mk #[32] ++ itoS a1 ++ ByteArray.mk #[32] ++ a2 ++
                                                      ByteArray.mk #[32] ++
                                                    itoS (↑a3.size : Int) ++
                                                  ByteArray.mk #[58] ++
                                                a3 ++
                                              ByteArray.mk #[59] ++
                                            itoS
                                              (256 *
                                                  (sumQ 1 0
                                                      (bytesI
                                                        (itoS a0 ++ ByteArray.mk #[32] ++ itoS a1 ++
                                                                    ByteArray.mk #[32] ++
                                                                  a2 ++
                                                                ByteArray.mk #[32] ++
                                                              itoS (↑a3.size : Int) ++
                                                            ByteArray.mk #[58] ++
                                                          a3))).snd +
                                                (sumQ 1 0
                                                    (bytesI
                                                      (itoS a0 ++ ByteArray.mk #[32] ++ itoS a1 ++ ByteArray.mk #[32] ++
                                                                a2 ++
                                                              ByteArray.mk #[32] ++
                                                            itoS (↑a3.size : Int) ++
                                                          ByteArray.mk #[58] ++
                                                        a3))).fst)).size +
                                        (ByteArray.mk #[10]).size).ble
                                    9223372036854775807)
                                  (some
                                    (PV.tup
                                        [PV.sc
                                            (Value.string
                                              (itoS a0 ++ ByteArray.mk #[32] ++ itoS a1 ++ ByteArray.mk #[32] ++ a2 ++
                                                            ByteArray.mk #[32] ++
                                                          itoS (↑a3.size : Int) ++
                                                        ByteArray.mk #[58] ++
                                                      a3 ++
                                                    ByteArray.mk #[59] ++
                                                  itoS
                                                    (256 *
                                                        (sumQ 1 0
                                                            (bytesI
                                                              (itoS a0 ++ ByteArray.mk #[32] ++ itoS a1 ++
                                                                          ByteArray.mk #[32] ++
                                                                        a2 ++
                                                                      ByteArray.mk #[32] ++
                                                                    itoS (↑a3.size : Int) ++
                                                                  ByteArray.mk #[58] ++
                                                                a3))).snd +
                                                      (sumQ 1 0
                                                          (bytesI
                                                            (itoS a0 ++ ByteArray.mk #[32] ++ itoS a1 ++
                                                                        ByteArray.mk #[32] ++
                                                                      a2 ++
                                                                    ByteArray.mk #[32] ++
                                                                  itoS (↑a3.size : Int) ++
                                                                ByteArray.mk #[58] ++
                                                              a3))).fst) ++
                                                ByteArray.mk #[10])),
                                          PV.sc (Value.int IntKind.i64 0)],
                                      [])))))))))))))))))) := by kernel_rfl
noncomputable abbrev b25L (a0 : Int) (a1 : Int) (a2 : ByteArray) (a3 : ByteArray) := evFuncV Tryd.prog R3 noCuts Tryd.f25 (killA 0 [sE]) (showA 0 [sE] ((a0, (a1, (a2, a3))), ())).1 (showA 0 [sE] ((a0, (a1, (a2, a3))), ())).2
theorem b25 (a0 : Int) (a1 : Int) (a2 : ByteArray) (a3 : ByteArray) : b25L a0 a1 a2 a3 = (guardB (bp (0 ≤ a0 ∧ a0 < 10000000))
  (guardB (((itoW a0 (ByteArray.mk #[])).size + (ByteArray.mk #[32]).size).ble 9223372036854775807)
    (guardB (bp (0 ≤ a1 ∧ a1 < 10000000))
      (guardB
        (((itoW a0 (ByteArray.mk #[]) ++ ByteArray.mk #[32]).size + (itoW a1 (ByteArray.mk #[])).size).ble
          9223372036854775807)
        (guardB
          (((itoW a0 (ByteArray.mk #[]) ++ ByteArray.mk #[32] ++ itoW a1 (ByteArray.mk #[])).size +
                (ByteArray.mk #[32]).size).ble
            9223372036854775807)
          (guardB
            (((itoW a0 (ByteArray.mk #[]) ++ ByteArray.mk #[32] ++ itoW a1 (ByteArray.mk #[]) ++
                      ByteArray.mk #[32]).size +
                  a2.size).ble
              9223372036854775807)
            (guardB
              (((itoW a0 (ByteArray.mk #[]) ++ ByteArray.mk #[32] ++ itoW a1 (ByteArray.mk #[]) ++ ByteArray.mk #[32] ++
                        a2).size +
                    (ByteArray.mk #[32]).size).ble
                9223372036854775807)
              (guardB (bp (0 ≤ (↑a3.size : Int) ∧ (↑a3.size : Int) < 10000000))
                (guardB
                  (((itoW a0 (ByteArray.mk #[]) ++ ByteArray.mk #[32] ++ itoW a1 (ByteArray.mk #[]) ++
                                ByteArray.mk #[32] ++
                              a2 ++
                            ByteArray.mk #[32]).size +
                        (itoW (↑a3.size : Int) (ByteArray.mk #[])).size).ble
                    9223372036854775807)
                  (guardB
                    (((itoW a0 (ByteArray.mk #[]) ++ ByteArray.mk #[32] ++ itoW a1 (ByteArray.mk #[]) ++
                                    ByteArray.mk #[32] ++
                                  a2 ++
                                ByteArray.mk #[32] ++
                              itoW (↑a3.size : Int) (ByteArray.mk #[])).size +
                          (ByteArray.mk #[58]).size).ble
                      9223372036854775807)
                    (guardB
                      (((itoW a0 (ByteArray.mk #[]) ++ ByteArray.mk #[32] ++ itoW a1 (ByteArray.mk #[]) ++
                                        ByteArray.mk #[32] ++
                                      a2 ++
                                    ByteArray.mk #[32] ++
                                  itoW (↑a3.size : Int) (ByteArray.mk #[]) ++
                                ByteArray.mk #[58]).size +
                            a3.size).ble
                        9223372036854775807)
                      (guardB
                        (((itoW a0 (ByteArray.mk #[]) ++ ByteArray.mk #[32] ++ itoW a1 (ByteArray.mk #[]) ++
                                            ByteArray.mk #[32] ++
                                          a2 ++
                                        ByteArray.mk #[32] ++
                                      itoW (↑a3.size : Int) (ByteArray.mk #[]) ++
                                    ByteArray.mk #[58] ++
                                  a3).size +
                              (ByteArray.mk #[59]).size).ble
                          9223372036854775807)
                        (guardB
                          (bp
                            ((itoW a0 (ByteArray.mk #[]) ++ ByteArray.mk #[32] ++ itoW a1 (ByteArray.mk #[]) ++
                                            ByteArray.mk #[32] ++
                                          a2 ++
                                        ByteArray.mk #[32] ++
                                      itoW (↑a3.size : Int) (ByteArray.mk #[]) ++
                                    ByteArray.mk #[58] ++
                                  a3).size ≤
                              140737488355328))
                          (guardB
                            (bp
                              (0 ≤
                                  (begS
                                            (bytesI
                                              (itoW a0 (ByteArray.mk #[]) ++ ByteArray.mk #[32] ++
                                                            itoW a1 (ByteArray.mk #[]) ++
                                                          ByteArray.mk #[32] ++
                                                        a2 ++
                                                      ByteArray.mk #[32] ++
                                                    itoW (↑a3.size : Int) (ByteArray.mk #[]) ++
                                                  ByteArray.mk #[58] ++
                                                a3))
                                            1
                                            (itoW a0 (ByteArray.mk #[]) ++ ByteArray.mk #[32] ++
                                                            itoW a1 (ByteArray.mk #[]) ++
                                                          ByteArray.mk #[32] ++
                                                        a2 ++
                                                      ByteArray.mk #[32] ++
                                                    itoW (↑a3.size : Int) (ByteArray.mk #[]) ++
                                                  ByteArray.mk #[58] ++
                                                a3).size).tmod
                                        241 *
                                      256 +
                                    (1 +
                                          sumI
                                            (bytesI
                                              (itoW a0 (ByteArray.mk #[]) ++ ByteArray.mk #[32] ++
                                                            itoW a1 (ByteArray.mk #[]) ++
                                                          ByteArray.mk #[32] ++
                                                        a2 ++
                                                      ByteArray.mk #[32] ++
                                                    itoW (↑a3.size : Int) (ByteArray.mk #[]) ++
                                                  ByteArray.mk #[58] ++
                                                a3))).tmod
                                      251 ∧
                                (begS
                                            (bytesI
                                              (itoW a0 (ByteArray.mk #[]) ++ ByteArray.mk #[32] ++
                                                            itoW a1 (ByteArray.mk #[]) ++
                                                          ByteArray.mk #[32] ++
                                                        a2 ++
                                                      ByteArray.mk #[32] ++
                                                    itoW (↑a3.size : Int) (ByteArray.mk #[]) ++
                                                  ByteArray.mk #[58] ++
                                                a3))
                                            1
                                            (itoW a0 (ByteArray.mk #[]) ++ ByteArray.mk #[32] ++
                                                            itoW a1 (ByteArray.mk #[]) ++
                                                          ByteArray.mk #[32] ++
                                                        a2 ++
                                                      ByteArray.mk #[32] ++
                                                    itoW (↑a3.size : Int) (ByteArray.mk #[]) ++
                                                  ByteArray.mk #[58] ++
                                                a3).size).tmod
                                        241 *
                                      256 +
                                    (1 +
                                          sumI
                                            (bytesI
                                              (itoW a0 (ByteArray.mk #[]) ++ ByteArray.mk #[32] ++
                                                            itoW a1 (ByteArray.mk #[]) ++
                                                          ByteArray.mk #[32] ++
                                                        a2 ++
                                                      ByteArray.mk #[32] ++
                                                    itoW (↑a3.size : Int) (ByteArray.mk #[]) ++
                                                  ByteArray.mk #[58] ++
                                                a3))).tmod
                                      251 <
                                  10000000))
                            (guardB
                              (((itoW a0 (ByteArray.mk #[]) ++ ByteArray.mk #[32] ++ itoW a1 (ByteArray.mk #[]) ++
                                                    ByteArray.mk #[32] ++
                                                  a2 ++
                                                ByteArray.mk #[32] ++
                                              itoW (↑a3.size : Int) (ByteArray.mk #[]) ++
                                            ByteArray.mk #[58] ++
                                          a3 ++
                                        ByteArray.mk #[59]).size +
                                    (itoW
                                        ((begS
                                                  (bytesI
                                                    (itoW a0 (ByteArray.mk #[]) ++ ByteArray.mk #[32] ++
                                                                  itoW a1 (ByteArray.mk #[]) ++
                                                                ByteArray.mk #[32] ++
                                                              a2 ++
                                                            ByteArray.mk #[32] ++
                                                          itoW (↑a3.size : Int) (ByteArray.mk #[]) ++
                                                        ByteArray.mk #[58] ++
                                                      a3))
                                                  1
                                                  (itoW a0 (ByteArray.mk #[]) ++ ByteArray.mk #[32] ++
                                                                  itoW a1 (ByteArray.mk #[]) ++
                                                                ByteArray.mk #[32] ++
                                                              a2 ++
                                                            ByteArray.mk #[32] ++
                                                          itoW (↑a3.size : Int) (ByteArray.mk #[]) ++
                                                        ByteArray.mk #[58] ++
                                                      a3).size).tmod
                                              241 *
                                            256 +
                                          (1 +
                                                sumI
                                                  (bytesI
                                                    (itoW a0 (ByteArray.mk #[]) ++ ByteArray.mk #[32] ++
                                                                  itoW a1 (ByteArray.mk #[]) ++
                                                                ByteArray.mk #[32] ++
                                                              a2 ++
                                                            ByteArray.mk #[32] ++
                                                          itoW (↑a3.size : Int) (ByteArray.mk #[]) ++
                                                        ByteArray.mk #[58] ++
                                                      a3))).tmod
                                            251)
                                        (ByteArray.mk #[])).size).ble
                                9223372036854775807)
                              (guardB
                                (((itoW a0 (ByteArray.mk #[]) ++ ByteArray.mk #[32] ++ itoW a1 (ByteArray.mk #[]) ++
                                                        ByteArray.mk #[32] ++
                                                      a2 ++
                                                    ByteArray.mk #[32] ++
                                                  itoW (↑a3.size : Int) (ByteArray.mk #[]) ++
                                                ByteArray.mk #[58] ++
                                              a3 ++
                                            ByteArray.mk #[59] ++
                                          itoW
                                            ((begS
                                                      (bytesI
                                                        (itoW a0 (ByteArray.mk #[]) ++ ByteArray.mk #[32] ++
                                                                      itoW a1 (ByteArray.mk #[]) ++
                                                                    ByteArray.mk #[32] ++
                                                                  a2 ++
                                                                ByteArray.mk #[32] ++
                                                              itoW (↑a3.size : Int) (ByteArray.mk #[]) ++
                                                            ByteArray.mk #[58] ++
                                                          a3))
                                                      1
                                                      (itoW a0 (ByteArray.mk #[]) ++ ByteArray.mk #[32] ++
                                                                      itoW a1 (ByteArray.mk #[]) ++
                                                                    ByteArray.mk #[32] ++
                                                                  a2 ++
                                                                ByteArray.mk #[32] ++
                                                              itoW (↑a3.size : Int) (ByteArray.mk #[]) ++
                                                            ByteArray.mk #[58] ++
                                                          a3).size).tmod
                                                  241 *
                                                256 +
                                              (1 +
                                                    sumI
                                                      (bytesI
                                                        (itoW a0 (ByteArray.mk #[]) ++ ByteArray.mk #[32] ++
                                                                      itoW a1 (ByteArray.mk #[]) ++
                                                                    ByteArray.mk #[32] ++
                                                                  a2 ++
                                                                ByteArray.mk #[32] ++
                                                              itoW (↑a3.size : Int) (ByteArray.mk #[]) ++
                                                            ByteArray.mk #[58] ++
                                                          a3))).tmod
                                                251)
                                            (ByteArray.mk #[])).size +
                                      (ByteArray.mk #[10]).size).ble
                                  9223372036854775807)
                                (some
                                  (PV.sc
                                      (Value.string
                                        (itoW a0 (ByteArray.mk #[]) ++ ByteArray.mk #[32] ++
                                                            itoW a1 (ByteArray.mk #[]) ++
                                                          ByteArray.mk #[32] ++
                                                        a2 ++
                                                      ByteArray.mk #[32] ++
                                                    itoW (↑a3.size : Int) (ByteArray.mk #[]) ++
                                                  ByteArray.mk #[58] ++
                                                a3 ++
                                              ByteArray.mk #[59] ++
                                            itoW
                                              ((begS
                                                        (bytesI
                                                          (itoW a0 (ByteArray.mk #[]) ++ ByteArray.mk #[32] ++
                                                                        itoW a1 (ByteArray.mk #[]) ++
                                                                      ByteArray.mk #[32] ++
                                                                    a2 ++
                                                                  ByteArray.mk #[32] ++
                                                                itoW (↑a3.size : Int) (ByteArray.mk #[]) ++
                                                              ByteArray.mk #[58] ++
                                                            a3))
                                                        1
                                                        (itoW a0 (ByteArray.mk #[]) ++ ByteArray.mk #[32] ++
                                                                        itoW a1 (ByteArray.mk #[]) ++
                                                                      ByteArray.mk #[32] ++
                                                                    a2 ++
                                                                  ByteArray.mk #[32] ++
                                                                itoW (↑a3.size : Int) (ByteArray.mk #[]) ++
                                                              ByteArray.mk #[58] ++
                                                            a3).size).tmod
                                                    241 *
                                                  256 +
                                                (1 +
                                                      sumI
                                                        (bytesI
                                                          (itoW a0 (ByteArray.mk #[]) ++ ByteArray.mk #[32] ++
                                                                        itoW a1 (ByteArray.mk #[]) ++
                                                                      ByteArray.mk #[32] ++
                                                                    a2 ++
                                                                  ByteArray.mk #[32] ++
                                                                itoW (↑a3.size : Int) (ByteArray.mk #[]) ++
                                                              ByteArray.mk #[58] ++
                                                            a3))).tmod
                                                  251)
                                              (ByteArray.mk #[]) ++
                                          ByteArray.mk #[10])),
                                    [])))))))))))))))))) := by kernel_rfl
noncomputable abbrev b38L (a0 : ByteArray) (a1 : ByteArray) := evFuncV Tryd.prog R3 noCuts Tryd.f38 (killA 0 [sS, sS]) (showA 0 [sS, sS] (a0, (a1, ()))).1 (showA 0 [sS, sS] (a0, (a1, ()))).2
theorem b38 (a0 : ByteArray) (a1 : ByteArray) : b38L a0 a1 = (bif decide ((↑a0.size : Int) ≥ (↑a1.size : Int)) then
  guardB (decide ((↑a1.size : Int) ≤ (↑a0.size : Int)))
    (some (PV.sc (Value.bool (decide (a0.extract (Int.toNat 0) (↑a1.size : Int).toNat = a1))), []))
else some (PV.sc (Value.bool false), [])) := by kernel_rfl
noncomputable abbrev b20L (a0 : ByteArray) (a1 : ByteArray) := evFuncV Tryd.prog R4 noCuts Tryd.f20 (killA 0 [sS, sS]) (showA 0 [sS, sS] (a0, (a1, ()))).1 (showA 0 [sS, sS] (a0, (a1, ()))).2
theorem b20 (a0 : ByteArray) (a1 : ByteArray) : b20L a0 a1 = (some (PV.sc (Value.bool (prfS a0 a1)), [])) := by kernel_rfl
noncomputable abbrev b4L (a0 : Int) (a1 : Int) (a2 : ByteArray) (a3 : ByteArray) := evFuncV Tryd.prog R5 noCuts Tryd.f4 (killA 0 [sE]) (showA 0 [sE] ((a0, (a1, (a2, a3))), ())).1 (showA 0 [sE] ((a0, (a1, (a2, a3))), ())).2
theorem b4 (a0 : Int) (a1 : Int) (a2 : ByteArray) (a3 : ByteArray) : b4L a0 a1 a2 a3 = (bif
    !prfS (rEn 1 5 (ByteArray.mk #[115, 101, 116]) (ByteArray.mk #[97, 32, 98]))
        (ByteArray.mk #[49, 32, 53, 32, 115, 101, 116, 32, 51, 58, 97, 32, 98, 59]) then
  some (PV.sc (Value.bool false), [])
else
  bif entE a0 a1 a2 a3 != entE a0 a1 a2 a3 then some (PV.sc (Value.bool false), [])
  else
    bif entE a0 a1 a2 a3 != entE a0 a1 a2 a3 then some (PV.sc (Value.bool false), [])
    else
      guardB (bp (a3.size ≤ 140737488355328))
        (guardB (bp (a3.size ≤ 140737488355328))
          (bif
              256 * (sumQ 1 0 (bytesI a3)).snd + (sumQ 1 0 (bytesI a3)).fst !=
                (begS (bytesI a3) 1 a3.size).tmod 241 * 256 + (1 + sumI (bytesI a3)).tmod 251 then
            some (PV.sc (Value.bool false), [])
          else
            bif entE a0 a1 a2 a3 != 0 then
              bif decide (rEn a0 a1 a2 a3 = ByteArray.mk #[]) then some (PV.sc (Value.bool true), [])
              else
                bif entE a0 a1 a2 a3 == 0 then
                  guardB (bp (entE a0 a1 a2 a3 = 0))
                    (some (PV.sc (Value.bool (decide (rEn a0 a1 a2 a3 = encW a0 a1 a2 a3))), []))
                else some (PV.sc (Value.bool false), [])
            else
              bif entE a0 a1 a2 a3 == 0 then
                guardB (bp (entE a0 a1 a2 a3 = 0))
                  (some (PV.sc (Value.bool (decide (rEn a0 a1 a2 a3 = encW a0 a1 a2 a3))), []))
              else some (PV.sc (Value.bool false), [])))) := by kernel_rfl
theorem in_of {n a b : Int} (h : inS n a b = true) : a ≤ n ∧ n ≤ b := by
  unfold inS at h
  rw [Bool.and_eq_true, decide_eq_true_eq, decide_eq_true_eq] at h
  omega
theorem ent_zero {n t : Int} {k x : ByteArray} (h : entE n t k x = 0) : (1 ≤ n ∧ n ≤ 500) ∧ (0 ≤ t ∧ t ≤ 200000) ∧ x.size ≤ 120 ∧ k.size ≤ 8 := by
  unfold entE at h
  cases h1 : inS n 1 500 with
  | false => rw [h1] at h; cases h
  | true => cases h2 : inS t 0 200000 with
    | false => rw [h1, h2] at h; cases h
    | true => cases h3 : (decide ((x.size : Int) > 120) || decide ((k.size : Int) > 8)) with
      | true => rw [h1, h2, h3] at h; cases h
      | false =>
        rw [Bool.or_eq_false_iff, decide_eq_false_iff_not, decide_eq_false_iff_not] at h3
        exact ⟨in_of h1, in_of h2, by omega, by omega⟩
theorem sumA_in (s : ByteArray) : 0 ≤ sumA s ∧ sumA s ≤ 65535 := by
  obtain ⟨⟨h1, h2⟩, h3, h4⟩ := sumQ_in (bytesI s) 1 0 (fun x hx => (bytes_in s x hx).1) (by omega) (by omega) (by omega) (by omega)
  unfold sumA; omega
theorem z1 (c : UInt8) : (ByteArray.mk #[c]).size = 1 := rfl
theorem c19 (n t : Int) (k x : ByteArray) : b19L n t k x = some (PV.tup [PV.sc (.string (rEn n t k x)), PV.sc (.int .i64 (entE n t k x))], []) := by
  rw [b19]
  unfold rEn
  cases hb : (entE n t k x != 0) with
  | true =>
    have e : (entE n t k x == 0) = false := by
      have : entE n t k x ≠ 0 := by simpa using hb
      simpa using this
    rw [e]; rfl
  | false =>
    have e : entE n t k x = 0 := by simpa using hb
    obtain ⟨h1, h2, h3, h4⟩ := ent_zero e
    have s1 := ito_size n (by omega) (by omega)
    have s2 := ito_size t (by omega) (by omega)
    have s3 := ito_size (x.size : Int) (by omega) (by omega)
    rw [e]
    simp only [cond_false]
    rw [encW_eq]
    unfold encB bdyS
    change _ = some (PV.tup [PV.sc (.string (itoS n ++ sp1 ++ itoS t ++ sp1 ++ k ++ sp1 ++ itoS (x.size : Int) ++ ByteArray.mk #[58] ++ x ++ ByteArray.mk #[59] ++ itoS (sumA (itoS n ++ sp1 ++ itoS t ++ sp1 ++ k ++ sp1 ++ itoS (x.size : Int) ++ ByteArray.mk #[58] ++ x)) ++ ByteArray.mk #[10])), PV.sc (.int .i64 0)], [])
    unfold sp1
    have hA := sumA_in (itoS n ++ ByteArray.mk #[32] ++ itoS t ++ ByteArray.mk #[32] ++ k ++ ByteArray.mk #[32] ++ itoS (x.size : Int) ++ ByteArray.mk #[58] ++ x)
    have eA : 256 * (sumQ 1 0 (bytesI (itoS n ++ ByteArray.mk #[32] ++ itoS t ++ ByteArray.mk #[32] ++ k ++ ByteArray.mk #[32] ++ itoS (x.size : Int) ++ ByteArray.mk #[58] ++ x))).snd + (sumQ 1 0 (bytesI (itoS n ++ ByteArray.mk #[32] ++ itoS t ++ ByteArray.mk #[32] ++ k ++ ByteArray.mk #[32] ++ itoS (x.size : Int) ++ ByteArray.mk #[58] ++ x))).fst = sumA (itoS n ++ ByteArray.mk #[32] ++ itoS t ++ ByteArray.mk #[32] ++ k ++ ByteArray.mk #[32] ++ itoS (x.size : Int) ++ ByteArray.mk #[58] ++ x) := rfl
    rw [eA]
    have s4 := ito_size (sumA (itoS n ++ ByteArray.mk #[32] ++ itoS t ++ ByteArray.mk #[32] ++ k ++ ByteArray.mk #[32] ++ itoS (x.size : Int) ++ ByteArray.mk #[58] ++ x)) (by omega) (by omega)
    have hz : (itoS n ++ ByteArray.mk #[32] ++ itoS t ++ ByteArray.mk #[32] ++ k ++ ByteArray.mk #[32] ++ itoS (x.size : Int) ++ ByteArray.mk #[58] ++ x).size ≤ 1000 := by
      simp only [ByteArray.size_append, z1]; omega
    generalize sumA (itoS n ++ ByteArray.mk #[32] ++ itoS t ++ ByteArray.mk #[32] ++ k ++ ByteArray.mk #[32] ++ itoS (x.size : Int) ++ ByteArray.mk #[58] ++ x) = Q at *
    refine guard_split (bp_mk ⟨by omega, by omega⟩) (guard_split (Nat.ble_eq_true_of_le ?_) (guard_split (bp_mk ⟨by omega, by omega⟩) (guard_split (Nat.ble_eq_true_of_le ?_) (guard_split (Nat.ble_eq_true_of_le ?_) (guard_split (Nat.ble_eq_true_of_le ?_) (guard_split (Nat.ble_eq_true_of_le ?_) (guard_split (bp_mk ⟨by omega, by omega⟩) (guard_split (Nat.ble_eq_true_of_le ?_) (guard_split (Nat.ble_eq_true_of_le ?_) (guard_split (Nat.ble_eq_true_of_le ?_) (guard_split (Nat.ble_eq_true_of_le ?_) (guard_split (bp_mk ?_) (guard_split (bp_mk ⟨by omega, by omega⟩) (guard_split (Nat.ble_eq_true_of_le ?_) (guard_split (Nat.ble_eq_true_of_le ?_) rfl)))))))))))))))
    all_goals (simp only [ByteArray.size_append, z1] at *; omega)
theorem c25 (n t : Int) (k x : ByteArray) (e : entE n t k x = 0) : b25L n t k x = some (PV.sc (.string (encW n t k x)), []) := by
  obtain ⟨h1, h2, h3, h4⟩ := ent_zero e
  have s1 := ito_size n (by omega) (by omega)
  have s2 := ito_size t (by omega) (by omega)
  have s3 := ito_size (x.size : Int) (by omega) (by omega)
  rw [b25, ito_eq n (by omega) (by omega), ito_eq t (by omega) (by omega), ito_eq (x.size : Int) (by omega) (by omega), encW_eq]
  unfold encB bdyS sp1
  have eB : (begS (bytesI (itoS n ++ ByteArray.mk #[32] ++ itoS t ++ ByteArray.mk #[32] ++ k ++ ByteArray.mk #[32] ++ itoS (x.size : Int) ++ ByteArray.mk #[58] ++ x)) 1 (itoS n ++ ByteArray.mk #[32] ++ itoS t ++ ByteArray.mk #[32] ++ k ++ ByteArray.mk #[32] ++ itoS (x.size : Int) ++ ByteArray.mk #[58] ++ x).size).tmod 241 * 256 + (1 + sumI (bytesI (itoS n ++ ByteArray.mk #[32] ++ itoS t ++ ByteArray.mk #[32] ++ k ++ ByteArray.mk #[32] ++ itoS (x.size : Int) ++ ByteArray.mk #[58] ++ x))).tmod 251 = sumA (itoS n ++ ByteArray.mk #[32] ++ itoS t ++ ByteArray.mk #[32] ++ k ++ ByteArray.mk #[32] ++ itoS (x.size : Int) ++ ByteArray.mk #[58] ++ x) := (sum_eq _).symm
  have hA := sumA_in (itoS n ++ ByteArray.mk #[32] ++ itoS t ++ ByteArray.mk #[32] ++ k ++ ByteArray.mk #[32] ++ itoS (x.size : Int) ++ ByteArray.mk #[58] ++ x)
  rw [eB, ito_eq (sumA (itoS n ++ ByteArray.mk #[32] ++ itoS t ++ ByteArray.mk #[32] ++ k ++ ByteArray.mk #[32] ++ itoS (x.size : Int) ++ ByteArray.mk #[58] ++ x)) (by omega) (by omega)]
  have s4 := ito_size (sumA (itoS n ++ ByteArray.mk #[32] ++ itoS t ++ ByteArray.mk #[32] ++ k ++ ByteArray.mk #[32] ++ itoS (x.size : Int) ++ ByteArray.mk #[58] ++ x)) (by omega) (by omega)
  generalize sumA (itoS n ++ ByteArray.mk #[32] ++ itoS t ++ ByteArray.mk #[32] ++ k ++ ByteArray.mk #[32] ++ itoS (x.size : Int) ++ ByteArray.mk #[58] ++ x) = Q at *
  repeat' first
    | rfl
    | refine guard_split (Nat.ble_eq_true_of_le (by simp only [ByteArray.size_append, z1]; omega)) ?_
    | refine guard_split (bp_mk ⟨by omega, by omega⟩) ?_
    | refine guard_split (bp_mk (by simp only [ByteArray.size_append, z1]; omega)) ?_
theorem c38 (s p : ByteArray) : b38L s p = some (PV.sc (.bool (prfS s p)), []) := by
  rw [b38, prfS_eq]
  cases h : decide ((s.size : Int) ≥ (p.size : Int)) with
  | false => rfl
  | true =>
    have h := of_decide_eq_true h
    simp only [cond_true, Bool.true_and]
    exact guard_split rfl rfl
theorem R4_ok : TableOK Tryd.prog R4 :=
  ext_ok (entV_ok Tryd.call19 (liftV R3_ok mixed Tryd.func19 (show Tryd.f19.body = some (bodyF Tryd.f19) from rfl) (noCuts_ok _) (by decide) fun v _ => c19 v.1.1 v.1.2.1 v.1.2.2.1 v.1.2.2.2)) <|
  ext_ok (entV_ok Tryd.call25 (liftV R3_ok mixed Tryd.func25 (show Tryd.f25.body = some (bodyF Tryd.f25) from rfl) (noCuts_ok _) (by decide) fun v h => c25 v.1.1 v.1.2.1 v.1.2.2.1 v.1.2.2.2 (bp_true.1 h))) <|
  ext_ok (entV_ok Tryd.call38 (liftV R3_ok mixed Tryd.func38 (show Tryd.f38.body = some (bodyF Tryd.f38) from rfl) (noCuts_ok _) (by decide) fun v _ => c38 v.1 v.2.1)) R3_ok
theorem R5_ok : TableOK Tryd.prog R5 := ext_ok (entV_ok Tryd.call20 (liftV R4_ok mixed Tryd.func20 (show Tryd.f20.body = some (bodyF Tryd.f20) from rfl) (noCuts_ok _) (by decide) fun v _ => b20 v.1 v.2.1)) R4_ok
theorem ext_pre (a b : ByteArray) : (a ++ b).extract 0 a.size = a := by
  refine bytes_inj ?_
  have e : bytesI (a ++ b) = bytesI a ++ bytesI b := by
    unfold bytesI
    rw [ByteArray.data_append]; simp
  rw [bytes_ext, e, List.drop_zero, Nat.sub_zero, ← bytes_len, List.take_left' rfl]
theorem hd_eq : bdyS itoS 1 5 (ByteArray.mk #[115, 101, 116]) (ByteArray.mk #[97, 32, 98]) ++ ByteArray.mk #[59] = ByteArray.mk #[49, 32, 53, 32, 115, 101, 116, 32, 51, 58, 97, 32, 98, 59] := by
  unfold bdyS
  rw [← ito_eq 1 (by omega) (by omega), ← ito_eq 5 (by omega) (by omega), show (((ByteArray.mk #[97, 32, 98]).size : Nat) : Int) = 3 from rfl, ← ito_eq 3 (by omega) (by omega)]
  simp only [itoW_eq]
  decide +kernel
theorem fact : prfS (rEn 1 5 (ByteArray.mk #[115, 101, 116]) (ByteArray.mk #[97, 32, 98])) (ByteArray.mk #[49, 32, 53, 32, 115, 101, 116, 32, 51, 58, 97, 32, 98, 59]) = true := by
  have e0 : entE 1 5 (ByteArray.mk #[115, 101, 116]) (ByteArray.mk #[97, 32, 98]) = 0 := by decide +kernel
  have e1 : rEn 1 5 (ByteArray.mk #[115, 101, 116]) (ByteArray.mk #[97, 32, 98]) = encW 1 5 (ByteArray.mk #[115, 101, 116]) (ByteArray.mk #[97, 32, 98]) := by
    unfold rEn; rw [e0]; rfl
  rw [e1, prfS_eq, encW_eq]
  unfold encB
  rw [hd_eq, ByteArray.append_assoc]
  generalize itoS (sumA (bdyS itoS 1 5 (ByteArray.mk #[115, 101, 116]) (ByteArray.mk #[97, 32, 98]))) ++ ByteArray.mk #[10] = R
  generalize ByteArray.mk #[49, 32, 53, 32, 115, 101, 116, 32, 51, 58, 97, 32, 98, 59] = P
  rw [ext_pre, ByteArray.size_append, Bool.and_eq_true, decide_eq_true_eq, decide_eq_true_eq]
  exact ⟨by omega, rfl⟩
theorem law_at (n t : Int) (k x : ByteArray) (h : x.size ≤ 140737488355328) : b4L n t k x = some (PV.sc (.bool true), []) := by
  have hs : (256 * (sumQ 1 0 (bytesI x)).snd + (sumQ 1 0 (bytesI x)).fst != (begS (bytesI x) 1 x.size).tmod 241 * 256 + (1 + sumI (bytesI x)).tmod 251) = false := by
    have := sum_eq x
    unfold sumA sumB at this
    rw [this, bne_self_eq_false]
  rw [b4, fact, bne_self_eq_false, hs]
  simp only [Bool.not_true, cond_false]
  refine guard_split (bp_mk h) (guard_split (bp_mk h) ?_)
  unfold rEn
  cases hb : (entE n t k x != 0) with
  | true =>
    have e : (entE n t k x == 0) = false := by
      have : entE n t k x ≠ 0 := by simpa using hb
      simpa using this
    rw [e]
    simp only [cond_true, cond_false]
    rw [decT]; rfl
  | false =>
    have e : entE n t k x = 0 := by simpa using hb
    rw [e]
    simp only [cond_false]
    show guardB _ (some (PV.sc (.bool (decide (encW n t k x = encW n t k x))), [])) = _
    rw [decide_eq_true (show encW n t k x = encW n t k x from rfl)]
    exact guard_split (bp_mk (by trivial)) rfl
end Go.Proofs.YtokephobkllfgaaDoorRb
