/- What is proved: a step of a beginning track and its run are what the plain functions say. No condition. -/
import Derived.Test.YtpndjpjpmcehbaaTbr1
namespace Go.Proofs.YtpndjpjpmcehbaaBr
open Go Go.Proofs Go.Proofs.YtpndjpjpmcehbaaEv
set_option maxRecDepth 100000
set_option linter.unusedSimpArgs false
set_option linter.unusedVariables false
noncomputable abbrev b117L (a0 : Int) := evFuncV Try.prog T1 noCuts Try.f117 (killA 0 [sU]) (showA 0 [sU] (a0, ())).1 (showA 0 [sU] (a0, ())).2
theorem b117 (a0 : Int) : b117L a0 = (guardB (preP a0) (some (PV.sc (Value.int IntKind.i64 (↑(popN a0.toNat) : Int)), []))) := by kernel_rfl
noncomputable abbrev b118lL (a0 : Int) (a1 : Int) (a2 : Int) (a3 : Int) := evRound Try.prog T2 noCuts 31 (loopOf (codeAt 0 (bodyF Try.f118))) k118c mu118 (killA 0 k118c) [0, 1, 2, 7] [6] c118 (a0, (a1, (a2, (a3, ()))))
theorem b118l (a0 : Int) (a1 : Int) (a2 : Int) (a3 : Int) : b118lL a0 a1 a2 a3 = (bif decide (a3 < a2) then
  guardB (decide (0 ≤ IntKind.i64.wrap (a2 - a3)))
    (guardB
      (preP
        (IntKind.u64.wrap
          (↑(BitVec.ofInt IntKind.u64.bits a0 &&&
                  BitVec.ofInt IntKind.u64.bits
                    (IntKind.u64.wrap
                      (IntKind.u64.wrap (1 * 2 ^ min (IntKind.i64.wrap (a2 - a3)).toNat IntKind.u64.bits) - 1))).toNat :
            Int)))
      (bif
          decide
            ((↑(popN
                    (IntKind.u64.wrap
                        (↑(BitVec.ofInt IntKind.u64.bits a0 &&&
                                BitVec.ofInt IntKind.u64.bits
                                  (IntKind.u64.wrap
                                    (IntKind.u64.wrap
                                        (1 * 2 ^ min (IntKind.i64.wrap (a2 - a3)).toNat IntKind.u64.bits) -
                                      1))).toNat :
                          Int)).toNat) : Int) >
              0) then
        bif
            decide
              (IntKind.i64.wrap
                  ((↑(popN
                          (IntKind.u64.wrap
                              (↑(BitVec.ofInt IntKind.u64.bits a0 &&&
                                      BitVec.ofInt IntKind.u64.bits
                                        (IntKind.u64.wrap
                                          (IntKind.u64.wrap
                                              (1 * 2 ^ min (IntKind.i64.wrap (a2 - a3)).toNat IntKind.u64.bits) -
                                            1))).toNat :
                                Int)).toNat) : Int) +
                    a3) ≥
                a1) then
          some (Xt.ret, [PV.sc (Value.bool true)], [])
        else
          guardB (decide (mu118 (a0, a1, a2, IntKind.i64.wrap (a3 + 1), PUnit.unit) < mu118 (a0, a1, a2, a3, ())))
            (guardB (pre118 a0 a1 a2 (IntKind.i64.wrap (a3 + 1)))
              (bif
                  !soonN a0.toNat a1 a2.toNat (Int.toNat (a2 - IntKind.i64.wrap (a3 + 1)))
                      (IntKind.i64.wrap (a3 + 1)).toNat then
                some (Xt.exit 0, [PV.undef], [])
              else some (Xt.ret, [PV.sc (Value.bool true)], [])))
      else
        guardB (decide (mu118 (a0, a1, a2, IntKind.i64.wrap (a3 + 1), PUnit.unit) < mu118 (a0, a1, a2, a3, ())))
          (guardB (pre118 a0 a1 a2 (IntKind.i64.wrap (a3 + 1)))
            (bif
                !soonN a0.toNat a1 a2.toNat (Int.toNat (a2 - IntKind.i64.wrap (a3 + 1)))
                    (IntKind.i64.wrap (a3 + 1)).toNat then
              some (Xt.exit 0, [PV.undef], [])
            else some (Xt.ret, [PV.sc (Value.bool true)], [])))))
else some (Xt.exit 0, [PV.undef], [])) := by kernel_rfl
noncomputable abbrev b118L (a0 : Int) (a1 : Int) (a2 : Int) := evFuncV Try.prog T2 (addCut 0 [0, 1, 2, 7] [6] (entC k118c c118) noCuts) Try.f118 (killA 0 k118) (showA 0 k118 (a0, (a1, (a2, ())))).1 (showA 0 k118 (a0, (a1, (a2, ())))).2
theorem b118 (a0 : Int) (a1 : Int) (a2 : Int) : b118L a0 a1 a2 = (guardB (pre118 a0 a1 a2 1)
  (bif !soonN a0.toNat a1 a2.toNat (Int.toNat (a2 - 1)) (Int.toNat 1) then some (PV.sc (Value.bool false), [])
  else some (PV.sc (Value.bool true), []))) := by kernel_rfl
noncomputable abbrev b116L (a0 : Int) (a1 : Int) := evFuncV Try.prog T0 noCuts Try.f116 (killA 0 [sBg]) (showA 0 [sBg] ((a0, a1), ())).1 (showA 0 [sBg] ((a0, a1), ())).2
theorem b116 (a0 : Int) (a1 : Int) : b116L a0 a1 = (bif decide (a1 < 0) then some (PV.sc (Value.int IntKind.i64 4), [])
else
  bif decide (a1 > 16) then some (PV.sc (Value.int IntKind.i64 4), [])
  else
    bif decide (a0 < 0) then some (PV.sc (Value.int IntKind.i64 3), [])
    else
      guardB (decide (0 ≤ a1))
        (bif decide (a0 ≥ IntKind.i64.wrap (1 * 2 ^ min a1.toNat IntKind.i64.bits)) then
          some (PV.sc (Value.int IntKind.i64 3), [])
        else some (PV.sc (Value.int IntKind.i64 0), []))) := by kernel_rfl
noncomputable abbrev b35L (a0 : Int) (a1 : Int) := evFuncV Try.prog T0 noCuts Try.f35 (killA 0 [sI, sI]) (showA 0 [sI, sI] (a0, (a1, ()))).1 (showA 0 [sI, sI] (a0, (a1, ()))).2
theorem b35 (a0 : Int) (a1 : Int) : b35L a0 a1 = (bif decide (a1 < 1) then some (PV.sc (Value.int IntKind.i64 4), [])
else
  bif decide (a1 > 16) then some (PV.sc (Value.int IntKind.i64 4), [])
  else
    bif decide (a0 < 1) then some (PV.sc (Value.int IntKind.i64 4), [])
    else
      bif decide (a0 > a1) then some (PV.sc (Value.int IntKind.i64 4), [])
      else some (PV.sc (Value.int IntKind.i64 0), [])) := by kernel_rfl
noncomputable abbrev b79L (a0 : Int) (a1 : Int) (a2 : Bool) (a3 : Int) (a4 : Int) := evFuncV Try.prog T3 noCuts Try.f79 (killA 0 k79) (showA 0 k79 ((a0, a1), (a2, (a3, (a4, ()))))).1 (showA 0 k79 ((a0, a1), (a2, (a3, (a4, ()))))).2
theorem b79 (a0 : Int) (a1 : Int) (a2 : Bool) (a3 : Int) (a4 : Int) : b79L a0 a1 a2 a3 a4 = (guardB (decide (0 ≤ a1 ∧ a1 ≤ 16 ∧ 0 ≤ a0 ∧ a0 < 2 ^ a1.toNat))
  (bif ruleS a3 a4 != 0 then
    some
      (PV.tup
          [PV.agg [PV.sc (Value.int IntKind.i64 0), PV.sc (Value.int IntKind.i64 0)], PV.sc (Value.int IntKind.i64 0),
            PV.sc (Value.int IntKind.i64 (ruleS a3 a4))],
        [])
  else
    bif a2 then
      guardB (decide (0 ≤ a4))
        (guardB
          (preP
            (IntKind.u64.wrap
              (IntKind.i64.wrap
                (↑(BitVec.ofInt IntKind.i64.bits
                          (IntKind.i64.wrap
                            (↑(BitVec.ofInt IntKind.i64.bits
                                      (IntKind.i64.wrap
                                        (↑(BitVec.ofInt IntKind.i64.bits (IntKind.i64.wrap (a0 * 2)) &&&
                                                BitVec.ofInt IntKind.i64.bits 65535).toNat :
                                          Int)) |||
                                    BitVec.ofInt IntKind.i64.bits 1).toNat :
                              Int)) &&&
                        BitVec.ofInt IntKind.i64.bits
                          (IntKind.i64.wrap (IntKind.i64.wrap (1 * 2 ^ min a4.toNat IntKind.i64.bits) - 1))).toNat :
                  Int))))
          (bif
              decide
                ((↑(popN
                        (IntKind.u64.wrap
                            (IntKind.i64.wrap
                              (↑(BitVec.ofInt IntKind.i64.bits
                                        (IntKind.i64.wrap
                                          (↑(BitVec.ofInt IntKind.i64.bits
                                                    (IntKind.i64.wrap
                                                      (↑(BitVec.ofInt IntKind.i64.bits (IntKind.i64.wrap (a0 * 2)) &&&
                                                              BitVec.ofInt IntKind.i64.bits 65535).toNat :
                                                        Int)) |||
                                                  BitVec.ofInt IntKind.i64.bits 1).toNat :
                                            Int)) &&&
                                      BitVec.ofInt IntKind.i64.bits
                                        (IntKind.i64.wrap
                                          (IntKind.i64.wrap (1 * 2 ^ min a4.toNat IntKind.i64.bits) - 1))).toNat :
                                Int))).toNat) : Int) ≥
                  a3) then
            some
              (PV.tup
                  [PV.agg
                      [PV.sc
                          (Value.int IntKind.i64
                            (IntKind.i64.wrap
                              (↑(BitVec.ofInt IntKind.i64.bits
                                        (IntKind.i64.wrap
                                          (↑(BitVec.ofInt IntKind.i64.bits (IntKind.i64.wrap (a0 * 2)) &&&
                                                  BitVec.ofInt IntKind.i64.bits 65535).toNat :
                                            Int)) |||
                                      BitVec.ofInt IntKind.i64.bits 1).toNat :
                                Int))),
                        PV.sc (Value.int IntKind.i64 (min (IntKind.i64.wrap (a1 + 1)) 16))],
                    PV.sc (Value.int IntKind.i64 1), PV.sc (Value.int IntKind.i64 0)],
                [])
          else
            bif decide (min (IntKind.i64.wrap (a1 + 1)) 16 ≥ a4) then
              guardB
                (pre118
                  (IntKind.u64.wrap
                    (IntKind.i64.wrap
                      (↑(BitVec.ofInt IntKind.i64.bits
                                (IntKind.i64.wrap
                                  (↑(BitVec.ofInt IntKind.i64.bits
                                            (IntKind.i64.wrap
                                              (↑(BitVec.ofInt IntKind.i64.bits (IntKind.i64.wrap (a0 * 2)) &&&
                                                      BitVec.ofInt IntKind.i64.bits 65535).toNat :
                                                Int)) |||
                                          BitVec.ofInt IntKind.i64.bits 1).toNat :
                                    Int)) &&&
                              BitVec.ofInt IntKind.i64.bits
                                (IntKind.i64.wrap
                                  (IntKind.i64.wrap (1 * 2 ^ min a4.toNat IntKind.i64.bits) - 1))).toNat :
                        Int)))
                  a3 a4 1)
                (bif
                    !soonN
                        (IntKind.u64.wrap
                            (IntKind.i64.wrap
                              (↑(BitVec.ofInt IntKind.i64.bits
                                        (IntKind.i64.wrap
                                          (↑(BitVec.ofInt IntKind.i64.bits
                                                    (IntKind.i64.wrap
                                                      (↑(BitVec.ofInt IntKind.i64.bits (IntKind.i64.wrap (a0 * 2)) &&&
                                                              BitVec.ofInt IntKind.i64.bits 65535).toNat :
                                                        Int)) |||
                                                  BitVec.ofInt IntKind.i64.bits 1).toNat :
                                            Int)) &&&
                                      BitVec.ofInt IntKind.i64.bits
                                        (IntKind.i64.wrap
                                          (IntKind.i64.wrap (1 * 2 ^ min a4.toNat IntKind.i64.bits) - 1))).toNat :
                                Int))).toNat
                        a3 a4.toNat (a4.toNat - 1) 1 then
                  some
                    (PV.tup
                        [PV.agg
                            [PV.sc
                                (Value.int IntKind.i64
                                  (IntKind.i64.wrap
                                    (↑(BitVec.ofInt IntKind.i64.bits
                                              (IntKind.i64.wrap
                                                (↑(BitVec.ofInt IntKind.i64.bits (IntKind.i64.wrap (a0 * 2)) &&&
                                                        BitVec.ofInt IntKind.i64.bits 65535).toNat :
                                                  Int)) |||
                                            BitVec.ofInt IntKind.i64.bits 1).toNat :
                                      Int))),
                              PV.sc (Value.int IntKind.i64 (min (IntKind.i64.wrap (a1 + 1)) 16))],
                          PV.sc (Value.int IntKind.i64 2), PV.sc (Value.int IntKind.i64 0)],
                      [])
                else
                  some
                    (PV.tup
                        [PV.agg
                            [PV.sc
                                (Value.int IntKind.i64
                                  (IntKind.i64.wrap
                                    (↑(BitVec.ofInt IntKind.i64.bits
                                              (IntKind.i64.wrap
                                                (↑(BitVec.ofInt IntKind.i64.bits (IntKind.i64.wrap (a0 * 2)) &&&
                                                        BitVec.ofInt IntKind.i64.bits 65535).toNat :
                                                  Int)) |||
                                            BitVec.ofInt IntKind.i64.bits 1).toNat :
                                      Int))),
                              PV.sc (Value.int IntKind.i64 (min (IntKind.i64.wrap (a1 + 1)) 16))],
                          PV.sc (Value.int IntKind.i64 0), PV.sc (Value.int IntKind.i64 0)],
                      []))
            else
              some
                (PV.tup
                    [PV.agg
                        [PV.sc
                            (Value.int IntKind.i64
                              (IntKind.i64.wrap
                                (↑(BitVec.ofInt IntKind.i64.bits
                                          (IntKind.i64.wrap
                                            (↑(BitVec.ofInt IntKind.i64.bits (IntKind.i64.wrap (a0 * 2)) &&&
                                                    BitVec.ofInt IntKind.i64.bits 65535).toNat :
                                              Int)) |||
                                        BitVec.ofInt IntKind.i64.bits 1).toNat :
                                  Int))),
                          PV.sc (Value.int IntKind.i64 (min (IntKind.i64.wrap (a1 + 1)) 16))],
                      PV.sc (Value.int IntKind.i64 0), PV.sc (Value.int IntKind.i64 0)],
                  [])))
    else
      guardB (decide (0 ≤ a4))
        (guardB
          (preP
            (IntKind.u64.wrap
              (IntKind.i64.wrap
                (↑(BitVec.ofInt IntKind.i64.bits
                          (IntKind.i64.wrap
                            (↑(BitVec.ofInt IntKind.i64.bits (IntKind.i64.wrap (a0 * 2)) &&&
                                    BitVec.ofInt IntKind.i64.bits 65535).toNat :
                              Int)) &&&
                        BitVec.ofInt IntKind.i64.bits
                          (IntKind.i64.wrap (IntKind.i64.wrap (1 * 2 ^ min a4.toNat IntKind.i64.bits) - 1))).toNat :
                  Int))))
          (bif
              decide
                ((↑(popN
                        (IntKind.u64.wrap
                            (IntKind.i64.wrap
                              (↑(BitVec.ofInt IntKind.i64.bits
                                        (IntKind.i64.wrap
                                          (↑(BitVec.ofInt IntKind.i64.bits (IntKind.i64.wrap (a0 * 2)) &&&
                                                  BitVec.ofInt IntKind.i64.bits 65535).toNat :
                                            Int)) &&&
                                      BitVec.ofInt IntKind.i64.bits
                                        (IntKind.i64.wrap
                                          (IntKind.i64.wrap (1 * 2 ^ min a4.toNat IntKind.i64.bits) - 1))).toNat :
                                Int))).toNat) : Int) ≥
                  a3) then
            some
              (PV.tup
                  [PV.agg
                      [PV.sc
                          (Value.int IntKind.i64
                            (IntKind.i64.wrap
                              (↑(BitVec.ofInt IntKind.i64.bits (IntKind.i64.wrap (a0 * 2)) &&&
                                      BitVec.ofInt IntKind.i64.bits 65535).toNat :
                                Int))),
                        PV.sc (Value.int IntKind.i64 (min (IntKind.i64.wrap (a1 + 1)) 16))],
                    PV.sc (Value.int IntKind.i64 1), PV.sc (Value.int IntKind.i64 0)],
                [])
          else
            bif decide (min (IntKind.i64.wrap (a1 + 1)) 16 ≥ a4) then
              guardB
                (pre118
                  (IntKind.u64.wrap
                    (IntKind.i64.wrap
                      (↑(BitVec.ofInt IntKind.i64.bits
                                (IntKind.i64.wrap
                                  (↑(BitVec.ofInt IntKind.i64.bits (IntKind.i64.wrap (a0 * 2)) &&&
                                          BitVec.ofInt IntKind.i64.bits 65535).toNat :
                                    Int)) &&&
                              BitVec.ofInt IntKind.i64.bits
                                (IntKind.i64.wrap
                                  (IntKind.i64.wrap (1 * 2 ^ min a4.toNat IntKind.i64.bits) - 1))).toNat :
                        Int)))
                  a3 a4 1)
                (bif
                    !soonN
                        (IntKind.u64.wrap
                            (IntKind.i64.wrap
                              (↑(BitVec.ofInt IntKind.i64.bits
                                        (IntKind.i64.wrap
                                          (↑(BitVec.ofInt IntKind.i64.bits (IntKind.i64.wrap (a0 * 2)) &&&
                                                  BitVec.ofInt IntKind.i64.bits 65535).toNat :
                                            Int)) &&&
                                      BitVec.ofInt IntKind.i64.bits
                                        (IntKind.i64.wrap
                                          (IntKind.i64.wrap (1 * 2 ^ min a4.toNat IntKind.i64.bits) - 1))).toNat :
                                Int))).toNat
                        a3 a4.toNat (a4.toNat - 1) 1 then
                  some
                    (PV.tup
                        [PV.agg
                            [PV.sc
                                (Value.int IntKind.i64
                                  (IntKind.i64.wrap
                                    (↑(BitVec.ofInt IntKind.i64.bits (IntKind.i64.wrap (a0 * 2)) &&&
                                            BitVec.ofInt IntKind.i64.bits 65535).toNat :
                                      Int))),
                              PV.sc (Value.int IntKind.i64 (min (IntKind.i64.wrap (a1 + 1)) 16))],
                          PV.sc (Value.int IntKind.i64 2), PV.sc (Value.int IntKind.i64 0)],
                      [])
                else
                  some
                    (PV.tup
                        [PV.agg
                            [PV.sc
                                (Value.int IntKind.i64
                                  (IntKind.i64.wrap
                                    (↑(BitVec.ofInt IntKind.i64.bits (IntKind.i64.wrap (a0 * 2)) &&&
                                            BitVec.ofInt IntKind.i64.bits 65535).toNat :
                                      Int))),
                              PV.sc (Value.int IntKind.i64 (min (IntKind.i64.wrap (a1 + 1)) 16))],
                          PV.sc (Value.int IntKind.i64 0), PV.sc (Value.int IntKind.i64 0)],
                      []))
            else
              some
                (PV.tup
                    [PV.agg
                        [PV.sc
                            (Value.int IntKind.i64
                              (IntKind.i64.wrap
                                (↑(BitVec.ofInt IntKind.i64.bits (IntKind.i64.wrap (a0 * 2)) &&&
                                        BitVec.ofInt IntKind.i64.bits 65535).toNat :
                                  Int))),
                          PV.sc (Value.int IntKind.i64 (min (IntKind.i64.wrap (a1 + 1)) 16))],
                      PV.sc (Value.int IntKind.i64 0), PV.sc (Value.int IntKind.i64 0)],
                  []))))) := by kernel_rfl
noncomputable abbrev b34lL (a0 : Int) (a1 : Int) (a2 : Int) (a3 : Int) (a4 : List Bool) (a5 : Bool) (a6 : Int) (a7 : Int) := evRound Try.prog T4 noCuts 48 (loopOf (codeAt 0 (bodyF Try.f34))) k34c mu34 (killA 0 k34c) [1, 2, 10, 25, 26, 27] [6, 7, 8] c34 (a0, (a1, (((a2, a3), ()), ((a4, a5), (a6, (a7, ()))))))
theorem b34l (a0 : Int) (a1 : Int) (a2 : Int) (a3 : Int) (a4 : List Bool) (a5 : Bool) (a6 : Int) (a7 : Int) : b34lL a0 a1 a2 a3 a4 a5 a6 a7 = (bif decide (a7 < a6) then
  guardB (decide (0 ≤ a7) && decide (a7 < (↑a4.length : Int)))
    (bindO a4[0 + a7.toNat]? fun x =>
      guardB (pre79 a2 a3 a0 a1)
        (bif whatN (nx a2 x) (a3 + 1) a0 a1 != 0 then
          some
            (Xt.ret,
              [PV.sc (Value.int IntKind.i64 (IntKind.i64.wrap (a7 + 1))),
                PV.sc (Value.int IntKind.i64 (whatN (nx a2 x) (a3 + 1) a0 a1)), PV.sc (Value.int IntKind.i64 0)],
              [Blk.fix true [PV.sc (Value.int IntKind.i64 a2), PV.sc (Value.int IntKind.i64 a3)],
                Blk.row false Kd.bool a4])
        else
          guardB
            (decide
              (mu34
                  (a0, a1, ((nx a2 x, a3 + 1), PUnit.unit), (List.take a4.length a4, a5), a6, IntKind.i64.wrap (a7 + 1),
                    PUnit.unit) <
                mu34 (a0, a1, ((a2, a3), ()), (a4, a5), a6, a7, ())))
            (guardB
              (bif decide (0 + a4.length ≤ a4.length) then
                pre34 a0 a1 (nx a2 x) (a3 + 1) (List.take a4.length a4) a6 (IntKind.i64.wrap (a7 + 1))
              else false)
              (bif (outK (List.take a4.length a4) a0 a1 (IntKind.i64.wrap (a7 + 1))).isNone then
                some
                  (Xt.exit 0, [PV.undef, PV.undef, PV.undef],
                    [Blk.fix true
                        [PV.sc (Value.int IntKind.i64 (bitsL (List.take a4.length a4))),
                          PV.sc (Value.int IntKind.i64 (↑(List.take a4.length a4).length : Int))],
                      Blk.row false Kd.bool a4])
              else
                some
                  (Xt.ret,
                    [PV.sc
                        (Value.int IntKind.i64
                          ((outK (List.take a4.length a4) a0 a1 (IntKind.i64.wrap (a7 + 1))).getD (0, 0)).fst),
                      PV.sc
                        (Value.int IntKind.i64
                          ((outK (List.take a4.length a4) a0 a1 (IntKind.i64.wrap (a7 + 1))).getD (0, 0)).snd),
                      PV.sc (Value.int IntKind.i64 0)],
                    [Blk.fix true
                        [PV.sc
                            (Value.int IntKind.i64
                              (bitsL
                                (List.take
                                  (((outK (List.take a4.length a4) a0 a1 (IntKind.i64.wrap (a7 + 1))).getD (0, 0)).fst -
                                      1).toNat
                                  (List.take a4.length a4)))),
                          PV.sc
                            (Value.int IntKind.i64
                              (((outK (List.take a4.length a4) a0 a1 (IntKind.i64.wrap (a7 + 1))).getD (0, 0)).fst -
                                1))],
                      Blk.row false Kd.bool a4])))))
else
  some
    (Xt.exit 0, [PV.undef, PV.undef, PV.undef],
      [Blk.fix true [PV.sc (Value.int IntKind.i64 a2), PV.sc (Value.int IntKind.i64 a3)], Blk.row false Kd.bool a4])) := by kernel_rfl
noncomputable abbrev b34L (a0 : List Bool) (a1 : Bool) (a2 : Int) (a3 : Int) := evFuncV Try.prog T4 (addCut 0 [1, 2, 10, 25, 26, 27] [6, 7, 8] (entC k34c c34) noCuts) Try.f34 (killA 0 k34) (showA 0 k34 ((a0, a1), (a2, (a3, ())))).1 (showA 0 k34 ((a0, a1), (a2, (a3, ())))).2
theorem b34 (a0 : List Bool) (a1 : Bool) (a2 : Int) (a3 : Int) : b34L a0 a1 a2 a3 = (bif decide ((↑a0.length : Int) > 256) then
  some
    (PV.tup [PV.sc (Value.int IntKind.i64 0), PV.sc (Value.int IntKind.i64 0), PV.sc (Value.int IntKind.i64 2)],
      [Blk.row false Kd.bool a0])
else
  bif ruleS a2 a3 != 0 then
    some
      (PV.tup
          [PV.sc (Value.int IntKind.i64 0), PV.sc (Value.int IntKind.i64 0),
            PV.sc (Value.int IntKind.i64 (ruleS a2 a3))],
        [Blk.row false Kd.bool a0])
  else
    guardB
      (bif decide (0 + a0.length ≤ a0.length) then pre34 a2 a3 0 0 (List.take a0.length a0) (↑a0.length : Int) 0
      else false)
      (bif (outK (List.take a0.length a0) a2 a3 0).isNone then
        some
          (PV.tup [PV.sc (Value.int IntKind.i64 0), PV.sc (Value.int IntKind.i64 0), PV.sc (Value.int IntKind.i64 0)],
            [Blk.row false Kd.bool a0])
      else
        some
          (PV.tup
              [PV.sc (Value.int IntKind.i64 ((outK (List.take a0.length a0) a2 a3 0).getD (0, 0)).fst),
                PV.sc (Value.int IntKind.i64 ((outK (List.take a0.length a0) a2 a3 0).getD (0, 0)).snd),
                PV.sc (Value.int IntKind.i64 0)],
            [Blk.row false Kd.bool a0]))) := by kernel_rfl
theorem p140 (x : Int) (h : preP x = true) : b140L x = some (PV.sc (.int .i64 ((popN x.toNat : Nat) : Int)), []) := by
  obtain ⟨h1, h2⟩ := of_decide_eq_true h
  obtain ⟨n, rfl⟩ := Int.eq_ofNat_of_zero_le h1
  rw [b140, pop_nat n (by omega), Int.toNat_natCast]
theorem p117 (x : Int) (h : preP x = true) : b117L x = some (PV.sc (.int .i64 ((popN x.toNat : Nat) : Int)), []) := by
  rw [b117]; exact guard_split h rfl
theorem pow_16 {d : Nat} (h : d ≤ 16) : 1 ≤ 2 ^ d ∧ 2 ^ d ≤ 65536 := ⟨Nat.one_le_two_pow, Nat.pow_le_pow_right (n := 2) (by decide) h⟩
theorem pow_cast (d : Nat) : (1 : Int) * 2 ^ d = ((2 ^ d : Nat) : Int) := by rw [Int.one_mul]; push_cast; rfl
theorem mask (x : Int) (d : Nat) (h0 : 0 ≤ x) (h1 : x < 65536) (hd : d ≤ 16) : IntKind.u64.wrap (↑(BitVec.ofInt IntKind.u64.bits x &&& BitVec.ofInt IntKind.u64.bits (IntKind.u64.wrap (IntKind.u64.wrap (1 * 2 ^ min d IntKind.u64.bits) - 1))).toNat : Int) = ((x.toNat % 2 ^ d : Nat) : Int) := by
  obtain ⟨n, rfl⟩ := Int.eq_ofNat_of_zero_le h0
  obtain ⟨p1, p2⟩ := pow_16 hd
  rw [show min d IntKind.u64.bits = d from Nat.min_eq_left (show d ≤ 64 by omega), pow_cast]
  show an (n : Int) (w (w ((2 ^ d : Nat) : Int) - 1)) = _
  rw [w_nat _ (by omega), show (((2 ^ d : Nat) : Int) - 1) = ((2 ^ d - 1 : Nat) : Int) by omega, w_nat _ (by omega), an_nat _ _ (by omega) (by omega), Nat.and_two_pow_sub_one_eq_mod, Int.toNat_natCast]
theorem pop_le (x : Nat) : popN x ≤ 127 := Nat.and_le_right
theorem modP (x d : Nat) (h : x < 65536) : preP ((x % 2 ^ d : Nat) : Int) = true := by
  have := Nat.mod_le x (2 ^ d)
  exact decide_eq_true (by omega)
theorem p118l (x need f k : Int) (h : pre118 x need f k = true) : b118lL x need f k = cond (!soonN x.toNat need f.toNat (f - k).toNat k.toNat) (some (Xt.exit 0, [PV.undef], [])) (some (Xt.ret, [PV.sc (.bool true)], [])) := by
  obtain ⟨h1, h2, h3, h4, h5, h6, h7, h8⟩ := of_decide_eq_true h
  rw [b118l]
  refine cond_split (fun h => ?_) (fun h => ?_)
  · have h := of_decide_eq_true h
    rw [IntWalk.i64_in (f - k) (by omega), mask x _ h1 h2 (by omega), IntWalk.i64_in (k + 1) (by omega)]
    refine guard_split (by simp; omega) (guard_split (modP _ _ (by omega)) ?_)
    have hs : soonN x.toNat need f.toNat (f - k).toNat k.toNat = ((decide (((cN x.toNat f.toNat k.toNat : Nat) : Int) > 0) && decide (((cN x.toNat f.toNat k.toNat : Nat) : Int) + k ≥ need)) || soonN x.toNat need f.toNat (f - (k + 1)).toNat (k + 1).toNat) := by
      unfold soonN
      rw [show (f - k).toNat = (f - (k + 1)).toNat + 1 by omega, show (k + 1).toNat = k.toNat + 1 by omega]
      rw [soonK, show ((k.toNat : Nat) : Int) = k by omega]
    rw [hs, Int.toNat_natCast, show popN (x.toNat % 2 ^ (f - k).toNat) = cN x.toNat f.toNat k.toNat by unfold cN; rw [show (f - k).toNat = f.toNat - k.toNat by omega]]
    have hb : cN x.toNat f.toNat k.toNat ≤ 127 := pop_le _
    generalize cN x.toNat f.toNat k.toNat = c at hb
    rw [IntWalk.i64_in ((c : Int) + k) (by omega)]
    have hmu : decide (mu118 (x, need, f, k + 1, PUnit.unit) < mu118 (x, need, f, k, ())) = true := decide_eq_true (show (f - (k + 1)).toNat < (f - k).toNat by omega)
    have hp : pre118 x need f (k + 1) = true := decide_eq_true (by omega)
    generalize decide ((c : Int) > 0) = b1, decide ((c : Int) + k ≥ need) = b2, soonN x.toNat need f.toNat (f - (k + 1)).toNat (k + 1).toNat = b3
    cases b1
    · refine guard_split hmu (guard_split hp ?_)
      cases b2 <;> cases b3 <;> rfl
    · cases b2
      · refine guard_split hmu (guard_split hp ?_)
        cases b3 <;> rfl
      · rfl
  · have h := of_decide_eq_false h
    rw [show (f - k).toNat = 0 by omega]; rfl
theorem p118 (x need f : Int) (h : pre118 x need f 1 = true) : b118L x need f = some (PV.sc (.bool (soonN x.toNat need f.toNat (f.toNat - 1) 1)), []) := by
  obtain ⟨h1, h2, h3, h4, h5, h6, h7, h8⟩ := of_decide_eq_true h
  rw [b118]
  refine guard_split h ?_
  rw [show (f - 1).toNat = f.toNat - 1 by omega, show Int.toNat 1 = 1 from rfl]
  generalize soonN x.toNat need f.toNat (f.toNat - 1) 1 = b
  cases b <;> rfl
theorem p116 (x s : Int) (h : decide (0 ≤ s ∧ s ≤ 16 ∧ 0 ≤ x ∧ x < 2 ^ s.toNat) = true) : b116L x s = some (PV.sc (.int .i64 0), []) := by
  obtain ⟨h1, h2, h3, h4⟩ := of_decide_eq_true h
  obtain ⟨p1, p2⟩ := pow_16 (d := s.toNat) (by omega)
  have hp : (2 : Int) ^ s.toNat = ((2 ^ s.toNat : Nat) : Int) := by push_cast; rfl
  rw [hp] at h4
  rw [b116, decide_eq_false (by omega), decide_eq_false (by omega), decide_eq_false (by omega), decide_eq_true h1]
  rw [show min s.toNat IntKind.i64.bits = s.toNat from Nat.min_eq_left (show s.toNat ≤ 64 by omega), pow_cast, IntWalk.i64_in _ (by omega), decide_eq_false (by omega)]
  rfl
theorem p35 (need f : Int) : b35L need f = some (PV.sc (.int .i64 (ruleS need f)), []) := by
  rw [b35]; unfold ruleS
  generalize decide (f < 1) = b1, decide (f > 16) = b2, decide (need < 1) = b3, decide (need > f) = b4
  cases b1 <;> cases b2 <;> cases b3 <;> cases b4 <;> rfl
theorem rule_at {need f : Int} (h : ruleS need f = 0) : 1 ≤ f ∧ f ≤ 16 ∧ 1 ≤ need ∧ need ≤ f := by
  unfold ruleS at h
  cases hb : (decide (f < 1) || (decide (f > 16) || (decide (need < 1) || decide (need > f)))) with
  | true => rw [hb] at h; simp at h
  | false => simp at hb; omega
theorem i_and (x c : Nat) (hx : x < 9223372036854775808) (hc : c < 9223372036854775808) : IntKind.i64.wrap (↑(BitVec.ofInt IntKind.i64.bits (x : Int) &&& BitVec.ofInt IntKind.i64.bits (c : Int)).toNat : Int) = ((x &&& c : Nat) : Int) := by
  rw [show (BitVec.ofInt IntKind.i64.bits (x : Int) &&& BitVec.ofInt IntKind.i64.bits (c : Int)).toNat = x &&& c by
    rw [BitVec.ofInt_natCast, BitVec.ofInt_natCast, BitVec.toNat_and, BitVec.toNat_ofNat, BitVec.toNat_ofNat]
    rw [Nat.mod_eq_of_lt (show x < 2 ^ IntKind.i64.bits by show x < 18446744073709551616; omega), Nat.mod_eq_of_lt (show c < 2 ^ IntKind.i64.bits by show c < 18446744073709551616; omega)]]
  have : x &&& c ≤ x := Nat.and_le_left
  exact IntWalk.i64_in _ (by omega)
theorem and16 (x : Int) (h0 : 0 ≤ x) (h1 : x < 32768) : IntKind.i64.wrap (↑(BitVec.ofInt IntKind.i64.bits (IntKind.i64.wrap (x * 2)) &&& BitVec.ofInt IntKind.i64.bits 65535).toNat : Int) = 2 * x := by
  obtain ⟨n, rfl⟩ := Int.eq_ofNat_of_zero_le h0
  rw [IntWalk.i64_in ((n : Int) * 2) (by omega), show (n : Int) * 2 = ((2 * n : Nat) : Int) by omega]
  have := i_and (2 * n) 65535 (by omega) (by omega)
  rw [show (65535 : Nat) = 2 ^ 16 - 1 from rfl, Nat.and_two_pow_sub_one_eq_mod, Nat.mod_eq_of_lt (by omega)] at this
  exact this.trans (by omega)
theorem or1 (x : Int) (h0 : 0 ≤ x) (h1 : x < 32768) : IntKind.i64.wrap (↑(BitVec.ofInt IntKind.i64.bits (2 * x) ||| BitVec.ofInt IntKind.i64.bits 1).toNat : Int) = 2 * x + 1 := by
  obtain ⟨n, rfl⟩ := Int.eq_ofNat_of_zero_le h0
  rw [show 2 * (n : Int) = ((2 * n : Nat) : Int) by omega]
  rw [show (BitVec.ofInt IntKind.i64.bits ((2 * n : Nat) : Int) ||| BitVec.ofInt IntKind.i64.bits 1).toNat = 2 * n + 1 by
    rw [show (1 : Int) = ((1 : Nat) : Int) from rfl, BitVec.ofInt_natCast, BitVec.ofInt_natCast, BitVec.toNat_or, BitVec.toNat_ofNat, BitVec.toNat_ofNat]
    rw [Nat.mod_eq_of_lt (show 2 * n < 2 ^ IntKind.i64.bits by show 2 * n < 18446744073709551616; omega), Nat.mod_eq_of_lt (show 1 < 2 ^ IntKind.i64.bits by decide)]
    exact (Nat.two_pow_add_eq_or_of_lt (i := 1) (b := 1) (by decide) n).symm]
  rw [IntWalk.i64_in _ (by omega)]; omega
theorem mask64 (x f : Int) (h0 : 0 ≤ x) (h1 : x < 65536) (hf : 1 ≤ f ∧ f ≤ 16) : IntKind.u64.wrap (IntKind.i64.wrap (↑(BitVec.ofInt IntKind.i64.bits x &&& BitVec.ofInt IntKind.i64.bits (IntKind.i64.wrap (IntKind.i64.wrap (1 * 2 ^ min f.toNat IntKind.i64.bits) - 1))).toNat : Int)) = ((x.toNat % 2 ^ f.toNat : Nat) : Int) := by
  obtain ⟨n, rfl⟩ := Int.eq_ofNat_of_zero_le h0
  obtain ⟨p1, p2⟩ := pow_16 (d := f.toNat) (by omega)
  rw [show min f.toNat IntKind.i64.bits = f.toNat from Nat.min_eq_left (show f.toNat ≤ 64 by omega), pow_cast, IntWalk.i64_in ((2 ^ f.toNat : Nat) : Int) (by omega), show (((2 ^ f.toNat : Nat) : Int) - 1) = ((2 ^ f.toNat - 1 : Nat) : Int) by omega, IntWalk.i64_in ((2 ^ f.toNat - 1 : Nat) : Int) (by omega), i_and _ _ (by omega) (by omega), Nat.and_two_pow_sub_one_eq_mod, Int.toNat_natCast]
  have := Nat.mod_le n (2 ^ f.toNat)
  exact w_nat _ (by omega)
def ans79 (x s what : Int) : Option (PV × List Blk) := some (PV.tup [PV.agg [PV.sc (.int .i64 x), PV.sc (.int .i64 s)], PV.sc (.int .i64 what), PV.sc (.int .i64 0)], [])
theorem p79 (x s : Int) (h : Bool) (need f : Int) (hp : pre79 x s need f = true) : b79L x s h need f = ans79 (nx x h) (s + 1) (whatN (nx x h) (s + 1) need f) := by
  obtain ⟨h1, h2, h3, h4, h5⟩ := of_decide_eq_true hp
  obtain ⟨r1, r2, r3, r4⟩ := rule_at h5
  have hx : x < 32768 := by
    have : (2 : Int) ^ s.toNat = ((2 ^ s.toNat : Nat) : Int) := by push_cast; rfl
    have h6 : 2 ^ s.toNat ≤ 2 ^ 15 := Nat.pow_le_pow_right (n := 2) (by decide) (by omega)
    omega
  rw [b79]
  refine guard_split (decide_eq_true (by omega)) ?_
  rw [h5, show ((0 : Int) != 0) = false from rfl]
  simp only [cond_false]
  rw [IntWalk.i64_in (s + 1) (by omega), show min (s + 1) 16 = s + 1 by omega, and16 x h3 hx, or1 x h3 hx]
  have key : ∀ y : Int, 0 ≤ y → y < 65536 → guardB (decide (0 ≤ f)) (guardB (preP ((y.toNat % 2 ^ f.toNat : Nat) : Int))
      (bif decide (((popN (((y.toNat % 2 ^ f.toNat : Nat) : Int)).toNat : Nat) : Int) ≥ need) then ans79 y (s + 1) 1
      else bif decide (s + 1 ≥ f) then guardB (pre118 ((y.toNat % 2 ^ f.toNat : Nat) : Int) need f 1) (bif !soonN (((y.toNat % 2 ^ f.toNat : Nat) : Int)).toNat need f.toNat (f.toNat - 1) 1 then ans79 y (s + 1) 2 else ans79 y (s + 1) 0) else ans79 y (s + 1) 0)) = ans79 y (s + 1) (whatN y (s + 1) need f) := by
    intro y y0 y1
    have hm := Nat.mod_le y.toNat (2 ^ f.toNat)
    refine guard_split (decide_eq_true (by omega)) (guard_split (modP _ _ (by omega)) ?_)
    rw [Int.toNat_natCast]
    unfold whatN
    rw [show decide (s + 1 < f) = !decide (s + 1 ≥ f) by rw [Bool.eq_iff_iff]; simp]
    have h118 : pre118 ((y.toNat % 2 ^ f.toNat : Nat) : Int) need f 1 = true := decide_eq_true (by omega)
    generalize decide (((popN (y.toNat % 2 ^ f.toNat) : Nat) : Int) ≥ need) = b1, decide (s + 1 ≥ f) = b2, soonN (y.toNat % 2 ^ f.toNat) need f.toNat (f.toNat - 1) 1 = b3
    cases b1
    · cases b2
      · rfl
      · rw [h118]
        cases b3 <;> rfl
    · rfl
  cases h
  · have k := key (2 * x) (by omega) (by omega)
    rw [mask64 (2 * x) f (by omega) (by omega) ⟨r1, r2⟩]
    rw [show nx x false = 2 * x by unfold nx; simp]
    unfold ans79 at k ⊢
    simp only [cond_false, cond_true] at k ⊢
    exact k
  · have k := key (2 * x + 1) (by omega) (by omega)
    rw [mask64 (2 * x + 1) f (by omega) (by omega) ⟨r1, r2⟩]
    rw [show nx x true = 2 * x + 1 by unfold nx; simp]
    unfold ans79 at k ⊢
    simp only [cond_false, cond_true] at k ⊢
    exact k
/-! ### Histories -/
theorem cnt_cons (b : Bool) (l : List Bool) : cnt (b :: l) = (bif b then 1 else 0) + cnt l := by
  unfold cnt
  cases b
  · simp
  · simp; omega
theorem cnt_app (l m : List Bool) : cnt (l ++ m) = cnt l + cnt m := by unfold cnt; rw [List.filter_append, List.length_append]
theorem bits_snoc (l : List Bool) (b : Bool) : bitsL (l ++ [b]) = nx (bitsL l) b := by unfold bitsL; rw [List.foldl_append]; rfl
theorem last_snoc (l : List Bool) (b : Bool) (m : Nat) : last (l ++ [b]) (m + 1) = last l m + (bif b then 1 else 0) := by
  unfold last
  rw [List.length_append, List.length_singleton, show l.length + 1 - (m + 1) = l.length - m by omega, List.drop_append_of_le_length (by omega), cnt_app, cnt_cons]
  rfl
theorem last_zero (l : List Bool) : last l 0 = 0 := by
  unfold last
  rw [Nat.sub_zero, List.drop_length]; rfl
theorem bits_rev : ∀ (r : List Bool), 0 ≤ bitsL r.reverse ∧ bitsL r.reverse < ((2 ^ r.length : Nat) : Int)
  | [] => ⟨by decide, by decide⟩
  | b :: r => by
    obtain ⟨h1, h2⟩ := bits_rev r
    rw [List.reverse_cons, bits_snoc, List.length_cons, Nat.pow_succ]
    unfold nx
    cases b <;> simp only [cond_true, cond_false] <;> omega
theorem pop_last : ∀ (r : List Bool) (m : Nat), m ≤ 16 → popN ((bitsL r.reverse).toNat % 2 ^ m) = last r.reverse m
  | r, 0, _ => by rw [Nat.pow_zero, Nat.mod_one, last_zero]; rfl
  | [], m + 1, _ => by
    rw [show (bitsL ([] : List Bool).reverse).toNat = 0 from rfl, Nat.zero_mod]
    simp [last, cnt]; rfl
  | b :: r, m + 1, h => by
    obtain ⟨h1, h2⟩ := bits_rev r
    rw [List.reverse_cons, bits_snoc, last_snoc, ← pop_last r m (by omega), ← pop_rec _ _ (by
      have p1 := Nat.mod_lt (bitsL r.reverse).toNat (Nat.two_pow_pos m)
      have p2 : 2 ^ m ≤ 2 ^ 15 := Nat.pow_le_pow_right (n := 2) (by decide) (by omega)
      omega)]
    congr 1
    obtain ⟨n, hn⟩ := Int.eq_ofNat_of_zero_le h1
    rw [hn, Int.toNat_natCast, Nat.pow_succ]
    have e : (nx (n : Int) b).toNat = 2 * n + (bif b then 1 else 0) := by unfold nx; cases b <;> simp only [cond_true, cond_false] <;> omega
    rw [e]
    have d := Nat.div_add_mod n (2 ^ m)
    have d1 := Nat.mod_lt n (Nat.two_pow_pos m)
    generalize hq : n / 2 ^ m = q at d
    generalize hr : n % 2 ^ m = r at d d1
    rw [show 2 * n + (bif b then 1 else 0) = 2 * r + (bif b then 1 else 0) + (2 ^ m * 2) * q by rw [← d, Nat.mul_add, Nat.mul_comm (2 ^ m) 2, Nat.mul_assoc]; omega]
    rw [Nat.add_mul_mod_self_left, Nat.mod_eq_of_lt]
    cases b <;> simp only [cond_true, cond_false] <;> omega
theorem bits_bd (l : List Bool) : 0 ≤ bitsL l ∧ bitsL l < ((2 ^ l.length : Nat) : Int) := by
  have := bits_rev l.reverse
  rwa [List.reverse_reverse, List.length_reverse] at this
theorem pop_of (l : List Bool) (m : Nat) (h : m ≤ 16) : popN ((bitsL l).toNat % 2 ^ m) = last l m := by
  have := pop_last l.reverse m h
  rwa [List.reverse_reverse] at this
theorem what_eq (l : List Bool) (need f : Int) (hf : 1 ≤ f ∧ f ≤ 16) : whatN (bitsL l) (l.length : Int) need f = whatL l need f.toNat := by
  unfold whatN whatL soonN
  rw [pop_of l f.toNat (by omega), show decide ((l.length : Int) < f) = decide (l.length < f.toNat) from decide_eq_decide.mpr (by omega)]
  have hc : cN ((bitsL l).toNat % 2 ^ f.toNat) f.toNat = fun j => last l (f.toNat - j) := by
    funext j
    unfold cN
    rw [Nat.mod_mod_of_dvd _ (Nat.pow_dvd_pow 2 (Nat.sub_le _ _))]
    exact pop_of l _ (by omega)
  rw [hc]
theorem take_snoc {α : Type} {l : List α} {k : Nat} {x : α} (h : l[k]? = some x) : l.take (k + 1) = l.take k ++ [x] := by
  rw [List.take_add_one, h]; rfl
theorem get_ex {α : Type} {l : List α} {k : Nat} (h : k < l.length) : ∃ x, l[k]? = some x := ⟨l[k], List.getElem?_eq_getElem h⟩
def ans34 (l : List Bool) : Option (Int × Int) → Option (Xt × List PV × List Blk)
  | none => some (Xt.exit 0, [PV.undef, PV.undef, PV.undef], [Blk.fix true [PV.sc (.int .i64 (bitsL l)), PV.sc (.int .i64 (l.length : Int))], Blk.row false Kd.bool l])
  | some (n, x) => some (Xt.ret, [PV.sc (.int .i64 n), PV.sc (.int .i64 x), PV.sc (.int .i64 0)], [Blk.fix true [PV.sc (.int .i64 (bitsL (l.take (n - 1).toNat))), PV.sc (.int .i64 (n - 1))], Blk.row false Kd.bool l])
theorem out_step {l : List Bool} {need f k : Int} (h0 : 0 ≤ k) (h : k < l.length) : outK l need f k = bif decide (whatL (l.take (k.toNat + 1)) need f.toNat = 0) then outK l need f (k + 1) else some (k + 1, whatL (l.take (k.toNat + 1)) need f.toNat) := by
  unfold outK
  rw [show l.length - k.toNat = (l.length - (k + 1).toNat) + 1 by omega, runK, show (k + 1).toNat = k.toNat + 1 by omega, show ((k.toNat : Nat) : Int) = k by omega]
theorem p34l (need f x s : Int) (l : List Bool) (nl : Bool) (n k : Int) (h : pre34 need f x s l n k = true) : b34lL need f x s l nl n k = ans34 l (outK l need f k) := by
  obtain ⟨h1, h2, h3, h4, h5, h6, h7⟩ := of_decide_eq_true h
  obtain ⟨r1, r2, r3, r4⟩ := rule_at h1
  rw [b34l]
  simp only [List.take_length, Nat.zero_add, show decide (l.length ≤ l.length) = true by simp, cond_true]
  refine cond_split (fun h => ?_) (fun h => ?_)
  · have h := of_decide_eq_true h
    obtain ⟨b, hb⟩ := get_ex (l := l) (k := k.toNat) (by omega)
    rw [hb]
    have ht : nx x b = bitsL (l.take (k.toNat + 1)) := by rw [take_snoc hb, bits_snoc, h7]
    have hlen : (l.take (k.toNat + 1)).length = k.toNat + 1 := by rw [List.length_take]; omega
    have hw : whatN (nx x b) (s + 1) need f = whatL (l.take (k.toNat + 1)) need f.toNat := by
      rw [ht, ← what_eq _ need f ⟨r1, r2⟩, hlen, show s + 1 = ((k.toNat + 1 : Nat) : Int) by omega]
    refine guard_split (by simp; omega) ?_
    simp only [bindO]
    refine guard_split ?_ ?_
    · have hb2 := bits_bd (l.take k.toNat)
      rw [List.length_take, Nat.min_eq_left (by omega), ← h7] at hb2
      refine decide_eq_true ⟨by omega, by omega, hb2.1, ?_, h1⟩
      rw [show s.toNat = k.toNat by omega]
      have := hb2.2
      push_cast at this; exact this
    · rw [hw, out_step h4 (by omega), IntWalk.i64_in (k + 1) (by omega)]
      by_cases h0 : whatL (l.take (k.toNat + 1)) need f.toNat = 0
      · rw [h0, decide_eq_true (show (0 : Int) = 0 from rfl), show ((0 : Int) != 0) = false from rfl]
        simp only [cond_false, cond_true]
        refine guard_split ?_ (guard_split ?_ ?_)
        · exact decide_eq_true (show (n - (k + 1)).toNat < (n - k).toNat by omega)
        · exact decide_eq_true ⟨h1, h2, h3, by omega, by omega, by omega, by rw [ht, show (k + 1).toNat = k.toNat + 1 by omega]⟩
        · cases outK l need f (k + 1) with
          | none => rfl
          | some p => rfl
      · rw [decide_eq_false h0, show (whatL (l.take (k.toNat + 1)) need f.toNat != 0) = true by simpa using h0]
        simp only [cond_false, cond_true]
        show _ = some (Xt.ret, [PV.sc (.int .i64 (k + 1)), PV.sc (.int .i64 (whatL (l.take (k.toNat + 1)) need f.toNat)), PV.sc (.int .i64 0)], [Blk.fix true [PV.sc (.int .i64 (bitsL (l.take (k + 1 - 1).toNat))), PV.sc (.int .i64 (k + 1 - 1))], Blk.row false Kd.bool l])
        rw [show (k + 1 - 1) = k by omega, ← h7, h6]
  · have h := of_decide_eq_false h
    unfold outK
    rw [show l.length - k.toNat = 0 by omega]
    unfold runK ans34
    rw [h7, h6, show k.toNat = l.length by omega, List.take_length, show k = (l.length : Int) by omega]
theorem p34l' (need f x s : Int) (l : List Bool) (nl : Bool) (n k : Int) (h : pre34 need f x s l n k = true) : b34lL need f x s l nl n k = pickA (c34 (need, f, ((x, s), ()), (l, nl), n, k, ())).2 := by
  rw [p34l need f x s l nl n k h]
  show _ = cond (outK l need f k).isNone (some (Xt.exit 0, [PV.undef, PV.undef, PV.undef], [Blk.fix true [PV.sc (.int .i64 (bitsL l)), PV.sc (.int .i64 (l.length : Int))], Blk.row false Kd.bool l]))
    (some (Xt.ret, [PV.sc (.int .i64 ((outK l need f k).getD (0, 0)).1), PV.sc (.int .i64 ((outK l need f k).getD (0, 0)).2), PV.sc (.int .i64 0)], [Blk.fix true [PV.sc (.int .i64 (bitsL (l.take (((outK l need f k).getD (0, 0)).1 - 1).toNat))), PV.sc (.int .i64 (((outK l need f k).getD (0, 0)).1 - 1))], Blk.row false Kd.bool l]))
  cases outK l need f k with
  | none => rfl
  | some p => rfl
theorem p34 (l : List Bool) (nl : Bool) (need f : Int) (h : preN l = true) : b34L l nl need f = some (PV.tup [PV.sc (.int .i64 (runS l need f).1), PV.sc (.int .i64 (runS l need f).2.1), PV.sc (.int .i64 (runS l need f).2.2)], [Blk.row false Kd.bool l]) := by
  have h2 := of_decide_eq_true h
  rw [b34]
  simp only [List.take_length, Nat.zero_add, show decide (l.length ≤ l.length) = true by simp, cond_true]
  rw [decide_eq_false (show ¬ ((l.length : Int) > 256) by omega)]
  simp only [cond_false]
  by_cases hr : ruleS need f = 0
  · unfold runS
    rw [hr]
    simp only [show ((0 : Int) != 0) = false from rfl, decide_true, cond_true, cond_false]
    refine guard_split (decide_eq_true ⟨hr, h2, rfl, by omega, by omega, rfl, rfl⟩) ?_
    rw [show outK l need f 0 = runK l need f.toNat l.length 0 from rfl]
    cases runK l need f.toNat l.length 0 with
    | none => rfl
    | some p => rfl
  · have h4 : ruleS need f = 4 := by
      unfold ruleS at hr ⊢
      generalize (decide (f < 1) || (decide (f > 16) || (decide (need < 1) || decide (need > f)))) = b at hr
      cases b
      · exact absurd rfl hr
      · rfl
    unfold runS
    rw [h4]; rfl
end Go.Proofs.YtpndjpjpmcehbaaBr
