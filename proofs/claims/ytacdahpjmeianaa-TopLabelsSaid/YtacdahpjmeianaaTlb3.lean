/- What is proved: what the search of positions and the reference's test of them answer. Condition: at most six labels, within their bounds. -/
import Derived.Test.YtacdahpjmeianaaTlb2
namespace Go.Proofs.YtacdahpjmeianaaLb
open Go Go.Proofs Go.Proofs.YtacdahpjmeianaaEv
set_option maxRecDepth 100000
set_option linter.unusedSimpArgs false
set_option linter.unusedVariables false
noncomputable abbrev d8lL (a0 : It) (a1 : It) (a2 : Int) (a3 : Int) := evRound Try.prog T1' noCuts 94 (loopOf (codeAt 8 (bodyF Try.f25))) k8c mu8c (killA 0 k8c) [7, 12, 13, 14] [4] c8c (a0, (a1, (a2, (a3, ()))))
theorem d8l (a0 : It) (a1 : It) (a2 : Int) (a3 : Int) : d8lL a0 a1 a2 a3 = (bif decide (a3 < IntKind.i64.wrap (a0.fst + a0.snd.snd.fst)) then
  bif inW a1 a3 a2 then
    some
      (Xt.ret, [PV.sc (Value.bool false)],
        [Blk.fix false
            [PV.sc (Value.int IntKind.i64 a0.fst), PV.sc (Value.int IntKind.i64 a0.snd.fst),
              PV.sc (Value.int IntKind.i64 a0.snd.snd.fst), PV.sc (Value.int IntKind.i64 a0.snd.snd.snd)],
          Blk.fix false
            [PV.sc (Value.int IntKind.i64 a1.fst), PV.sc (Value.int IntKind.i64 a1.snd.fst),
              PV.sc (Value.int IntKind.i64 a1.snd.snd.fst), PV.sc (Value.int IntKind.i64 a1.snd.snd.snd)]])
  else
    guardB (decide (mu8c (a0, a1, a2, IntKind.i64.wrap (a3 + 1), PUnit.unit) < mu8c (a0, a1, a2, a3, ())))
      (guardB (pre8c a0 (IntKind.i64.wrap (a3 + 1)))
        (bif !colV a0 a1 a2 (IntKind.i64.wrap (a3 + 1)) then
          some
            (Xt.exit 8, [PV.undef],
              [Blk.fix false
                  [PV.sc (Value.int IntKind.i64 a0.fst), PV.sc (Value.int IntKind.i64 a0.snd.fst),
                    PV.sc (Value.int IntKind.i64 a0.snd.snd.fst), PV.sc (Value.int IntKind.i64 a0.snd.snd.snd)],
                Blk.fix false
                  [PV.sc (Value.int IntKind.i64 a1.fst), PV.sc (Value.int IntKind.i64 a1.snd.fst),
                    PV.sc (Value.int IntKind.i64 a1.snd.snd.fst), PV.sc (Value.int IntKind.i64 a1.snd.snd.snd)]])
        else
          some
            (Xt.ret, [PV.sc (Value.bool false)],
              [Blk.fix false
                  [PV.sc (Value.int IntKind.i64 a0.fst), PV.sc (Value.int IntKind.i64 a0.snd.fst),
                    PV.sc (Value.int IntKind.i64 a0.snd.snd.fst), PV.sc (Value.int IntKind.i64 a0.snd.snd.snd)],
                Blk.fix false
                  [PV.sc (Value.int IntKind.i64 a1.fst), PV.sc (Value.int IntKind.i64 a1.snd.fst),
                    PV.sc (Value.int IntKind.i64 a1.snd.snd.fst), PV.sc (Value.int IntKind.i64 a1.snd.snd.snd)]])))
else
  some
    (Xt.exit 8, [PV.undef],
      [Blk.fix false
          [PV.sc (Value.int IntKind.i64 a0.fst), PV.sc (Value.int IntKind.i64 a0.snd.fst),
            PV.sc (Value.int IntKind.i64 a0.snd.snd.fst), PV.sc (Value.int IntKind.i64 a0.snd.snd.snd)],
        Blk.fix false
          [PV.sc (Value.int IntKind.i64 a1.fst), PV.sc (Value.int IntKind.i64 a1.snd.fst),
            PV.sc (Value.int IntKind.i64 a1.snd.snd.fst), PV.sc (Value.int IntKind.i64 a1.snd.snd.snd)]])) := by kernel_rfl
noncomputable abbrev d6lL (a0 : It) (a1 : It) (a2 : Int) := evRound Try.prog T1' (addCut 8 [7, 12, 13, 14] [4] (entC k8c c8c) noCuts) 94 (loopOf (codeAt 6 (bodyF Try.f25))) k6c mu6c (killA 0 k6c) [7, 12, 13] [4] c6c (a0, (a1, (a2, ())))
theorem d6l (a0 : It) (a1 : It) (a2 : Int) : d6lL a0 a1 a2 = (bif decide (a2 < IntKind.i64.wrap (a0.snd.fst + a0.snd.snd.snd)) then
  guardB (pre8c a0 a0.fst)
    (bif !colV a0 a1 a2 a0.fst then
      guardB (decide (mu6c (a0, a1, IntKind.i64.wrap (a2 + 1), PUnit.unit) < mu6c (a0, a1, a2, ())))
        (guardB (pre6c a0 (IntKind.i64.wrap (a2 + 1)))
          (bif !rowV a0 a1 (IntKind.i64.wrap (a2 + 1)) then
            some
              (Xt.exit 6, [PV.undef],
                [Blk.fix false
                    [PV.sc (Value.int IntKind.i64 a0.fst), PV.sc (Value.int IntKind.i64 a0.snd.fst),
                      PV.sc (Value.int IntKind.i64 a0.snd.snd.fst), PV.sc (Value.int IntKind.i64 a0.snd.snd.snd)],
                  Blk.fix false
                    [PV.sc (Value.int IntKind.i64 a1.fst), PV.sc (Value.int IntKind.i64 a1.snd.fst),
                      PV.sc (Value.int IntKind.i64 a1.snd.snd.fst), PV.sc (Value.int IntKind.i64 a1.snd.snd.snd)]])
          else
            some
              (Xt.ret, [PV.sc (Value.bool false)],
                [Blk.fix false
                    [PV.sc (Value.int IntKind.i64 a0.fst), PV.sc (Value.int IntKind.i64 a0.snd.fst),
                      PV.sc (Value.int IntKind.i64 a0.snd.snd.fst), PV.sc (Value.int IntKind.i64 a0.snd.snd.snd)],
                  Blk.fix false
                    [PV.sc (Value.int IntKind.i64 a1.fst), PV.sc (Value.int IntKind.i64 a1.snd.fst),
                      PV.sc (Value.int IntKind.i64 a1.snd.snd.fst), PV.sc (Value.int IntKind.i64 a1.snd.snd.snd)]])))
    else
      some
        (Xt.ret, [PV.sc (Value.bool false)],
          [Blk.fix false
              [PV.sc (Value.int IntKind.i64 a0.fst), PV.sc (Value.int IntKind.i64 a0.snd.fst),
                PV.sc (Value.int IntKind.i64 a0.snd.snd.fst), PV.sc (Value.int IntKind.i64 a0.snd.snd.snd)],
            Blk.fix false
              [PV.sc (Value.int IntKind.i64 a1.fst), PV.sc (Value.int IntKind.i64 a1.snd.fst),
                PV.sc (Value.int IntKind.i64 a1.snd.snd.fst), PV.sc (Value.int IntKind.i64 a1.snd.snd.snd)]]))
else
  some
    (Xt.exit 6, [PV.undef],
      [Blk.fix false
          [PV.sc (Value.int IntKind.i64 a0.fst), PV.sc (Value.int IntKind.i64 a0.snd.fst),
            PV.sc (Value.int IntKind.i64 a0.snd.snd.fst), PV.sc (Value.int IntKind.i64 a0.snd.snd.snd)],
        Blk.fix false
          [PV.sc (Value.int IntKind.i64 a1.fst), PV.sc (Value.int IntKind.i64 a1.snd.fst),
            PV.sc (Value.int IntKind.i64 a1.snd.snd.fst), PV.sc (Value.int IntKind.i64 a1.snd.snd.snd)]])) := by kernel_rfl
noncomputable abbrev d4lL (a0 : List Int) (a1 : Bool) (a2 : It) (a3 : List (Int × Int × Int × Int)) (a4 : Bool) (a5 : Int) (a6 : Int) := evRound Try.prog T1' (addCut 6 [7, 12, 13] [4] (entC k6c c6c) noCuts) 94 (loopOf (codeAt 4 (bodyF Try.f25))) k4c mu4c (killA 0 k4c) [1, 7, 48, 49, 50] [4] c4c ((a0, a1), (a2, ((a3, a4), (a5, (a6, ())))))
theorem d4l (a0 : List Int) (a1 : Bool) (a2 : It) (a3 : List (Int × Int × Int × Int)) (a4 : Bool) (a5 : Int) (a6 : Int) : d4lL a0 a1 a2 a3 a4 a5 a6 = (bif decide (a6 < a5) then
  guardB (decide (0 ≤ a6) && decide (a6 < (↑a3.length : Int)))
    (bindO a3[0 + a6.toNat]? fun x =>
      guardB (decide (0 ≤ a6) && decide (a6 < (↑a0.length : Int)))
        (bindO a0[0 + a6.toNat]? fun x_1 =>
          bif decide (x_1 < 0) then
            guardB
              (decide
                (mu4c
                    ((List.take a0.length a0, a1), a2, (List.take a3.length a3, a4), a5, IntKind.i64.wrap (a6 + 1),
                      PUnit.unit) <
                  mu4c ((a0, a1), a2, (a3, a4), a5, a6, ())))
              (guardB
                (bif decide (0 + a0.length ≤ a0.length) then
                  bif decide (0 + a3.length ≤ a3.length) then
                    pre4c (List.take a0.length a0) a2 (List.take a3.length a3) a5 (IntKind.i64.wrap (a6 + 1))
                  else false
                else false)
                (bif !prevV (List.take a3.length a3) (List.take a0.length a0) a2 (IntKind.i64.wrap (a6 + 1)).toNat then
                  some
                    (Xt.exit 4, [PV.undef],
                      [Blk.row false (Kd.int IntKind.i64) a0,
                        Blk.fix false
                          [PV.sc (Value.int IntKind.i64 a2.fst), PV.sc (Value.int IntKind.i64 a2.snd.fst),
                            PV.sc (Value.int IntKind.i64 a2.snd.snd.fst), PV.sc (Value.int IntKind.i64 a2.snd.snd.snd)],
                        Blk.row false
                          ((Kd.int IntKind.i64).pair
                            ((Kd.int IntKind.i64).pair ((Kd.int IntKind.i64).pair (Kd.int IntKind.i64))))
                          a3])
                else
                  some
                    (Xt.ret, [PV.sc (Value.bool false)],
                      [Blk.row false (Kd.int IntKind.i64) a0,
                        Blk.fix false
                          [PV.sc (Value.int IntKind.i64 a2.fst), PV.sc (Value.int IntKind.i64 a2.snd.fst),
                            PV.sc (Value.int IntKind.i64 a2.snd.snd.fst), PV.sc (Value.int IntKind.i64 a2.snd.snd.snd)],
                        Blk.row false
                          ((Kd.int IntKind.i64).pair
                            ((Kd.int IntKind.i64).pair ((Kd.int IntKind.i64).pair (Kd.int IntKind.i64))))
                          a3])))
          else
            guardB (decide (0 ≤ a6) && decide (a6 < (↑a0.length : Int)))
              (bindO a0[0 + a6.toNat]? fun x_2 =>
                guardB (decide (0 ≤ x_2 ∧ x_2 ≤ 7))
                  (guardB (pre6c a2 a2.snd.fst)
                    (bif !rowV a2 (boxX x x_2, boxY x x_2, x.snd.snd) a2.snd.fst then
                      guardB
                        (decide
                          (mu4c
                              ((List.take a0.length a0, a1), a2, (List.take a3.length a3, a4), a5,
                                IntKind.i64.wrap (a6 + 1), PUnit.unit) <
                            mu4c ((a0, a1), a2, (a3, a4), a5, a6, ())))
                        (guardB
                          (bif decide (0 + a0.length ≤ a0.length) then
                            bif decide (0 + a3.length ≤ a3.length) then
                              pre4c (List.take a0.length a0) a2 (List.take a3.length a3) a5 (IntKind.i64.wrap (a6 + 1))
                            else false
                          else false)
                          (bif
                              !prevV (List.take a3.length a3) (List.take a0.length a0) a2
                                  (IntKind.i64.wrap (a6 + 1)).toNat then
                            some
                              (Xt.exit 4, [PV.undef],
                                [Blk.row false (Kd.int IntKind.i64) a0,
                                  Blk.fix false
                                    [PV.sc (Value.int IntKind.i64 a2.fst), PV.sc (Value.int IntKind.i64 a2.snd.fst),
                                      PV.sc (Value.int IntKind.i64 a2.snd.snd.fst),
                                      PV.sc (Value.int IntKind.i64 a2.snd.snd.snd)],
                                  Blk.row false
                                    ((Kd.int IntKind.i64).pair
                                      ((Kd.int IntKind.i64).pair ((Kd.int IntKind.i64).pair (Kd.int IntKind.i64))))
                                    a3])
                          else
                            some
                              (Xt.ret, [PV.sc (Value.bool false)],
                                [Blk.row false (Kd.int IntKind.i64) a0,
                                  Blk.fix false
                                    [PV.sc (Value.int IntKind.i64 a2.fst), PV.sc (Value.int IntKind.i64 a2.snd.fst),
                                      PV.sc (Value.int IntKind.i64 a2.snd.snd.fst),
                                      PV.sc (Value.int IntKind.i64 a2.snd.snd.snd)],
                                  Blk.row false
                                    ((Kd.int IntKind.i64).pair
                                      ((Kd.int IntKind.i64).pair ((Kd.int IntKind.i64).pair (Kd.int IntKind.i64))))
                                    a3])))
                    else
                      some
                        (Xt.ret, [PV.sc (Value.bool false)],
                          [Blk.row false (Kd.int IntKind.i64) a0,
                            Blk.fix false
                              [PV.sc (Value.int IntKind.i64 a2.fst), PV.sc (Value.int IntKind.i64 a2.snd.fst),
                                PV.sc (Value.int IntKind.i64 a2.snd.snd.fst),
                                PV.sc (Value.int IntKind.i64 a2.snd.snd.snd)],
                            Blk.row false
                              ((Kd.int IntKind.i64).pair
                                ((Kd.int IntKind.i64).pair ((Kd.int IntKind.i64).pair (Kd.int IntKind.i64))))
                              a3]))))))
else
  some
    (Xt.exit 4, [PV.undef],
      [Blk.row false (Kd.int IntKind.i64) a0,
        Blk.fix false
          [PV.sc (Value.int IntKind.i64 a2.fst), PV.sc (Value.int IntKind.i64 a2.snd.fst),
            PV.sc (Value.int IntKind.i64 a2.snd.snd.fst), PV.sc (Value.int IntKind.i64 a2.snd.snd.snd)],
        Blk.row false
          ((Kd.int IntKind.i64).pair ((Kd.int IntKind.i64).pair ((Kd.int IntKind.i64).pair (Kd.int IntKind.i64)))) a3])) := by kernel_rfl
noncomputable abbrev d2lL (a0 : It) (a1 : List (Int × Int × Int × Int)) (a2 : Bool) (a3 : Int) (a4 : Int) := evRound Try.prog T1' noCuts 94 (loopOf (codeAt 2 (bodyF Try.f25))) k2c mu2c (killA 0 k2c) [7, 33, 34, 35] [4] c2c (a0, ((a1, a2), (a3, (a4, ()))))
theorem d2l (a0 : It) (a1 : List (Int × Int × Int × Int)) (a2 : Bool) (a3 : Int) (a4 : Int) : d2lL a0 a1 a2 a3 a4 = (bif decide (a4 < a3) then
  guardB (decide (0 ≤ a4) && decide (a4 < (↑a1.length : Int)))
    (bindO a1[0 + a4.toNat]? fun x =>
      bif inW a0 x.fst x.snd.fst then
        some
          (Xt.ret, [PV.sc (Value.bool false)],
            [Blk.fix false
                [PV.sc (Value.int IntKind.i64 a0.fst), PV.sc (Value.int IntKind.i64 a0.snd.fst),
                  PV.sc (Value.int IntKind.i64 a0.snd.snd.fst), PV.sc (Value.int IntKind.i64 a0.snd.snd.snd)],
              Blk.row false
                ((Kd.int IntKind.i64).pair ((Kd.int IntKind.i64).pair ((Kd.int IntKind.i64).pair (Kd.int IntKind.i64))))
                a1])
      else
        guardB
          (decide
            (mu2c (a0, (List.take a1.length a1, a2), a3, IntKind.i64.wrap (a4 + 1), PUnit.unit) <
              mu2c (a0, (a1, a2), a3, a4, ())))
          (guardB
            (bif decide (0 + a1.length ≤ a1.length) then preFi (List.take a1.length a1) a3 (IntKind.i64.wrap (a4 + 1))
            else false)
            (bif !insV a0 (List.take a1.length a1) (IntKind.i64.wrap (a4 + 1)).toNat then
              some
                (Xt.exit 2, [PV.undef],
                  [Blk.fix false
                      [PV.sc (Value.int IntKind.i64 a0.fst), PV.sc (Value.int IntKind.i64 a0.snd.fst),
                        PV.sc (Value.int IntKind.i64 a0.snd.snd.fst), PV.sc (Value.int IntKind.i64 a0.snd.snd.snd)],
                    Blk.row false
                      ((Kd.int IntKind.i64).pair
                        ((Kd.int IntKind.i64).pair ((Kd.int IntKind.i64).pair (Kd.int IntKind.i64))))
                      a1])
            else
              some
                (Xt.ret, [PV.sc (Value.bool false)],
                  [Blk.fix false
                      [PV.sc (Value.int IntKind.i64 a0.fst), PV.sc (Value.int IntKind.i64 a0.snd.fst),
                        PV.sc (Value.int IntKind.i64 a0.snd.snd.fst), PV.sc (Value.int IntKind.i64 a0.snd.snd.snd)],
                    Blk.row false
                      ((Kd.int IntKind.i64).pair
                        ((Kd.int IntKind.i64).pair ((Kd.int IntKind.i64).pair (Kd.int IntKind.i64))))
                      a1]))))
else
  some
    (Xt.exit 2, [PV.undef],
      [Blk.fix false
          [PV.sc (Value.int IntKind.i64 a0.fst), PV.sc (Value.int IntKind.i64 a0.snd.fst),
            PV.sc (Value.int IntKind.i64 a0.snd.snd.fst), PV.sc (Value.int IntKind.i64 a0.snd.snd.snd)],
        Blk.row false
          ((Kd.int IntKind.i64).pair ((Kd.int IntKind.i64).pair ((Kd.int IntKind.i64).pair (Kd.int IntKind.i64)))) a1])) := by kernel_rfl
noncomputable abbrev d0lL (a0 : List (Int × Int × Int × Int)) (a1 : Bool) (a2 : List Int) (a3 : Bool) (a4 : List (Int × Int × Int × Int)) (a5 : Bool) (a6 : Int) (a7 : Int) := evRound Try.prog T1' (addCut 2 [7, 33, 34, 35] [4] (entC k2c c2c) (addCut 4 [1, 7, 48, 49, 50] [4] (entC k4c c4c) noCuts)) 94 (loopOf (codeAt 0 (bodyF Try.f25))) k0c mu0c (killA 0 k0c) [0, 1, 15, 16, 17] [4] c0c ((a0, a1), ((a2, a3), ((a4, a5), (a6, (a7, ())))))
theorem d0l (a0 : List (Int × Int × Int × Int)) (a1 : Bool) (a2 : List Int) (a3 : Bool) (a4 : List (Int × Int × Int × Int)) (a5 : Bool) (a6 : Int) (a7 : Int) : d0lL a0 a1 a2 a3 a4 a5 a6 a7 = (bif decide (a7 < a6) then
  guardB (decide (0 ≤ a7) && decide (a7 < (↑a4.length : Int)))
    (bindO a4[0 + a7.toNat]? fun x =>
      guardB (decide (0 ≤ a7) && decide (a7 < (↑a2.length : Int)))
        (bindO a2[0 + a7.toNat]? fun x_1 =>
          bif decide (x_1 < 0) then
            guardB
              (decide
                (mu0c
                    ((List.take a0.length a0, a1), (List.take a2.length a2, a3), (List.take a4.length a4, a5), a6,
                      IntKind.i64.wrap (a7 + 1), PUnit.unit) <
                  mu0c ((a0, a1), (a2, a3), (a4, a5), a6, a7, ())))
              (guardB
                (bif decide (0 + a0.length ≤ a0.length) then
                  bif decide (0 + a2.length ≤ a2.length) then
                    bif decide (0 + a4.length ≤ a4.length) then
                      pre0c (List.take a0.length a0) (List.take a2.length a2) (List.take a4.length a4) a6
                        (IntKind.i64.wrap (a7 + 1))
                    else false
                  else false
                else false)
                (bif fitV (List.take a0.length a0) (List.take a2.length a2) (IntKind.i64.wrap (a7 + 1)).toNat then
                  some
                    (Xt.exit 0, [PV.undef],
                      [Blk.row false
                          ((Kd.int IntKind.i64).pair
                            ((Kd.int IntKind.i64).pair ((Kd.int IntKind.i64).pair (Kd.int IntKind.i64))))
                          a0,
                        Blk.row false (Kd.int IntKind.i64) a2,
                        Blk.row false
                          ((Kd.int IntKind.i64).pair
                            ((Kd.int IntKind.i64).pair ((Kd.int IntKind.i64).pair (Kd.int IntKind.i64))))
                          a4])
                else
                  some
                    (Xt.ret, [PV.sc (Value.bool false)],
                      [Blk.row false
                          ((Kd.int IntKind.i64).pair
                            ((Kd.int IntKind.i64).pair ((Kd.int IntKind.i64).pair (Kd.int IntKind.i64))))
                          a0,
                        Blk.row false (Kd.int IntKind.i64) a2,
                        Blk.row false
                          ((Kd.int IntKind.i64).pair
                            ((Kd.int IntKind.i64).pair ((Kd.int IntKind.i64).pair (Kd.int IntKind.i64))))
                          a4])))
          else
            guardB (decide (0 ≤ a7) && decide (a7 < (↑a2.length : Int)))
              (bindO a2[0 + a7.toNat]? fun x_2 =>
                guardB (decide (0 ≤ x_2 ∧ x_2 ≤ 7))
                  (guardB
                    (bif decide (0 + a0.length ≤ a0.length) then preFi (List.take a0.length a0) (↑a0.length : Int) 0
                    else false)
                    (bif !insV (boxX x x_2, boxY x x_2, x.snd.snd) (List.take a0.length a0) (Int.toNat 0) then
                      guardB (decide (0 ≤ a7) && decide (a7 ≤ (↑a0.length : Int)))
                        (guardB
                          (bif decide (0 + a2.length ≤ a2.length) then
                            bif decide (0 + (a7.toNat - 0) ≤ a0.length) then
                              pre4c (List.take a2.length a2) (boxX x x_2, boxY x x_2, x.snd.snd)
                                (List.take (a7.toNat - 0) a0) (↑(a7.toNat - 0) : Int) 0
                            else false
                          else false)
                          (bif
                              !prevV (List.take (a7.toNat - 0) a0) (List.take a2.length a2)
                                  (boxX x x_2, boxY x x_2, x.snd.snd) (Int.toNat 0) then
                            guardB
                              (decide
                                (mu0c
                                    ((List.take a0.length a0, a1), (List.take a2.length a2, a3),
                                      (List.take a4.length a4, a5), a6, IntKind.i64.wrap (a7 + 1), PUnit.unit) <
                                  mu0c ((a0, a1), (a2, a3), (a4, a5), a6, a7, ())))
                              (guardB
                                (bif decide (0 + a0.length ≤ a0.length) then
                                  bif decide (0 + a2.length ≤ a2.length) then
                                    bif decide (0 + a4.length ≤ a4.length) then
                                      pre0c (List.take a0.length a0) (List.take a2.length a2) (List.take a4.length a4)
                                        a6 (IntKind.i64.wrap (a7 + 1))
                                    else false
                                  else false
                                else false)
                                (bif
                                    fitV (List.take a0.length a0) (List.take a2.length a2)
                                      (IntKind.i64.wrap (a7 + 1)).toNat then
                                  some
                                    (Xt.exit 0, [PV.undef],
                                      [Blk.row false
                                          ((Kd.int IntKind.i64).pair
                                            ((Kd.int IntKind.i64).pair
                                              ((Kd.int IntKind.i64).pair (Kd.int IntKind.i64))))
                                          a0,
                                        Blk.row false (Kd.int IntKind.i64) a2,
                                        Blk.row false
                                          ((Kd.int IntKind.i64).pair
                                            ((Kd.int IntKind.i64).pair
                                              ((Kd.int IntKind.i64).pair (Kd.int IntKind.i64))))
                                          a4])
                                else
                                  some
                                    (Xt.ret, [PV.sc (Value.bool false)],
                                      [Blk.row false
                                          ((Kd.int IntKind.i64).pair
                                            ((Kd.int IntKind.i64).pair
                                              ((Kd.int IntKind.i64).pair (Kd.int IntKind.i64))))
                                          a0,
                                        Blk.row false (Kd.int IntKind.i64) a2,
                                        Blk.row false
                                          ((Kd.int IntKind.i64).pair
                                            ((Kd.int IntKind.i64).pair
                                              ((Kd.int IntKind.i64).pair (Kd.int IntKind.i64))))
                                          a4])))
                          else
                            some
                              (Xt.ret, [PV.sc (Value.bool false)],
                                [Blk.row false
                                    ((Kd.int IntKind.i64).pair
                                      ((Kd.int IntKind.i64).pair ((Kd.int IntKind.i64).pair (Kd.int IntKind.i64))))
                                    a0,
                                  Blk.row false (Kd.int IntKind.i64) a2,
                                  Blk.row false
                                    ((Kd.int IntKind.i64).pair
                                      ((Kd.int IntKind.i64).pair ((Kd.int IntKind.i64).pair (Kd.int IntKind.i64))))
                                    a4])))
                    else
                      some
                        (Xt.ret, [PV.sc (Value.bool false)],
                          [Blk.row false
                              ((Kd.int IntKind.i64).pair
                                ((Kd.int IntKind.i64).pair ((Kd.int IntKind.i64).pair (Kd.int IntKind.i64))))
                              a0,
                            Blk.row false (Kd.int IntKind.i64) a2,
                            Blk.row false
                              ((Kd.int IntKind.i64).pair
                                ((Kd.int IntKind.i64).pair ((Kd.int IntKind.i64).pair (Kd.int IntKind.i64))))
                              a4]))))))
else
  some
    (Xt.exit 0, [PV.undef],
      [Blk.row false
          ((Kd.int IntKind.i64).pair ((Kd.int IntKind.i64).pair ((Kd.int IntKind.i64).pair (Kd.int IntKind.i64)))) a0,
        Blk.row false (Kd.int IntKind.i64) a2,
        Blk.row false
          ((Kd.int IntKind.i64).pair ((Kd.int IntKind.i64).pair ((Kd.int IntKind.i64).pair (Kd.int IntKind.i64)))) a4])) := by kernel_rfl
noncomputable abbrev d25L (a0 : List (Int × Int × Int × Int)) (a1 : Bool) (a2 : List Int) (a3 : Bool) := evFuncV Try.prog T1' (addCut 0 [0, 1, 15, 16, 17] [4] (entC k0c c0c) noCuts) Try.f25 (killA 0 k25) (showA 0 k25 ((a0, a1), ((a2, a3), ()))).1 (showA 0 k25 ((a0, a1), ((a2, a3), ()))).2
theorem d25 (a0 : List (Int × Int × Int × Int)) (a1 : Bool) (a2 : List Int) (a3 : Bool) : d25L a0 a1 a2 a3 = (guardB
  (bif decide (0 + a0.length ≤ a0.length) then
    bif decide (0 + a2.length ≤ a2.length) then
      bif decide (0 + a0.length ≤ a0.length) then
        pre0c (List.take a0.length a0) (List.take a2.length a2) (List.take a0.length a0) (↑a0.length : Int) 0
      else false
    else false
  else false)
  (bif fitV (List.take a0.length a0) (List.take a2.length a2) (Int.toNat 0) then
    some
      (PV.sc (Value.bool true),
        [Blk.row false
            ((Kd.int IntKind.i64).pair ((Kd.int IntKind.i64).pair ((Kd.int IntKind.i64).pair (Kd.int IntKind.i64)))) a0,
          Blk.row false (Kd.int IntKind.i64) a2])
  else
    some
      (PV.sc (Value.bool false),
        [Blk.row false
            ((Kd.int IntKind.i64).pair ((Kd.int IntKind.i64).pair ((Kd.int IntKind.i64).pair (Kd.int IntKind.i64)))) a0,
          Blk.row false (Kd.int IntKind.i64) a2]))) := by kernel_rfl
noncomputable abbrev d75lL (d : Nat) (a0 : List (Int × Int × Int × Int)) (a1 : Bool) (a2 : List Int) (a3 : Bool) (a4 : List (Int × Int × Int × Int)) (a5 : Bool) (a6 : Int) (a7 : Int) := evRound Try.prog (T75 d) noCuts 56 (loopOf (codeAt 0 (bodyF Try.f75))) k75c mu75 (killA 0 k75c) [0, 1, 2, 7, 18] [6] (c75 d) ((a0, a1), ((a2, a3), ((a4, a5), (a6, (a7, ())))))
theorem d75l (d : Nat) (a0 : List (Int × Int × Int × Int)) (a1 : Bool) (a2 : List Int) (a3 : Bool) (a4 : List (Int × Int × Int × Int)) (a5 : Bool) (a6 : Int) (a7 : Int) : d75lL d a0 a1 a2 a3 a4 a5 a6 a7 = (bif decide (a7 < 8) then
  guardB (decide (0 ≤ a6) && decide (a6 < (↑a0.length : Int)))
    (bindO a0[0 + a6.toNat]? fun x =>
      guardB (bif decide (0 + a0.length ≤ a0.length) then decide ((List.take a0.length a0).length ≤ 1000) else false)
        (bif covS (boxX x a7, boxY x a7, x.snd.snd) (List.take a0.length a0) then
          guardB
            (decide
              (mu75
                  ((List.take a0.length a0, a1), (List.take a2.length a2, a3), (List.take a4.length a4, a5), a6,
                    IntKind.i64.wrap (a7 + 1), PUnit.unit) <
                mu75 ((a0, a1), (a2, a3), (a4, a5), a6, a7, ())))
            (guardB
              (bif decide (0 + a0.length ≤ a0.length) then
                bif decide (0 + a2.length ≤ a2.length) then
                  bif decide (0 + a4.length ≤ a4.length) then
                    pre75c d (List.take a0.length a0) (List.take a2.length a2) (List.take a4.length a4) a6
                      (IntKind.i64.wrap (a7 + 1))
                  else false
                else false
              else false)
              (bif
                  (tryV d (List.take a0.length a0) (List.take a2.length a2) (List.take a4.length a4)
                      (IntKind.i64.wrap (a7 + 1))).isNone then
                some
                  (Xt.exit 0, [PV.undef],
                    [Blk.row false
                        ((Kd.int IntKind.i64).pair
                          ((Kd.int IntKind.i64).pair ((Kd.int IntKind.i64).pair (Kd.int IntKind.i64))))
                        a0,
                      Blk.row false (Kd.int IntKind.i64) a2,
                      Blk.row false
                        ((Kd.int IntKind.i64).pair
                          ((Kd.int IntKind.i64).pair ((Kd.int IntKind.i64).pair (Kd.int IntKind.i64))))
                        a4])
              else
                some
                  (Xt.ret,
                    [PV.sl 3 0 1
                        ((tryV d (List.take a0.length a0) (List.take a2.length a2) (List.take a4.length a4)
                                (IntKind.i64.wrap (a7 + 1))).getD
                            []).length
                        ((tryV d (List.take a0.length a0) (List.take a2.length a2) (List.take a4.length a4)
                                (IntKind.i64.wrap (a7 + 1))).getD
                            []).length
                        false false],
                    [Blk.row false
                        ((Kd.int IntKind.i64).pair
                          ((Kd.int IntKind.i64).pair ((Kd.int IntKind.i64).pair (Kd.int IntKind.i64))))
                        a0,
                      Blk.row false (Kd.int IntKind.i64) a2,
                      Blk.row false
                        ((Kd.int IntKind.i64).pair
                          ((Kd.int IntKind.i64).pair ((Kd.int IntKind.i64).pair (Kd.int IntKind.i64))))
                        a4,
                      Blk.row true (Kd.int IntKind.i64)
                        ((tryV d (List.take a0.length a0) (List.take a2.length a2) (List.take a4.length a4)
                              (IntKind.i64.wrap (a7 + 1))).getD
                          [])])))
        else
          guardB
            (bif decide (0 + a4.length ≤ a4.length) then decide ((List.take a4.length a4).length ≤ 1000) else false)
            (bif !freeS (boxX x a7, boxY x a7, x.snd.snd) (List.take a4.length a4) then
              guardB
                (decide
                  (mu75
                      ((List.take a0.length a0, a1), (List.take a2.length a2, a3), (List.take a4.length a4, a5), a6,
                        IntKind.i64.wrap (a7 + 1), PUnit.unit) <
                    mu75 ((a0, a1), (a2, a3), (a4, a5), a6, a7, ())))
                (guardB
                  (bif decide (0 + a0.length ≤ a0.length) then
                    bif decide (0 + a2.length ≤ a2.length) then
                      bif decide (0 + a4.length ≤ a4.length) then
                        pre75c d (List.take a0.length a0) (List.take a2.length a2) (List.take a4.length a4) a6
                          (IntKind.i64.wrap (a7 + 1))
                      else false
                    else false
                  else false)
                  (bif
                      (tryV d (List.take a0.length a0) (List.take a2.length a2) (List.take a4.length a4)
                          (IntKind.i64.wrap (a7 + 1))).isNone then
                    some
                      (Xt.exit 0, [PV.undef],
                        [Blk.row false
                            ((Kd.int IntKind.i64).pair
                              ((Kd.int IntKind.i64).pair ((Kd.int IntKind.i64).pair (Kd.int IntKind.i64))))
                            a0,
                          Blk.row false (Kd.int IntKind.i64) a2,
                          Blk.row false
                            ((Kd.int IntKind.i64).pair
                              ((Kd.int IntKind.i64).pair ((Kd.int IntKind.i64).pair (Kd.int IntKind.i64))))
                            a4])
                  else
                    some
                      (Xt.ret,
                        [PV.sl 3 0 1
                            ((tryV d (List.take a0.length a0) (List.take a2.length a2) (List.take a4.length a4)
                                    (IntKind.i64.wrap (a7 + 1))).getD
                                []).length
                            ((tryV d (List.take a0.length a0) (List.take a2.length a2) (List.take a4.length a4)
                                    (IntKind.i64.wrap (a7 + 1))).getD
                                []).length
                            false false],
                        [Blk.row false
                            ((Kd.int IntKind.i64).pair
                              ((Kd.int IntKind.i64).pair ((Kd.int IntKind.i64).pair (Kd.int IntKind.i64))))
                            a0,
                          Blk.row false (Kd.int IntKind.i64) a2,
                          Blk.row false
                            ((Kd.int IntKind.i64).pair
                              ((Kd.int IntKind.i64).pair ((Kd.int IntKind.i64).pair (Kd.int IntKind.i64))))
                            a4,
                          Blk.row true (Kd.int IntKind.i64)
                            ((tryV d (List.take a0.length a0) (List.take a2.length a2) (List.take a4.length a4)
                                  (IntKind.i64.wrap (a7 + 1))).getD
                              [])])))
            else
              guardB (decide (0 ≤ a6) && decide (a6 ≤ a6) && decide (a6 ≤ (↑a2.length : Int)))
                (guardB
                  (decide (0 + (a6.toNat - 0) ≤ a2.length) && true &&
                      decide ((a6.toNat - 0 + 1) * 8 ≤ 140737488355328) &&
                    decide (a6.toNat - 0 + 1 ≤ 4611686018427387904))
                  (bif decide (a6 = a6) && true then
                    guardB (decide (0 ≤ a6) && decide (a6 ≤ a6) && decide (a6 ≤ (↑a4.length : Int)))
                      (guardB
                        (decide (0 + (a6.toNat - 0) ≤ a4.length) && true &&
                            decide ((a6.toNat - 0 + 1) * 32 ≤ 140737488355328) &&
                          decide (a6.toNat - 0 + 1 ≤ 4611686018427387904))
                        (bif decide (a6 = a6) && true then
                          guardB
                            (bif decide (0 + a0.length ≤ a0.length) then
                              bif decide (0 + (a6.toNat - 0 + 1) ≤ (List.take (a6.toNat - 0) a2 ++ [a7]).length) then
                                bif
                                    decide
                                      (0 + (a6.toNat - 0 + 1) ≤
                                        (List.take (a6.toNat - 0) a4 ++
                                            [(boxX x a7, boxY x a7, x.snd.snd)]).length) then
                                  pre75 d (List.take a0.length a0)
                                    (List.take (a6.toNat - 0 + 1) (List.take (a6.toNat - 0) a2 ++ [a7]))
                                    (List.take (a6.toNat - 0 + 1)
                                      (List.take (a6.toNat - 0) a4 ++ [(boxX x a7, boxY x a7, x.snd.snd)]))
                                else false
                              else false
                            else false)
                            (bif
                                decide
                                  ((List.take (a6.toNat - 0 + 1) (List.take (a6.toNat - 0) a2 ++ [a7])).length =
                                    (List.take a0.length a0).length) then
                              some
                                (Xt.ret,
                                  [PV.sl 3 0 1
                                      (List.take (a6.toNat - 0 + 1) (List.take (a6.toNat - 0) a2 ++ [a7])).length
                                      (List.take (a6.toNat - 0 + 1) (List.take (a6.toNat - 0) a2 ++ [a7])).length false
                                      false],
                                  [Blk.row false
                                      ((Kd.int IntKind.i64).pair
                                        ((Kd.int IntKind.i64).pair ((Kd.int IntKind.i64).pair (Kd.int IntKind.i64))))
                                      a0,
                                    Blk.row false (Kd.int IntKind.i64) a2,
                                    Blk.row false
                                      ((Kd.int IntKind.i64).pair
                                        ((Kd.int IntKind.i64).pair ((Kd.int IntKind.i64).pair (Kd.int IntKind.i64))))
                                      a4,
                                    Blk.row true (Kd.int IntKind.i64) (List.take (a6.toNat - 0) a2 ++ [a7])])
                            else
                              bif
                                  (srch (List.take a0.length a0) d
                                      (List.take (a6.toNat - 0 + 1) (List.take (a6.toNat - 0) a2 ++ [a7]))
                                      (List.take (a6.toNat - 0 + 1)
                                        (List.take (a6.toNat - 0) a4 ++
                                          [(boxX x a7, boxY x a7, x.snd.snd)]))).isSome then
                                some
                                  (Xt.ret,
                                    [PV.sl 3 0 1
                                        ((srch (List.take a0.length a0) d
                                                (List.take (a6.toNat - 0 + 1) (List.take (a6.toNat - 0) a2 ++ [a7]))
                                                (List.take (a6.toNat - 0 + 1)
                                                  (List.take (a6.toNat - 0) a4 ++
                                                    [(boxX x a7, boxY x a7, x.snd.snd)]))).getD
                                            []).length
                                        ((srch (List.take a0.length a0) d
                                                (List.take (a6.toNat - 0 + 1) (List.take (a6.toNat - 0) a2 ++ [a7]))
                                                (List.take (a6.toNat - 0 + 1)
                                                  (List.take (a6.toNat - 0) a4 ++
                                                    [(boxX x a7, boxY x a7, x.snd.snd)]))).getD
                                            []).length
                                        false false],
                                    [Blk.row false
                                        ((Kd.int IntKind.i64).pair
                                          ((Kd.int IntKind.i64).pair ((Kd.int IntKind.i64).pair (Kd.int IntKind.i64))))
                                        a0,
                                      Blk.row false (Kd.int IntKind.i64) a2,
                                      Blk.row false
                                        ((Kd.int IntKind.i64).pair
                                          ((Kd.int IntKind.i64).pair ((Kd.int IntKind.i64).pair (Kd.int IntKind.i64))))
                                        a4,
                                      Blk.row true (Kd.int IntKind.i64)
                                        ((srch (List.take a0.length a0) d
                                              (List.take (a6.toNat - 0 + 1) (List.take (a6.toNat - 0) a2 ++ [a7]))
                                              (List.take (a6.toNat - 0 + 1)
                                                (List.take (a6.toNat - 0) a4 ++
                                                  [(boxX x a7, boxY x a7, x.snd.snd)]))).getD
                                          [])])
                              else
                                guardB
                                  (decide
                                    (mu75
                                        ((List.take a0.length a0, a1), (List.take a2.length a2, a3),
                                          (List.take a4.length a4, a5), a6, IntKind.i64.wrap (a7 + 1), PUnit.unit) <
                                      mu75 ((a0, a1), (a2, a3), (a4, a5), a6, a7, ())))
                                  (guardB
                                    (bif decide (0 + a0.length ≤ a0.length) then
                                      bif decide (0 + a2.length ≤ a2.length) then
                                        bif decide (0 + a4.length ≤ a4.length) then
                                          pre75c d (List.take a0.length a0) (List.take a2.length a2)
                                            (List.take a4.length a4) a6 (IntKind.i64.wrap (a7 + 1))
                                        else false
                                      else false
                                    else false)
                                    (bif
                                        (tryV d (List.take a0.length a0) (List.take a2.length a2)
                                            (List.take a4.length a4) (IntKind.i64.wrap (a7 + 1))).isNone then
                                      some
                                        (Xt.exit 0, [PV.undef],
                                          [Blk.row false
                                              ((Kd.int IntKind.i64).pair
                                                ((Kd.int IntKind.i64).pair
                                                  ((Kd.int IntKind.i64).pair (Kd.int IntKind.i64))))
                                              a0,
                                            Blk.row false (Kd.int IntKind.i64) a2,
                                            Blk.row false
                                              ((Kd.int IntKind.i64).pair
                                                ((Kd.int IntKind.i64).pair
                                                  ((Kd.int IntKind.i64).pair (Kd.int IntKind.i64))))
                                              a4])
                                    else
                                      some
                                        (Xt.ret,
                                          [PV.sl 3 0 1
                                              ((tryV d (List.take a0.length a0) (List.take a2.length a2)
                                                      (List.take a4.length a4) (IntKind.i64.wrap (a7 + 1))).getD
                                                  []).length
                                              ((tryV d (List.take a0.length a0) (List.take a2.length a2)
                                                      (List.take a4.length a4) (IntKind.i64.wrap (a7 + 1))).getD
                                                  []).length
                                              false false],
                                          [Blk.row false
                                              ((Kd.int IntKind.i64).pair
                                                ((Kd.int IntKind.i64).pair
                                                  ((Kd.int IntKind.i64).pair (Kd.int IntKind.i64))))
                                              a0,
                                            Blk.row false (Kd.int IntKind.i64) a2,
                                            Blk.row false
                                              ((Kd.int IntKind.i64).pair
                                                ((Kd.int IntKind.i64).pair
                                                  ((Kd.int IntKind.i64).pair (Kd.int IntKind.i64))))
                                              a4,
                                            Blk.row true (Kd.int IntKind.i64)
                                              ((tryV d (List.take a0.length a0) (List.take a2.length a2)
                                                    (List.take a4.length a4) (IntKind.i64.wrap (a7 + 1))).getD
                                                [])]))))
                        else none))
                  else none)))))
else
  some
    (Xt.exit 0, [PV.undef],
      [Blk.row false
          ((Kd.int IntKind.i64).pair ((Kd.int IntKind.i64).pair ((Kd.int IntKind.i64).pair (Kd.int IntKind.i64)))) a0,
        Blk.row false (Kd.int IntKind.i64) a2,
        Blk.row false
          ((Kd.int IntKind.i64).pair ((Kd.int IntKind.i64).pair ((Kd.int IntKind.i64).pair (Kd.int IntKind.i64)))) a4])) := by kernel_rfl
noncomputable abbrev d75L (d : Nat) (a0 : List (Int × Int × Int × Int)) (a1 : Bool) (a2 : List Int) (a3 : Bool) (a4 : List (Int × Int × Int × Int)) (a5 : Bool) := evFuncV Try.prog (T75 d) (addCut 0 [0, 1, 2, 7, 18] [6] (entC k75c (c75 d)) noCuts) Try.f75 (killA 0 k75) (showA 0 k75 ((a0, a1), ((a2, a3), ((a4, a5), ())))).1 (showA 0 k75 ((a0, a1), ((a2, a3), ((a4, a5), ())))).2
theorem d75 (d : Nat) (a0 : List (Int × Int × Int × Int)) (a1 : Bool) (a2 : List Int) (a3 : Bool) (a4 : List (Int × Int × Int × Int)) (a5 : Bool) : d75L d a0 a1 a2 a3 a4 a5 = (bif (↑a2.length : Int) == (↑a0.length : Int) then
  some
    (PV.sl 1 0 1 a2.length a2.length false a3,
      [Blk.row false
          ((Kd.int IntKind.i64).pair ((Kd.int IntKind.i64).pair ((Kd.int IntKind.i64).pair (Kd.int IntKind.i64)))) a0,
        Blk.row false (Kd.int IntKind.i64) a2,
        Blk.row false
          ((Kd.int IntKind.i64).pair ((Kd.int IntKind.i64).pair ((Kd.int IntKind.i64).pair (Kd.int IntKind.i64)))) a4])
else
  guardB
    (bif decide (0 + a0.length ≤ a0.length) then
      bif decide (0 + a2.length ≤ a2.length) then
        bif decide (0 + a4.length ≤ a4.length) then
          pre75c d (List.take a0.length a0) (List.take a2.length a2) (List.take a4.length a4) (↑a2.length : Int) 0
        else false
      else false
    else false)
    (bif (tryV d (List.take a0.length a0) (List.take a2.length a2) (List.take a4.length a4) 0).isNone then
      some
        (PV.sc (Value.slice none 0 0),
          [Blk.row false
              ((Kd.int IntKind.i64).pair ((Kd.int IntKind.i64).pair ((Kd.int IntKind.i64).pair (Kd.int IntKind.i64))))
              a0,
            Blk.row false (Kd.int IntKind.i64) a2,
            Blk.row false
              ((Kd.int IntKind.i64).pair ((Kd.int IntKind.i64).pair ((Kd.int IntKind.i64).pair (Kd.int IntKind.i64))))
              a4])
    else
      some
        (PV.sl 3 0 1
            ((tryV d (List.take a0.length a0) (List.take a2.length a2) (List.take a4.length a4) 0).getD []).length
            ((tryV d (List.take a0.length a0) (List.take a2.length a2) (List.take a4.length a4) 0).getD []).length false
            false,
          [Blk.row false
              ((Kd.int IntKind.i64).pair ((Kd.int IntKind.i64).pair ((Kd.int IntKind.i64).pair (Kd.int IntKind.i64))))
              a0,
            Blk.row false (Kd.int IntKind.i64) a2,
            Blk.row false
              ((Kd.int IntKind.i64).pair ((Kd.int IntKind.i64).pair ((Kd.int IntKind.i64).pair (Kd.int IntKind.i64))))
              a4,
            Blk.row true (Kd.int IntKind.i64)
              ((tryV d (List.take a0.length a0) (List.take a2.length a2) (List.take a4.length a4) 0).getD [])]))) := by kernel_rfl
noncomputable abbrev d15L (a0 : List (Int × Int × Int × Int)) (a1 : Bool) := evFuncV Try.prog T15b noCuts Try.f15 (killA 0 [rIt]) (showA 0 [rIt] ((a0, a1), ())).1 (showA 0 [rIt] ((a0, a1), ())).2
theorem d15 (a0 : List (Int × Int × Int × Int)) (a1 : Bool) : d15L a0 a1 = (guardB (bif decide (0 + a0.length ≤ a0.length) then true else false)
  (bif chkL (List.take a0.length a0) != 0 then
    some
      (PV.tup [PV.sc (Value.slice none 0 0), PV.sc (Value.int IntKind.i64 (chkL (List.take a0.length a0)))],
        [Blk.row false
            ((Kd.int IntKind.i64).pair ((Kd.int IntKind.i64).pair ((Kd.int IntKind.i64).pair (Kd.int IntKind.i64))))
            a0])
  else
    bif decide ((↑a0.length : Int) > 6) then
      some
        (PV.tup [PV.sc (Value.slice none 0 0), PV.sc (Value.int IntKind.i64 2)],
          [Blk.row false
              ((Kd.int IntKind.i64).pair ((Kd.int IntKind.i64).pair ((Kd.int IntKind.i64).pair (Kd.int IntKind.i64))))
              a0])
    else
      bif (↑a0.length : Int) == 0 then
        some
          (PV.tup [PV.sc (Value.slice none 0 0), PV.sc (Value.int IntKind.i64 0)],
            [Blk.row false
                ((Kd.int IntKind.i64).pair ((Kd.int IntKind.i64).pair ((Kd.int IntKind.i64).pair (Kd.int IntKind.i64))))
                a0])
      else
        guardB (bif decide (0 + a0.length ≤ a0.length) then pre75 7 (List.take a0.length a0) [] [] else false)
          (bif decide (([] : List Int).length = (List.take a0.length a0).length) then none
          else
            bif (srch (List.take a0.length a0) 7 [] []).isSome then
              some
                (PV.tup
                    [PV.sl 1 0 1 ((srch (List.take a0.length a0) 7 [] []).getD []).length
                        ((srch (List.take a0.length a0) 7 [] []).getD []).length false false,
                      PV.sc (Value.int IntKind.i64 0)],
                  [Blk.row false
                      ((Kd.int IntKind.i64).pair
                        ((Kd.int IntKind.i64).pair ((Kd.int IntKind.i64).pair (Kd.int IntKind.i64))))
                      a0,
                    Blk.row true (Kd.int IntKind.i64) ((srch (List.take a0.length a0) 7 [] []).getD [])])
            else
              some
                (PV.tup [PV.sc (Value.slice none 0 0), PV.sc (Value.int IntKind.i64 8)],
                  [Blk.row false
                      ((Kd.int IntKind.i64).pair
                        ((Kd.int IntKind.i64).pair ((Kd.int IntKind.i64).pair (Kd.int IntKind.i64))))
                      a0])))) := by kernel_rfl
theorem cut_at {P : Program} {N id : Nat} {ins outs : List Nat} {ent : CutEnt} {cuts : Cuts} {c c' : Code} (h1 : oneCode id c = true) (h2 : codeAt id c = c') (h : CutOK P N c' ins outs ent) (hC : CutsOK P N cuts c) : CutsOK P N (addCut id ins outs ent cuts) c :=
  cut_cons h1 (h2 ▸ h) hC
def PB (b : It) : Blk := .fix false [.sc (.int .i64 b.1), .sc (.int .i64 b.2.1), .sc (.int .i64 b.2.2.1), .sc (.int .i64 b.2.2.2)]
theorem col_step {b c : It} {row x : Int} (h : x < b.1 + b.2.2.1) : colV b c row x = (inW c x row || colV b c row (x + 1)) := by
  unfold colV
  rw [show (b.1 + b.2.2.1 - x).toNat = (b.1 + b.2.2.1 - (x + 1)).toNat + 1 by omega]
  rfl
theorem col_end {b c : It} {row x : Int} (h : ¬ x < b.1 + b.2.2.1) : colV b c row x = false := by
  unfold colV; rw [show (b.1 + b.2.2.1 - x).toNat = 0 by omega]; rfl
theorem p8l (b c : It) (row x : Int) (h : pre8c b x = true) : d8lL b c row x = cond (!colV b c row x) (some (.exit 8, [.undef], [PB b, PB c])) (some (.ret, [.sc (.bool false)], [PB b, PB c])) := by
  obtain ⟨⟨g1, g2, g3, g4, g5, g6, g7, g8⟩, h1⟩ := bp_true.1 h
  have h1 : @LE.le Int _ b.1 x := h1
  rw [d8l]
  have hw : IntKind.i64.wrap (b.1 + b.2.2.1) = b.1 + b.2.2.1 := W_id _ (by omega) (by omega)
  rw [hw]
  refine cond_split (fun hk => ?_) (fun hk => ?_)
  · have hk := of_decide_eq_true hk
    rw [col_step hk]
    have hw1 : IntKind.i64.wrap (x + 1) = x + 1 := W_id _ (by omega) (by omega)
    rw [hw1]
    refine cond_split (fun hc => by rw [hc]; rfl) (fun hc => ?_)
    rw [hc, Bool.false_or]
    refine guard_split (decide_eq_true ?_) (guard_split (bp_mk ⟨⟨g1, g2, g3, g4, g5, g6, g7, g8⟩, show @LE.le Int _ b.1 (x + 1) by omega⟩) rfl)
    show (b.1 + b.2.2.1 - (x + 1)).toNat < (b.1 + b.2.2.1 - x).toNat
    omega
  · rw [col_end (of_decide_eq_false hk)]; rfl
theorem row_step {b c : It} {y : Int} (h : y < b.2.1 + b.2.2.2) : rowV b c y = (colV b c y b.1 || rowV b c (y + 1)) := by
  unfold rowV
  rw [show (b.2.1 + b.2.2.2 - y).toNat = (b.2.1 + b.2.2.2 - (y + 1)).toNat + 1 by omega]
  rfl
theorem row_end {b c : It} {y : Int} (h : ¬ y < b.2.1 + b.2.2.2) : rowV b c y = false := by
  unfold rowV; rw [show (b.2.1 + b.2.2.2 - y).toNat = 0 by omega]; rfl
theorem p6l (b c : It) (y : Int) (h : pre6c b y = true) : d6lL b c y = cond (!rowV b c y) (some (.exit 6, [.undef], [PB b, PB c])) (some (.ret, [.sc (.bool false)], [PB b, PB c])) := by
  obtain ⟨⟨g1, g2, g3, g4, g5, g6, g7, g8⟩, h1⟩ := bp_true.1 h
  have h1 : @LE.le Int _ b.2.1 y := h1
  rw [d6l]
  have hw : IntKind.i64.wrap (b.2.1 + b.2.2.2) = b.2.1 + b.2.2.2 := W_id _ (by omega) (by omega)
  rw [hw]
  refine cond_split (fun hk => ?_) (fun hk => ?_)
  · have hk := of_decide_eq_true hk
    rw [row_step hk]
    have hw1 : IntKind.i64.wrap (y + 1) = y + 1 := W_id _ (by omega) (by omega)
    rw [hw1]
    refine guard_split (bp_mk ⟨⟨g1, g2, g3, g4, g5, g6, g7, g8⟩, Int.le_refl _⟩) ?_
    cases colV b c y b.1 with
    | true => rfl
    | false =>
      refine guard_split (decide_eq_true ?_) (guard_split (bp_mk ⟨⟨g1, g2, g3, g4, g5, g6, g7, g8⟩, show @LE.le Int _ b.2.1 (y + 1) by omega⟩) rfl)
      show (b.2.1 + b.2.2.2 - (y + 1)).toNat < (b.2.1 + b.2.2.2 - y).toNat
      omega
  · rw [row_end (of_decide_eq_false hk)]; rfl
theorem atI_of {l : List It} {k : Nat} {x : It} (h : l[k]? = some x) : atI l k = x := by unfold atI; rw [List.getD, h]; rfl
theorem getD_of {l : List Int} {k : Nat} {x : Int} (h : l[k]? = some x) : l.getD k 0 = x := by rw [List.getD, h]; rfl
theorem prev_step {l : List It} {sp : List Int} {b : It} {k : Nat} (h : k < l.length) : prevV l sp b k = ((!decide (sp.getD k 0 < 0) && meets b (boxS (atI l k) (sp.getD k 0))) || prevV l sp b (k + 1)) := by
  unfold prevV
  rw [show l.length - k = (l.length - (k + 1)) + 1 by omega]
  rfl
theorem prev_end {l : List It} {sp : List Int} {b : It} {k : Nat} (h : ¬ k < l.length) : prevV l sp b k = false := by
  unfold prevV; rw [show l.length - k = 0 by omega]; rfl
theorem p4l (sp : List Int) (sn : Bool) (b : It) (l : List It) (nl : Bool) (n k : Int) (h : pre4c sp b l n k = true) : d4lL sp sn b l nl n k = cond (!prevV l sp b k.toNat) (some (.exit 4, [.undef], [.row false I sp, PB b, .row false kIt l])) (some (.ret, [.sc (.bool false)], [.row false I sp, PB b, .row false kIt l])) := by
  obtain ⟨hb, h1, h2, h3, h4, h5, h6⟩ := bp_true.1 h
  rw [d4l]
  simp only [List.take_length, Nat.zero_add, len_true, cond_true]
  refine cond_split (fun hk => ?_) (fun hk => ?_)
  · have hk := of_decide_eq_true hk
    obtain ⟨x, hx⟩ := get_ex (l := l) (k := k.toNat) (by omega)
    obtain ⟨s, hs⟩ := get_ex (l := sp) (k := k.toNat) (by omega)
    have hsn := h6 s (List.mem_of_getElem? hs)
    have hw : IntKind.i64.wrap (k + 1) = k + 1 := W_id _ (by omega) (by omega)
    rw [hx, hs, prev_step (k := k.toNat) (by omega), atI_of hx, getD_of hs, hw]
    refine guard_split (by simp; omega) ?_
    simp only [bindO]
    refine guard_split (by simp; omega) ?_
    rw [decide_eq_false (show ¬ s < 0 by omega)]
    simp only [cond_false]
    refine guard_split (by simp; omega) (guard_split (decide_eq_true hsn) (guard_split (bp_mk ⟨hb, Int.le_refl _⟩) ?_))
    change cond (!meets b (boxS x s)) _ _ = _
    cases meets b (boxS x s) with
    | true => rfl
    | false =>
      rw [show (k + 1).toNat = k.toNat + 1 by omega]
      refine guard_split (decide_eq_true ?_) (guard_split (bp_mk ⟨hb, h1, h2, by omega, by omega, h5, h6⟩) rfl)
      show (n - (k + 1)).toNat < (n - k).toNat
      omega
  · have hk := of_decide_eq_false hk
    rw [prev_end (by omega)]; rfl
theorem ins_step {b : It} {l : List It} {k : Nat} {x : It} (hx : l[k]? = some x) : insV b l k = (inW b x.1 x.2.1 || insV b l (k + 1)) := by
  unfold insV; rw [drop_cons hx, List.any_cons]
theorem p2l (b : It) (l : List It) (nl : Bool) (n k : Int) (h : preFi l n k = true) : d2lL b l nl n k = cond (!insV b l k.toNat) (some (.exit 2, [.undef], [PB b, .row false kIt l])) (some (.ret, [.sc (.bool false)], [PB b, .row false kIt l])) := by
  obtain ⟨h1, h2, h3, h4⟩ := of_decide_eq_true h
  rw [d2l]
  simp only [List.take_length, Nat.zero_add, len_true, cond_true]
  refine cond_split (fun hk => ?_) (fun hk => ?_)
  · have hk := of_decide_eq_true hk
    obtain ⟨x, hx⟩ := get_ex (l := l) (k := k.toNat) (by omega)
    have hw : IntKind.i64.wrap (k + 1) = k + 1 := W_id _ (by omega) (by omega)
    rw [hx, ins_step hx, hw]
    refine guard_split (by simp; omega) ?_
    simp only [bindO]
    refine cond_split (fun hc => by rw [hc]; rfl) (fun hc => ?_)
    rw [hc, Bool.false_or, show (k + 1).toNat = k.toNat + 1 by omega]
    refine guard_split (decide_eq_true ?_) (guard_split (decide_eq_true ⟨h1, h2, by omega, by omega⟩) rfl)
    show (n - (k + 1)).toNat < (n - k).toNat
    omega
  · have hk := of_decide_eq_false hk
    unfold insV
    rw [List.drop_eq_nil_of_le (by omega)]; rfl
theorem half {n : Int} (h1 : 0 ≤ n) (h2 : n ≤ 40) : 0 ≤ n.tdiv 2 ∧ n.tdiv 2 ≤ 20 := by
  rw [Int.tdiv_eq_ediv_of_nonneg h1]; omega
/-- A rectangle of a valid label, told without wrapping. -/
theorem box_at {x : It} {s : Int} (h : okIt x) :
    boxX x s = (if s = 1 ∨ s = 2 ∨ s = 5 then x.1 - x.2.2.1 else if s = 6 ∨ s = 7 then x.1 - x.2.2.1.tdiv 2 else x.1 + 1) ∧
    boxY x s = (if s = 2 ∨ s = 3 ∨ s = 7 then x.2.1 - x.2.2.2 else if s = 4 ∨ s = 5 then x.2.1 - x.2.2.2.tdiv 2 else x.2.1 + 1) := by
  obtain ⟨g1, g2, g3, g4, g5, g6, g7, g8⟩ := h
  have t1 := half (n := x.2.2.1) (by omega) (by omega)
  have t2 := half (n := x.2.2.2) (by omega) (by omega)
  unfold boxX boxY
  rw [W_id (x.2.2.1.tdiv 2) (by omega) (by omega), W_id (x.2.2.2.tdiv 2) (by omega) (by omega), W_id (x.1 - x.2.2.1) (by omega) (by omega), W_id (x.1 - x.2.2.1.tdiv 2) (by omega) (by omega), W_id (x.1 + 1) (by omega) (by omega), W_id (x.2.1 - x.2.2.2) (by omega) (by omega), W_id (x.2.1 - x.2.2.2.tdiv 2) (by omega) (by omega), W_id (x.2.1 + 1) (by omega) (by omega)]
  exact ⟨rfl, rfl⟩
theorem box_ok {x : It} {s : Int} (h : okIt x) : bxOk (boxS x s) := by
  obtain ⟨e1, e2⟩ := box_at (s := s) h
  obtain ⟨g1, g2, g3, g4, g5, g6, g7, g8⟩ := h
  have t1 := half (n := x.2.2.1) (by omega) (by omega)
  have t2 := half (n := x.2.2.2) (by omega) (by omega)
  show bxN (boxX x s) (boxY x s) x.2.2.1 x.2.2.2
  rw [e1, e2]
  refine ⟨?_, ?_, ?_, ?_, g5, g6, g7, g8⟩ <;> (repeat' split) <;> omega
theorem fit_step {l : List It} {sp : List Int} {i : Nat} (h : i < l.length) : fitV l sp i = (!badAt l sp i && fitV l sp (i + 1)) := by
  unfold fitV
  rw [show l.length - i = (l.length - (i + 1)) + 1 by omega]
  rfl
theorem fit_end {l : List It} {sp : List Int} {i : Nat} (h : ¬ i < l.length) : fitV l sp i = true := by
  unfold fitV; rw [show l.length - i = 0 by omega]; rfl
def B3 (l : List It) (sp : List Int) (l2 : List It) : List Blk := [.row false kIt l, .row false I sp, .row false kIt l2]
theorem p0l (l : List It) (nl : Bool) (sp : List Int) (sn : Bool) (l2 : List It) (nl2 : Bool) (n i : Int) (h : pre0c l sp l2 n i = true) : d0lL l nl sp sn l2 nl2 n i = cond (fitV l sp i.toNat) (some (.exit 0, [.undef], B3 l sp l2)) (some (.ret, [.sc (.bool false)], B3 l sp l2)) := by
  obtain ⟨hk, rfl, h2, h3, h4⟩ := bp_true.1 h
  have hok := hk
  obtain ⟨k1, k2, k3, k4⟩ := bp_true.1 hk
  rw [d0l]
  simp only [List.take_length, Nat.zero_add, len_true, cond_true]
  refine cond_split (fun hk => ?_) (fun hk => ?_)
  · have hk := of_decide_eq_true hk
    obtain ⟨x, hx⟩ := get_ex (l := l2) (k := i.toNat) (by omega)
    obtain ⟨s, hs⟩ := get_ex (l := sp) (k := i.toNat) (by omega)
    have hsn := k4 s (List.mem_of_getElem? hs)
    have hxo := k3 x (List.mem_of_getElem? hx)
    have hw : IntKind.i64.wrap (i + 1) = i + 1 := W_id _ (by omega) (by omega)
    rw [hx, hs, fit_step (i := i.toNat) (by omega), hw]
    have hbad : badAt l2 sp i.toNat = (insV (boxS x s) l2 0 || prevV (l2.take i.toNat) sp (boxS x s) 0) := by
      unfold badAt; rw [atI_of hx, getD_of hs, decide_eq_false (show ¬ s < 0 by omega)]; rfl
    refine guard_split (by simp; omega) ?_
    simp only [bindO]
    refine guard_split (by simp; omega) ?_
    rw [decide_eq_false (show ¬ s < 0 by omega), hbad]
    simp only [cond_false, Nat.sub_zero]
    refine guard_split (by simp; omega) (guard_split (decide_eq_true hsn) (guard_split (decide_eq_true ⟨by omega, rfl, by omega, by omega⟩) ?_))
    change cond (!insV (boxS x s) l2 0) _ _ = _
    cases insV (boxS x s) l2 0 with
    | true => rfl
    | false =>
      have hle : i.toNat ≤ l2.length := by omega
      refine guard_split (by simp; omega) ?_
      rw [decide_eq_true hle]
      refine guard_split (bp_mk ⟨box_ok hxo, by rw [List.length_take]; omega, by rw [List.length_take]; omega, by omega, by omega, by rw [List.length_take]; omega, k4⟩) ?_
      change cond (!prevV (l2.take i.toNat) sp (boxS x s) 0) _ _ = _
      cases prevV (l2.take i.toNat) sp (boxS x s) 0 with
      | true => rfl
      | false =>
        rw [show (i + 1).toNat = i.toNat + 1 by omega]
        refine guard_split (decide_eq_true ?_) (guard_split (bp_mk ⟨hok, rfl, h2, by omega, by omega⟩) rfl)
        show (n - (i + 1)).toNat < (n - i).toNat
        omega
  · have hk := of_decide_eq_false hk
    rw [fit_end (by omega)]; rfl
theorem p25 (l : List It) (nl : Bool) (sp : List Int) (sn : Bool) (h : okAll l sp = true) : d25L l nl sp sn = some (.sc (.bool (fitV l sp 0)), [.row false kIt l, .row false I sp]) := by
  rw [d25]
  simp only [List.take_length, Nat.zero_add, len_true, cond_true]
  refine guard_split (bp_mk ⟨h, rfl, rfl, by omega, by omega⟩) ?_
  rw [show Int.toNat 0 = 0 from rfl]
  cases fitV l sp 0 <;> rfl
/-! ### The search -/
theorem try_step {d : Nat} {l : List It} {sp : List Int} {pl : List It} {s : Int} (h : s < 8) : tryV d l sp pl s =
    bif covS (boxS (atI l sp.length) s) l || !freeS (boxS (atI l sp.length) s) pl then tryV d l sp pl (s + 1) else
      match srch l d (sp ++ [s]) (pl ++ [boxS (atI l sp.length) s]) with
      | some o => some o
      | none => tryV d l sp pl (s + 1) := by
  unfold tryV
  rw [show (8 - s).toNat = (8 - (s + 1)).toNat + 1 by omega]
  rfl
theorem try_end {d : Nat} {l : List It} {sp : List Int} {pl : List It} {s : Int} (h : ¬ s < 8) : tryV d l sp pl s = none := by
  unfold tryV; rw [show (8 - s).toNat = 0 by omega]; rfl
theorem p75l (d : Nat) (l : List It) (nl : Bool) (sp : List Int) (sn : Bool) (pl : List It) (pn : Bool) (k s : Int) (h : pre75c d l sp pl k s = true) :
    d75lL d l nl sp sn pl pn k s = cond (tryV d l sp pl s).isNone (some (.exit 0, [.undef], B3 l sp pl)) (some (.ret, [slV 3 I ((tryV d l sp pl s).getD [], false)], B3 l sp pl ++ [.row true I ((tryV d l sp pl s).getD [])])) := by
  obtain ⟨h1, h2, h3, h4, h5, h6, h7⟩ := bp_true.1 h
  rw [d75l]
  simp only [List.take_length, Nat.zero_add, len_true, cond_true, Nat.sub_zero]
  have hkn : k.toNat = sp.length := by omega
  rw [hkn]
  obtain ⟨x, hx⟩ := get_ex (l := l) (k := sp.length) h2
  refine cond_split (fun hk => ?_) (fun hk => ?_)
  · have hk := of_decide_eq_true hk
    have hw : IntKind.i64.wrap (s + 1) = s + 1 := W_id _ (by omega) (by omega)
    rw [hx, try_step hk, atI_of hx, hw]
    have hmu : decide (mu75 ((l, nl), (sp, sn), (pl, pn), k, s + 1, PUnit.unit) < mu75 ((l, nl), (sp, sn), (pl, pn), k, s, ())) = true := decide_eq_true (show (8 - (s + 1)).toNat < (8 - s).toNat by omega)
    have hpre : pre75c d l sp pl k (s + 1) = true := bp_mk ⟨h1, h2, h3, h4, by omega, by omega, h7⟩
    refine guard_split (by simp; omega) ?_
    simp only [bindO]
    refine guard_split (decide_eq_true (by omega)) ?_
    change cond (covS (boxS x s) l) _ (guardB _ (cond (!freeS (boxS x s) pl) _ _)) = _
    cases covS (boxS x s) l with
    | true => exact guard_split hmu (guard_split hpre rfl)
    | false =>
      refine guard_split (decide_eq_true (by omega)) ?_
      cases freeS (boxS x s) pl with
      | false => exact guard_split hmu (guard_split hpre rfl)
      | true =>
        have e1 : List.take sp.length pl = pl := by rw [← h3]; exact List.take_length
        have e2 : List.take (sp.length + 1) (sp ++ [s]) = sp ++ [s] := List.take_of_length_le (by simp)
        have e3 : List.take (sp.length + 1) (pl ++ [(boxX x s, boxY x s, x.snd.snd)]) = pl ++ [boxS x s] := List.take_of_length_le (by simp; omega)
        have e0 : List.take sp.length sp = sp := List.take_length
        rw [e0, e1, e2, e3]
        refine guard_split (by simp; omega) (guard_split (by simp; omega) ?_)
        have hdt : ∀ i : Decidable True, @decide True i = true := fun i => @decide_eq_true True i trivial
        rw [hdt]
        simp only [Bool.and_self, cond_true]
        refine guard_split (by simp; omega) (guard_split (by simp; omega) ?_)
        rw [decide_eq_true (show sp.length + 1 ≤ (sp ++ [s]).length by simp), decide_eq_true (show sp.length + 1 ≤ (pl ++ [(boxX x s, boxY x s, x.snd.snd)]).length by simp; omega)]
        refine guard_split (bp_mk ⟨h1, by simp; omega, by simp; omega, by simp; omega⟩) ?_
        simp only [Bool.or_self, Bool.not_true, cond_false]
        refine cond_split (fun hc => ?_) (fun hc => ?_)
        · have hc := of_decide_eq_true hc
          obtain ⟨d', rfl⟩ : ∃ d', d = d' + 1 := ⟨d - 1, by simp at hc; omega⟩
          have : srch l (d' + 1) (sp ++ [s]) (pl ++ [boxS x s]) = some (sp ++ [s]) := by
            show cond (decide ((sp ++ [s]).length = l.length)) _ _ = _
            rw [decide_eq_true hc]; rfl
          rw [this]; rfl
        · cases hr : srch l d (sp ++ [s]) (pl ++ [boxS x s]) with
          | some o => rfl
          | none => exact guard_split hmu (guard_split hpre rfl)
  · rw [try_end (of_decide_eq_false hk)]; rfl
theorem p75 (d : Nat) (l : List It) (nl : Bool) (sp : List Int) (sn : Bool) (pl : List It) (pn : Bool) (h : pre75 (d + 1) l sp pl = true) :
    d75L d l nl sp sn pl pn = pickA (spec75 (d + 1) ((l, nl), (sp, sn), (pl, pn), ())).2 := by
  have key : ∀ (x : Option (PV × List Blk)), x = cond (decide (sp.length = l.length)) (some (slV 1 I (sp, sn), B3 l sp pl)) (cond (srch l (d + 1) sp pl).isSome (some (slV 3 I ((srch l (d + 1) sp pl).getD [], false), B3 l sp pl ++ [.row true I ((srch l (d + 1) sp pl).getD [])])) (some (.sc (.slice none 0 0), B3 l sp pl))) →
      x = pickA (spec75 (d + 1) ((l, nl), (sp, sn), (pl, pn), ())).2 := fun x h => h
  refine key _ ?_
  obtain ⟨h1, h2, h3, h4⟩ := bp_true.1 h
  rw [d75]
  simp only [List.take_length, Nat.zero_add, len_true, cond_true]
  refine cond_split (fun hc => ?_) (fun hc => ?_)
  · have hc : ((sp.length : Nat) : Int) = (l.length : Nat) := by simpa using hc
    rw [decide_eq_true (show sp.length = l.length by omega)]; rfl
  · have hc : ¬ ((sp.length : Nat) : Int) = (l.length : Nat) := by simpa using hc
    have hne : ¬ sp.length = l.length := by omega
    have hs : srch l (d + 1) sp pl = tryV d l sp pl 0 := by
      show cond (decide (sp.length = l.length)) _ _ = _
      rw [decide_eq_false hne]; rfl
    rw [decide_eq_false hne, hs]
    refine guard_split (bp_mk ⟨h1, by omega, h3, rfl, by omega, by omega, by omega⟩) ?_
    cases tryV d l sp pl 0 <;> rfl
theorem in75 (d : Nat) (hT : TableOK Try.prog (T75 d)) : CutOK Try.prog Try.f75.ntmps (codeAt 0 (bodyF Try.f75)) [0, 1, 2, 7, 18] [6] (entC k75c (c75 d)) := loop_cutW (kill := killA 0 k75c) hT mixed mu75 (by kernel_rfl) (noCuts_ok _) fun v h => p75l d v.1.1 v.1.2 v.2.1.1 v.2.1.2 v.2.2.1.1 v.2.2.1.2 v.2.2.2.1 v.2.2.2.2.1 h
theorem T75_ok : ∀ d, TableOK Try.prog (T75 d)
  | 0 => ext_ok (entV_ok Try.call75 (fun v h => absurd (bp_true.1 h) (by rintro ⟨_, h2, _, h4⟩; omega))) T5_ok
  | d + 1 => ext_ok (entV_ok Try.call75 (liftV (T75_ok d) mixed Try.func75 (show Try.f75.body = some (bodyF Try.f75) from rfl) (cut_cons (by kernel_rfl) (in75 d (T75_ok d)) (noCuts_ok _)) (by decide) fun v h => p75 d v.1.1 v.1.2 v.2.1.1 v.2.1.2 v.2.2.1.1 v.2.2.1.2 h)) T5_ok
theorem T15b_ok : TableOK Try.prog T15b := ext_ok e74 (T75_ok 7)
theorem p15 (l : List It) (nl : Bool) : d15L l nl = pickA (spec15 ((l, nl), ())).2 := by
  have key : ∀ (x : Option (PV × List Blk)), x = cond (plV l).isSome (some (.tup [slV 1 I ((plV l).getD [], false), .sc (.int .i64 0)], [.row false kIt l, .row true I ((plV l).getD [])])) (some (.tup [.sc (.slice none 0 0), .sc (.int .i64 (plE l))], [.row false kIt l])) →
      x = pickA (spec15 ((l, nl), ())).2 := fun x h => h
  refine key _ ?_
  rw [d15]
  simp only [List.take_length, Nat.zero_add, len_true, cond_true]
  unfold plV plE
  refine guard_split rfl ?_
  refine cond_split (fun h => ?_) (fun h => ?_)
  · rw [decide_eq_false (show ¬ chkL l = 0 by simpa using h)]; rfl
  rw [decide_eq_true (show chkL l = 0 by simpa using h)]
  refine cond_split (fun h => ?_) (fun h => ?_)
  · rw [decide_eq_false (show ¬ l.length ≤ 6 by have := of_decide_eq_true h; omega)]; rfl
  have h6 : l.length ≤ 6 := by have := of_decide_eq_false h; omega
  rw [decide_eq_true h6]
  refine cond_split (fun h => ?_) (fun h => ?_)
  · have h : ((l.length : Nat) : Int) = 0 := by simpa using h
    rw [decide_eq_false (show ¬ l.length ≠ 0 by omega), decide_eq_true (show l.length = 0 by omega)]; rfl
  have h : ¬ ((l.length : Nat) : Int) = 0 := by simpa using h
  have h0 : l.length ≠ 0 := by omega
  rw [decide_eq_true h0, decide_eq_false (show ¬ l.length = 0 from h0)]
  refine guard_split (bp_mk ⟨h6, by simp, rfl, by simp; omega⟩) ?_
  rw [decide_eq_false (show ¬ ([] : List Int).length = l.length by simp; omega)]
  cases srch l 7 [] [] <;> rfl
theorem T15_ok : TableOK Try.prog T15 := ext_ok (entV_ok Try.call15 (liftV T15b_ok mixed Try.func15 (show Try.f15.body = some (bodyF Try.f15) from rfl) (kill := killA 0 k15) (noCuts_ok _) (by decide) fun v h => p15 v.1.1 v.1.2)) T15b_ok
theorem in8 : CutOK Try.prog Try.f25.ntmps (codeAt 8 (bodyF Try.f25)) [7, 12, 13, 14] [4] (entC k8c c8c) := loop_cutW (kill := killA 0 k8c) T1'_ok mixed mu8c (by kernel_rfl) (noCuts_ok _) fun v h => p8l v.1 v.2.1 v.2.2.1 v.2.2.2.1 h
theorem in6 : CutOK Try.prog Try.f25.ntmps (codeAt 6 (bodyF Try.f25)) [7, 12, 13] [4] (entC k6c c6c) := loop_cutW (kill := killA 0 k6c) T1'_ok mixed mu6c (by kernel_rfl) (cut_at (by kernel_rfl) (by kernel_rfl) in8 (noCuts_ok _)) fun v h => p6l v.1 v.2.1 v.2.2.1 h
theorem in4 : CutOK Try.prog Try.f25.ntmps (codeAt 4 (bodyF Try.f25)) [1, 7, 48, 49, 50] [4] (entC k4c c4c) := loop_cutW (kill := killA 0 k4c) T1'_ok mixed mu4c (by kernel_rfl) (cut_at (by kernel_rfl) (by kernel_rfl) in6 (noCuts_ok _)) fun v h => p4l v.1.1 v.1.2 v.2.1 v.2.2.1.1 v.2.2.1.2 v.2.2.2.1 v.2.2.2.2.1 h
theorem in2 : CutOK Try.prog Try.f25.ntmps (codeAt 2 (bodyF Try.f25)) [7, 33, 34, 35] [4] (entC k2c c2c) := loop_cutW (kill := killA 0 k2c) T1'_ok mixed mu2c (by kernel_rfl) (noCuts_ok _) fun v h => p2l v.1 v.2.1.1 v.2.1.2 v.2.2.1 v.2.2.2.1 h
theorem in0 : CutOK Try.prog Try.f25.ntmps (codeAt 0 (bodyF Try.f25)) [0, 1, 15, 16, 17] [4] (entC k0c c0c) := loop_cutW (kill := killA 0 k0c) T1'_ok mixed mu0c (by kernel_rfl) (cut_at (by kernel_rfl) (by kernel_rfl) in2 (cut_at (by kernel_rfl) (by kernel_rfl) in4 (noCuts_ok _))) fun v h => p0l v.1.1 v.1.2 v.2.1.1 v.2.1.2 v.2.2.1.1 v.2.2.1.2 v.2.2.2.1 v.2.2.2.2.1 h
theorem e25 : EntOK Try.prog 25 (entV k25 (specP k25 [sB] (fun v => okAll v.1.1 v.2.1.1) fun v => (fitV v.1.1 v.2.1.1 0, ()))) := entV_ok Try.call25 (liftV T1'_ok mixed Try.func25 (show Try.f25.body = some (bodyF Try.f25) from rfl) (cut_cons (by kernel_rfl) in0 (noCuts_ok _)) (by decide) fun v h => p25 v.1.1 v.1.2 v.2.1.1 v.2.1.2 h)
end Go.Proofs.YtacdahpjmeianaaLb
