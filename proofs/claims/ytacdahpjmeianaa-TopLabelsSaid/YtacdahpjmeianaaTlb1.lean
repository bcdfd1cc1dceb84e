/- What is proved: what the functions on labels answer: rectangles, whether they meet, whether one covers a point, the check. Condition: no list is longer than 1000. -/
import Derived.Test.YtacdahpjmeianaaTlb0
namespace Go.Proofs.YtacdahpjmeianaaLb
open Go Go.Proofs Go.Proofs.YtacdahpjmeianaaEv
set_option maxRecDepth 100000
set_option linter.unusedSimpArgs false
set_option linter.unusedVariables false
theorem mixed : Try.prog.follows .mixedOrders = true := by kernel_rfl
noncomputable abbrev b18L (a0 : It) (a1 : It) := evFuncV Try.prog T0 noCuts Try.f18 (killA 0 [sIt, sIt]) (showA 0 [sIt, sIt] (a0, (a1, ()))).1 (showA 0 [sIt, sIt] (a0, (a1, ()))).2
theorem b18 (a0 : It) (a1 : It) : b18L a0 a1 = (bif decide (a0.fst < IntKind.i64.wrap (a1.fst + a1.snd.snd.fst)) then
  bif decide (a1.fst < IntKind.i64.wrap (a0.fst + a0.snd.snd.fst)) then
    bif decide (a0.snd.fst < IntKind.i64.wrap (a1.snd.fst + a1.snd.snd.snd)) then
      some (PV.sc (Value.bool (decide (a1.snd.fst < IntKind.i64.wrap (a0.snd.fst + a0.snd.snd.snd)))), [])
    else some (PV.sc (Value.bool false), [])
  else some (PV.sc (Value.bool false), [])
else some (PV.sc (Value.bool false), [])) := by kernel_rfl
noncomputable abbrev b76L (a0 : It) (a1 : Int) := evFuncV Try.prog T0 noCuts Try.f76 (killA 0 [sIt, sI]) (showA 0 [sIt, sI] (a0, (a1, ()))).1 (showA 0 [sIt, sI] (a0, (a1, ()))).2
theorem b76 (a0 : It) (a1 : Int) : b76L a0 a1 = (bif a1 == 1 then
  bif a1 == 2 then
    some
      (PV.agg
          [PV.sc (Value.int IntKind.i64 (IntKind.i64.wrap (a0.fst - a0.snd.snd.fst))),
            PV.sc (Value.int IntKind.i64 (IntKind.i64.wrap (a0.snd.fst - a0.snd.snd.snd))),
            PV.sc (Value.int IntKind.i64 a0.snd.snd.fst), PV.sc (Value.int IntKind.i64 a0.snd.snd.snd)],
        [])
  else
    bif a1 == 3 then
      some
        (PV.agg
            [PV.sc (Value.int IntKind.i64 (IntKind.i64.wrap (a0.fst - a0.snd.snd.fst))),
              PV.sc (Value.int IntKind.i64 (IntKind.i64.wrap (a0.snd.fst - a0.snd.snd.snd))),
              PV.sc (Value.int IntKind.i64 a0.snd.snd.fst), PV.sc (Value.int IntKind.i64 a0.snd.snd.snd)],
          [])
    else
      bif a1 == 7 then
        some
          (PV.agg
              [PV.sc (Value.int IntKind.i64 (IntKind.i64.wrap (a0.fst - a0.snd.snd.fst))),
                PV.sc (Value.int IntKind.i64 (IntKind.i64.wrap (a0.snd.fst - a0.snd.snd.snd))),
                PV.sc (Value.int IntKind.i64 a0.snd.snd.fst), PV.sc (Value.int IntKind.i64 a0.snd.snd.snd)],
            [])
      else
        bif a1 == 4 then
          some
            (PV.agg
                [PV.sc (Value.int IntKind.i64 (IntKind.i64.wrap (a0.fst - a0.snd.snd.fst))),
                  PV.sc
                    (Value.int IntKind.i64
                      (IntKind.i64.wrap (a0.snd.fst - IntKind.i64.wrap (Int.tdiv a0.snd.snd.snd 2)))),
                  PV.sc (Value.int IntKind.i64 a0.snd.snd.fst), PV.sc (Value.int IntKind.i64 a0.snd.snd.snd)],
              [])
        else
          bif a1 == 5 then
            some
              (PV.agg
                  [PV.sc (Value.int IntKind.i64 (IntKind.i64.wrap (a0.fst - a0.snd.snd.fst))),
                    PV.sc
                      (Value.int IntKind.i64
                        (IntKind.i64.wrap (a0.snd.fst - IntKind.i64.wrap (Int.tdiv a0.snd.snd.snd 2)))),
                    PV.sc (Value.int IntKind.i64 a0.snd.snd.fst), PV.sc (Value.int IntKind.i64 a0.snd.snd.snd)],
                [])
          else
            some
              (PV.agg
                  [PV.sc (Value.int IntKind.i64 (IntKind.i64.wrap (a0.fst - a0.snd.snd.fst))),
                    PV.sc (Value.int IntKind.i64 (IntKind.i64.wrap (a0.snd.fst + 1))),
                    PV.sc (Value.int IntKind.i64 a0.snd.snd.fst), PV.sc (Value.int IntKind.i64 a0.snd.snd.snd)],
                [])
else
  bif a1 == 2 then
    bif a1 == 2 then
      some
        (PV.agg
            [PV.sc (Value.int IntKind.i64 (IntKind.i64.wrap (a0.fst - a0.snd.snd.fst))),
              PV.sc (Value.int IntKind.i64 (IntKind.i64.wrap (a0.snd.fst - a0.snd.snd.snd))),
              PV.sc (Value.int IntKind.i64 a0.snd.snd.fst), PV.sc (Value.int IntKind.i64 a0.snd.snd.snd)],
          [])
    else
      bif a1 == 3 then
        some
          (PV.agg
              [PV.sc (Value.int IntKind.i64 (IntKind.i64.wrap (a0.fst - a0.snd.snd.fst))),
                PV.sc (Value.int IntKind.i64 (IntKind.i64.wrap (a0.snd.fst - a0.snd.snd.snd))),
                PV.sc (Value.int IntKind.i64 a0.snd.snd.fst), PV.sc (Value.int IntKind.i64 a0.snd.snd.snd)],
            [])
      else
        bif a1 == 7 then
          some
            (PV.agg
                [PV.sc (Value.int IntKind.i64 (IntKind.i64.wrap (a0.fst - a0.snd.snd.fst))),
                  PV.sc (Value.int IntKind.i64 (IntKind.i64.wrap (a0.snd.fst - a0.snd.snd.snd))),
                  PV.sc (Value.int IntKind.i64 a0.snd.snd.fst), PV.sc (Value.int IntKind.i64 a0.snd.snd.snd)],
              [])
        else
          bif a1 == 4 then
            some
              (PV.agg
                  [PV.sc (Value.int IntKind.i64 (IntKind.i64.wrap (a0.fst - a0.snd.snd.fst))),
                    PV.sc
                      (Value.int IntKind.i64
                        (IntKind.i64.wrap (a0.snd.fst - IntKind.i64.wrap (Int.tdiv a0.snd.snd.snd 2)))),
                    PV.sc (Value.int IntKind.i64 a0.snd.snd.fst), PV.sc (Value.int IntKind.i64 a0.snd.snd.snd)],
                [])
          else
            bif a1 == 5 then
              some
                (PV.agg
                    [PV.sc (Value.int IntKind.i64 (IntKind.i64.wrap (a0.fst - a0.snd.snd.fst))),
                      PV.sc
                        (Value.int IntKind.i64
                          (IntKind.i64.wrap (a0.snd.fst - IntKind.i64.wrap (Int.tdiv a0.snd.snd.snd 2)))),
                      PV.sc (Value.int IntKind.i64 a0.snd.snd.fst), PV.sc (Value.int IntKind.i64 a0.snd.snd.snd)],
                  [])
            else
              some
                (PV.agg
                    [PV.sc (Value.int IntKind.i64 (IntKind.i64.wrap (a0.fst - a0.snd.snd.fst))),
                      PV.sc (Value.int IntKind.i64 (IntKind.i64.wrap (a0.snd.fst + 1))),
                      PV.sc (Value.int IntKind.i64 a0.snd.snd.fst), PV.sc (Value.int IntKind.i64 a0.snd.snd.snd)],
                  [])
  else
    bif a1 == 5 then
      bif a1 == 2 then
        some
          (PV.agg
              [PV.sc (Value.int IntKind.i64 (IntKind.i64.wrap (a0.fst - a0.snd.snd.fst))),
                PV.sc (Value.int IntKind.i64 (IntKind.i64.wrap (a0.snd.fst - a0.snd.snd.snd))),
                PV.sc (Value.int IntKind.i64 a0.snd.snd.fst), PV.sc (Value.int IntKind.i64 a0.snd.snd.snd)],
            [])
      else
        bif a1 == 3 then
          some
            (PV.agg
                [PV.sc (Value.int IntKind.i64 (IntKind.i64.wrap (a0.fst - a0.snd.snd.fst))),
                  PV.sc (Value.int IntKind.i64 (IntKind.i64.wrap (a0.snd.fst - a0.snd.snd.snd))),
                  PV.sc (Value.int IntKind.i64 a0.snd.snd.fst), PV.sc (Value.int IntKind.i64 a0.snd.snd.snd)],
              [])
        else
          bif a1 == 7 then
            some
              (PV.agg
                  [PV.sc (Value.int IntKind.i64 (IntKind.i64.wrap (a0.fst - a0.snd.snd.fst))),
                    PV.sc (Value.int IntKind.i64 (IntKind.i64.wrap (a0.snd.fst - a0.snd.snd.snd))),
                    PV.sc (Value.int IntKind.i64 a0.snd.snd.fst), PV.sc (Value.int IntKind.i64 a0.snd.snd.snd)],
                [])
          else
            bif a1 == 4 then
              some
                (PV.agg
                    [PV.sc (Value.int IntKind.i64 (IntKind.i64.wrap (a0.fst - a0.snd.snd.fst))),
                      PV.sc
                        (Value.int IntKind.i64
                          (IntKind.i64.wrap (a0.snd.fst - IntKind.i64.wrap (Int.tdiv a0.snd.snd.snd 2)))),
                      PV.sc (Value.int IntKind.i64 a0.snd.snd.fst), PV.sc (Value.int IntKind.i64 a0.snd.snd.snd)],
                  [])
            else
              bif a1 == 5 then
                some
                  (PV.agg
                      [PV.sc (Value.int IntKind.i64 (IntKind.i64.wrap (a0.fst - a0.snd.snd.fst))),
                        PV.sc
                          (Value.int IntKind.i64
                            (IntKind.i64.wrap (a0.snd.fst - IntKind.i64.wrap (Int.tdiv a0.snd.snd.snd 2)))),
                        PV.sc (Value.int IntKind.i64 a0.snd.snd.fst), PV.sc (Value.int IntKind.i64 a0.snd.snd.snd)],
                    [])
              else
                some
                  (PV.agg
                      [PV.sc (Value.int IntKind.i64 (IntKind.i64.wrap (a0.fst - a0.snd.snd.fst))),
                        PV.sc (Value.int IntKind.i64 (IntKind.i64.wrap (a0.snd.fst + 1))),
                        PV.sc (Value.int IntKind.i64 a0.snd.snd.fst), PV.sc (Value.int IntKind.i64 a0.snd.snd.snd)],
                    [])
    else
      bif a1 == 6 then
        bif a1 == 2 then
          some
            (PV.agg
                [PV.sc
                    (Value.int IntKind.i64 (IntKind.i64.wrap (a0.fst - IntKind.i64.wrap (Int.tdiv a0.snd.snd.fst 2)))),
                  PV.sc (Value.int IntKind.i64 (IntKind.i64.wrap (a0.snd.fst - a0.snd.snd.snd))),
                  PV.sc (Value.int IntKind.i64 a0.snd.snd.fst), PV.sc (Value.int IntKind.i64 a0.snd.snd.snd)],
              [])
        else
          bif a1 == 3 then
            some
              (PV.agg
                  [PV.sc
                      (Value.int IntKind.i64
                        (IntKind.i64.wrap (a0.fst - IntKind.i64.wrap (Int.tdiv a0.snd.snd.fst 2)))),
                    PV.sc (Value.int IntKind.i64 (IntKind.i64.wrap (a0.snd.fst - a0.snd.snd.snd))),
                    PV.sc (Value.int IntKind.i64 a0.snd.snd.fst), PV.sc (Value.int IntKind.i64 a0.snd.snd.snd)],
                [])
          else
            bif a1 == 7 then
              some
                (PV.agg
                    [PV.sc
                        (Value.int IntKind.i64
                          (IntKind.i64.wrap (a0.fst - IntKind.i64.wrap (Int.tdiv a0.snd.snd.fst 2)))),
                      PV.sc (Value.int IntKind.i64 (IntKind.i64.wrap (a0.snd.fst - a0.snd.snd.snd))),
                      PV.sc (Value.int IntKind.i64 a0.snd.snd.fst), PV.sc (Value.int IntKind.i64 a0.snd.snd.snd)],
                  [])
            else
              bif a1 == 4 then
                some
                  (PV.agg
                      [PV.sc
                          (Value.int IntKind.i64
                            (IntKind.i64.wrap (a0.fst - IntKind.i64.wrap (Int.tdiv a0.snd.snd.fst 2)))),
                        PV.sc
                          (Value.int IntKind.i64
                            (IntKind.i64.wrap (a0.snd.fst - IntKind.i64.wrap (Int.tdiv a0.snd.snd.snd 2)))),
                        PV.sc (Value.int IntKind.i64 a0.snd.snd.fst), PV.sc (Value.int IntKind.i64 a0.snd.snd.snd)],
                    [])
              else
                bif a1 == 5 then
                  some
                    (PV.agg
                        [PV.sc
                            (Value.int IntKind.i64
                              (IntKind.i64.wrap (a0.fst - IntKind.i64.wrap (Int.tdiv a0.snd.snd.fst 2)))),
                          PV.sc
                            (Value.int IntKind.i64
                              (IntKind.i64.wrap (a0.snd.fst - IntKind.i64.wrap (Int.tdiv a0.snd.snd.snd 2)))),
                          PV.sc (Value.int IntKind.i64 a0.snd.snd.fst), PV.sc (Value.int IntKind.i64 a0.snd.snd.snd)],
                      [])
                else
                  some
                    (PV.agg
                        [PV.sc
                            (Value.int IntKind.i64
                              (IntKind.i64.wrap (a0.fst - IntKind.i64.wrap (Int.tdiv a0.snd.snd.fst 2)))),
                          PV.sc (Value.int IntKind.i64 (IntKind.i64.wrap (a0.snd.fst + 1))),
                          PV.sc (Value.int IntKind.i64 a0.snd.snd.fst), PV.sc (Value.int IntKind.i64 a0.snd.snd.snd)],
                      [])
      else
        bif a1 == 7 then
          bif a1 == 2 then
            some
              (PV.agg
                  [PV.sc
                      (Value.int IntKind.i64
                        (IntKind.i64.wrap (a0.fst - IntKind.i64.wrap (Int.tdiv a0.snd.snd.fst 2)))),
                    PV.sc (Value.int IntKind.i64 (IntKind.i64.wrap (a0.snd.fst - a0.snd.snd.snd))),
                    PV.sc (Value.int IntKind.i64 a0.snd.snd.fst), PV.sc (Value.int IntKind.i64 a0.snd.snd.snd)],
                [])
          else
            bif a1 == 3 then
              some
                (PV.agg
                    [PV.sc
                        (Value.int IntKind.i64
                          (IntKind.i64.wrap (a0.fst - IntKind.i64.wrap (Int.tdiv a0.snd.snd.fst 2)))),
                      PV.sc (Value.int IntKind.i64 (IntKind.i64.wrap (a0.snd.fst - a0.snd.snd.snd))),
                      PV.sc (Value.int IntKind.i64 a0.snd.snd.fst), PV.sc (Value.int IntKind.i64 a0.snd.snd.snd)],
                  [])
            else
              bif a1 == 7 then
                some
                  (PV.agg
                      [PV.sc
                          (Value.int IntKind.i64
                            (IntKind.i64.wrap (a0.fst - IntKind.i64.wrap (Int.tdiv a0.snd.snd.fst 2)))),
                        PV.sc (Value.int IntKind.i64 (IntKind.i64.wrap (a0.snd.fst - a0.snd.snd.snd))),
                        PV.sc (Value.int IntKind.i64 a0.snd.snd.fst), PV.sc (Value.int IntKind.i64 a0.snd.snd.snd)],
                    [])
              else
                bif a1 == 4 then
                  some
                    (PV.agg
                        [PV.sc
                            (Value.int IntKind.i64
                              (IntKind.i64.wrap (a0.fst - IntKind.i64.wrap (Int.tdiv a0.snd.snd.fst 2)))),
                          PV.sc
                            (Value.int IntKind.i64
                              (IntKind.i64.wrap (a0.snd.fst - IntKind.i64.wrap (Int.tdiv a0.snd.snd.snd 2)))),
                          PV.sc (Value.int IntKind.i64 a0.snd.snd.fst), PV.sc (Value.int IntKind.i64 a0.snd.snd.snd)],
                      [])
                else
                  bif a1 == 5 then
                    some
                      (PV.agg
                          [PV.sc
                              (Value.int IntKind.i64
                                (IntKind.i64.wrap (a0.fst - IntKind.i64.wrap (Int.tdiv a0.snd.snd.fst 2)))),
                            PV.sc
                              (Value.int IntKind.i64
                                (IntKind.i64.wrap (a0.snd.fst - IntKind.i64.wrap (Int.tdiv a0.snd.snd.snd 2)))),
                            PV.sc (Value.int IntKind.i64 a0.snd.snd.fst), PV.sc (Value.int IntKind.i64 a0.snd.snd.snd)],
                        [])
                  else
                    some
                      (PV.agg
                          [PV.sc
                              (Value.int IntKind.i64
                                (IntKind.i64.wrap (a0.fst - IntKind.i64.wrap (Int.tdiv a0.snd.snd.fst 2)))),
                            PV.sc (Value.int IntKind.i64 (IntKind.i64.wrap (a0.snd.fst + 1))),
                            PV.sc (Value.int IntKind.i64 a0.snd.snd.fst), PV.sc (Value.int IntKind.i64 a0.snd.snd.snd)],
                        [])
        else
          bif a1 == 2 then
            some
              (PV.agg
                  [PV.sc (Value.int IntKind.i64 (IntKind.i64.wrap (a0.fst + 1))),
                    PV.sc (Value.int IntKind.i64 (IntKind.i64.wrap (a0.snd.fst - a0.snd.snd.snd))),
                    PV.sc (Value.int IntKind.i64 a0.snd.snd.fst), PV.sc (Value.int IntKind.i64 a0.snd.snd.snd)],
                [])
          else
            bif a1 == 3 then
              some
                (PV.agg
                    [PV.sc (Value.int IntKind.i64 (IntKind.i64.wrap (a0.fst + 1))),
                      PV.sc (Value.int IntKind.i64 (IntKind.i64.wrap (a0.snd.fst - a0.snd.snd.snd))),
                      PV.sc (Value.int IntKind.i64 a0.snd.snd.fst), PV.sc (Value.int IntKind.i64 a0.snd.snd.snd)],
                  [])
            else
              bif a1 == 7 then
                some
                  (PV.agg
                      [PV.sc (Value.int IntKind.i64 (IntKind.i64.wrap (a0.fst + 1))),
                        PV.sc (Value.int IntKind.i64 (IntKind.i64.wrap (a0.snd.fst - a0.snd.snd.snd))),
                        PV.sc (Value.int IntKind.i64 a0.snd.snd.fst), PV.sc (Value.int IntKind.i64 a0.snd.snd.snd)],
                    [])
              else
                bif a1 == 4 then
                  some
                    (PV.agg
                        [PV.sc (Value.int IntKind.i64 (IntKind.i64.wrap (a0.fst + 1))),
                          PV.sc
                            (Value.int IntKind.i64
                              (IntKind.i64.wrap (a0.snd.fst - IntKind.i64.wrap (Int.tdiv a0.snd.snd.snd 2)))),
                          PV.sc (Value.int IntKind.i64 a0.snd.snd.fst), PV.sc (Value.int IntKind.i64 a0.snd.snd.snd)],
                      [])
                else
                  bif a1 == 5 then
                    some
                      (PV.agg
                          [PV.sc (Value.int IntKind.i64 (IntKind.i64.wrap (a0.fst + 1))),
                            PV.sc
                              (Value.int IntKind.i64
                                (IntKind.i64.wrap (a0.snd.fst - IntKind.i64.wrap (Int.tdiv a0.snd.snd.snd 2)))),
                            PV.sc (Value.int IntKind.i64 a0.snd.snd.fst), PV.sc (Value.int IntKind.i64 a0.snd.snd.snd)],
                        [])
                  else
                    some
                      (PV.agg
                          [PV.sc (Value.int IntKind.i64 (IntKind.i64.wrap (a0.fst + 1))),
                            PV.sc (Value.int IntKind.i64 (IntKind.i64.wrap (a0.snd.fst + 1))),
                            PV.sc (Value.int IntKind.i64 a0.snd.snd.fst), PV.sc (Value.int IntKind.i64 a0.snd.snd.snd)],
                        [])) := by kernel_rfl
noncomputable abbrev b79L (a0 : It) (a1 : Int) (a2 : Int) := evFuncV Try.prog T0 noCuts Try.f79 (killA 0 [sIt, sI, sI]) (showA 0 [sIt, sI, sI] (a0, (a1, (a2, ())))).1 (showA 0 [sIt, sI, sI] (a0, (a1, (a2, ())))).2
theorem b79 (a0 : It) (a1 : Int) (a2 : Int) : b79L a0 a1 a2 = (bif decide (a1 ≥ a0.fst) then
  bif decide (a1 < IntKind.i64.wrap (a0.fst + a0.snd.snd.fst)) then
    bif decide (a2 ≥ a0.snd.fst) then
      some (PV.sc (Value.bool (decide (a2 < IntKind.i64.wrap (a0.snd.fst + a0.snd.snd.snd)))), [])
    else some (PV.sc (Value.bool false), [])
  else some (PV.sc (Value.bool false), [])
else some (PV.sc (Value.bool false), [])) := by kernel_rfl
noncomputable abbrev b41L (a0 : Int) (a1 : Int) (a2 : Int) := evFuncV Try.prog T0 noCuts Try.f41 (killA 0 [sI, sI, sI]) (showA 0 [sI, sI, sI] (a0, (a1, (a2, ())))).1 (showA 0 [sI, sI, sI] (a0, (a1, (a2, ())))).2
theorem b41 (a0 : Int) (a1 : Int) (a2 : Int) : b41L a0 a1 a2 = (bif decide (a0 ≥ a1) then some (PV.sc (Value.bool (decide (a0 ≤ a2))), []) else some (PV.sc (Value.bool false), [])) := by kernel_rfl
noncomputable abbrev b78L (a0 : It) (a1 : Int) := evFuncV Try.prog T0 noCuts Try.f78 (killA 0 [sIt, sI]) (showA 0 [sIt, sI] (a0, (a1, ()))).1 (showA 0 [sIt, sI] (a0, (a1, ()))).2
theorem b78 (a0 : It) (a1 : Int) : b78L a0 a1 = (guardB (decide (0 ≤ a1) && decide (a1 < 8))
  (bindO
    (splice [0, 0] 0
        (List.take 2
          (List.drop (a1.toNat * 2)
            [IntKind.i64.wrap (a0.fst + 1), IntKind.i64.wrap (a0.snd.fst + 1),
              IntKind.i64.wrap (a0.fst - a0.snd.snd.fst), IntKind.i64.wrap (a0.snd.fst + 1),
              IntKind.i64.wrap (a0.fst - a0.snd.snd.fst), IntKind.i64.wrap (a0.snd.fst - a0.snd.snd.snd),
              IntKind.i64.wrap (a0.fst + 1), IntKind.i64.wrap (a0.snd.fst - a0.snd.snd.snd),
              IntKind.i64.wrap (a0.fst + 1),
              IntKind.i64.wrap (a0.snd.fst - IntKind.i64.wrap (Int.tdiv a0.snd.snd.snd 2)),
              IntKind.i64.wrap (a0.fst - a0.snd.snd.fst),
              IntKind.i64.wrap (a0.snd.fst - IntKind.i64.wrap (Int.tdiv a0.snd.snd.snd 2)),
              IntKind.i64.wrap (a0.fst - IntKind.i64.wrap (Int.tdiv a0.snd.snd.fst 2)),
              IntKind.i64.wrap (a0.snd.fst + 1),
              IntKind.i64.wrap (a0.fst - IntKind.i64.wrap (Int.tdiv a0.snd.snd.fst 2)),
              IntKind.i64.wrap (a0.snd.fst - a0.snd.snd.snd)])))[0]?
    fun x =>
    bindO
      (splice [0, 0] 0
          (List.take 2
            (List.drop (a1.toNat * 2)
              [IntKind.i64.wrap (a0.fst + 1), IntKind.i64.wrap (a0.snd.fst + 1),
                IntKind.i64.wrap (a0.fst - a0.snd.snd.fst), IntKind.i64.wrap (a0.snd.fst + 1),
                IntKind.i64.wrap (a0.fst - a0.snd.snd.fst), IntKind.i64.wrap (a0.snd.fst - a0.snd.snd.snd),
                IntKind.i64.wrap (a0.fst + 1), IntKind.i64.wrap (a0.snd.fst - a0.snd.snd.snd),
                IntKind.i64.wrap (a0.fst + 1),
                IntKind.i64.wrap (a0.snd.fst - IntKind.i64.wrap (Int.tdiv a0.snd.snd.snd 2)),
                IntKind.i64.wrap (a0.fst - a0.snd.snd.fst),
                IntKind.i64.wrap (a0.snd.fst - IntKind.i64.wrap (Int.tdiv a0.snd.snd.snd 2)),
                IntKind.i64.wrap (a0.fst - IntKind.i64.wrap (Int.tdiv a0.snd.snd.fst 2)),
                IntKind.i64.wrap (a0.snd.fst + 1),
                IntKind.i64.wrap (a0.fst - IntKind.i64.wrap (Int.tdiv a0.snd.snd.fst 2)),
                IntKind.i64.wrap (a0.snd.fst - a0.snd.snd.snd)])))[1]?
      fun x_1 =>
      some
        (PV.agg
            [PV.sc (Value.int IntKind.i64 x), PV.sc (Value.int IntKind.i64 x_1),
              PV.sc (Value.int IntKind.i64 a0.snd.snd.fst), PV.sc (Value.int IntKind.i64 a0.snd.snd.snd)],
          []))) := by kernel_rfl
noncomputable abbrev b139L (a0 : It) (a1 : It) := evFuncV Try.prog T1 noCuts Try.f139 (killA 0 [sIt, bIt]) (showA 0 [sIt, bIt] (a0, (a1, ()))).1 (showA 0 [sIt, bIt] (a0, (a1, ()))).2
theorem b139 (a0 : It) (a1 : It) : b139L a0 a1 = (some
  (PV.sc (Value.bool (meetW a1 (a0.fst, a0.snd.fst, 1, 1))),
    [Blk.fix false
        [PV.sc (Value.int IntKind.i64 a1.fst), PV.sc (Value.int IntKind.i64 a1.snd.fst),
          PV.sc (Value.int IntKind.i64 a1.snd.snd.fst), PV.sc (Value.int IntKind.i64 a1.snd.snd.snd)]])) := by kernel_rfl
noncomputable abbrev b141L (a0 : It) (a1 : It) := evFuncV Try.prog T1 noCuts Try.f141 (killA 0 [sIt, bIt]) (showA 0 [sIt, bIt] (a0, (a1, ()))).1 (showA 0 [sIt, bIt] (a0, (a1, ()))).2
theorem b141 (a0 : It) (a1 : It) : b141L a0 a1 = (some
  (PV.sc (Value.bool (meetW a1 a0)),
    [Blk.fix false
        [PV.sc (Value.int IntKind.i64 a1.fst), PV.sc (Value.int IntKind.i64 a1.snd.fst),
          PV.sc (Value.int IntKind.i64 a1.snd.snd.fst), PV.sc (Value.int IntKind.i64 a1.snd.snd.snd)]])) := by kernel_rfl
noncomputable abbrev b149lL (a0 : List (Int × Int × Int × Int)) (a1 : Bool) (a2 : It) (a3 : Int) (a4 : Int) := evRound Try.prog T2 noCuts 19 (loopOf (codeAt 0 (bodyF Try.f149))) (kFi 139) (muFi 139) (killA 0 (kFi 139)) [0, 1, 7, 8] [4] (cFi 139 qC) ((a0, a1), ((a2, ()), (a3, (a4, ()))))
theorem b149l (a0 : List (Int × Int × Int × Int)) (a1 : Bool) (a2 : It) (a3 : Int) (a4 : Int) : b149lL a0 a1 a2 a3 a4 = (bif decide (a4 < a3) then
  guardB (decide (0 ≤ a4) && decide (a4 < (↑a0.length : Int)))
    (bindO a0[0 + a4.toNat]? fun x =>
      bif meetW a2 (oneB x) then
        some
          (Xt.ret, [PV.sc (Value.int IntKind.i64 a4)],
            [Blk.row false
                ((Kd.int IntKind.i64).pair ((Kd.int IntKind.i64).pair ((Kd.int IntKind.i64).pair (Kd.int IntKind.i64))))
                a0,
              Blk.fix false
                [PV.sc (Value.int IntKind.i64 a2.fst), PV.sc (Value.int IntKind.i64 a2.snd.fst),
                  PV.sc (Value.int IntKind.i64 a2.snd.snd.fst), PV.sc (Value.int IntKind.i64 a2.snd.snd.snd)]])
      else
        guardB
          (decide
            (muFi 139 ((List.take a0.length a0, a1), (a2, PUnit.unit), a3, IntKind.i64.wrap (a4 + 1), PUnit.unit) <
              muFi 139 ((a0, a1), (a2, ()), a3, a4, ())))
          (guardB
            (bif decide (0 + a0.length ≤ a0.length) then preFi (List.take a0.length a0) a3 (IntKind.i64.wrap (a4 + 1))
            else false)
            (bif (fiV (qC a2) (List.take a0.length a0) (IntKind.i64.wrap (a4 + 1))).isNone then
              some
                (Xt.exit 0, [PV.undef],
                  [Blk.row false
                      ((Kd.int IntKind.i64).pair
                        ((Kd.int IntKind.i64).pair ((Kd.int IntKind.i64).pair (Kd.int IntKind.i64))))
                      a0,
                    Blk.fix false
                      [PV.sc (Value.int IntKind.i64 a2.fst), PV.sc (Value.int IntKind.i64 a2.snd.fst),
                        PV.sc (Value.int IntKind.i64 a2.snd.snd.fst), PV.sc (Value.int IntKind.i64 a2.snd.snd.snd)]])
            else
              some
                (Xt.ret,
                  [PV.sc
                      (Value.int IntKind.i64
                        ((fiV (qC a2) (List.take a0.length a0) (IntKind.i64.wrap (a4 + 1))).getD 0))],
                  [Blk.row false
                      ((Kd.int IntKind.i64).pair
                        ((Kd.int IntKind.i64).pair ((Kd.int IntKind.i64).pair (Kd.int IntKind.i64))))
                      a0,
                    Blk.fix false
                      [PV.sc (Value.int IntKind.i64 a2.fst), PV.sc (Value.int IntKind.i64 a2.snd.fst),
                        PV.sc (Value.int IntKind.i64 a2.snd.snd.fst), PV.sc (Value.int IntKind.i64 a2.snd.snd.snd)]]))))
else
  some
    (Xt.exit 0, [PV.undef],
      [Blk.row false
          ((Kd.int IntKind.i64).pair ((Kd.int IntKind.i64).pair ((Kd.int IntKind.i64).pair (Kd.int IntKind.i64)))) a0,
        Blk.fix false
          [PV.sc (Value.int IntKind.i64 a2.fst), PV.sc (Value.int IntKind.i64 a2.snd.fst),
            PV.sc (Value.int IntKind.i64 a2.snd.snd.fst), PV.sc (Value.int IntKind.i64 a2.snd.snd.snd)]])) := by kernel_rfl
noncomputable abbrev b149L (a0 : List (Int × Int × Int × Int)) (a1 : Bool) (a2 : It) := evFuncV Try.prog T2 (addCut 0 [0, 1, 7, 8] [4] (entC (kFi 139) (cFi 139 qC)) noCuts) Try.f149 (killA 0 (kAn 139)) (showA 0 (kAn 139) ((a0, a1), ((a2, ()), ()))).1 (showA 0 (kAn 139) ((a0, a1), ((a2, ()), ()))).2
theorem b149 (a0 : List (Int × Int × Int × Int)) (a1 : Bool) (a2 : It) : b149L a0 a1 a2 = (guardB (bif decide (0 + a0.length ≤ a0.length) then preFi (List.take a0.length a0) (↑a0.length : Int) 0 else false)
  (bif (fiV (qC a2) (List.take a0.length a0) 0).isNone then
    some
      (PV.sc (Value.int IntKind.i64 (-1)),
        [Blk.row false
            ((Kd.int IntKind.i64).pair ((Kd.int IntKind.i64).pair ((Kd.int IntKind.i64).pair (Kd.int IntKind.i64)))) a0,
          Blk.fix false
            [PV.sc (Value.int IntKind.i64 a2.fst), PV.sc (Value.int IntKind.i64 a2.snd.fst),
              PV.sc (Value.int IntKind.i64 a2.snd.snd.fst), PV.sc (Value.int IntKind.i64 a2.snd.snd.snd)]])
  else
    some
      (PV.sc (Value.int IntKind.i64 ((fiV (qC a2) (List.take a0.length a0) 0).getD 0)),
        [Blk.row false
            ((Kd.int IntKind.i64).pair ((Kd.int IntKind.i64).pair ((Kd.int IntKind.i64).pair (Kd.int IntKind.i64)))) a0,
          Blk.fix false
            [PV.sc (Value.int IntKind.i64 a2.fst), PV.sc (Value.int IntKind.i64 a2.snd.fst),
              PV.sc (Value.int IntKind.i64 a2.snd.snd.fst), PV.sc (Value.int IntKind.i64 a2.snd.snd.snd)]]))) := by kernel_rfl
noncomputable abbrev b150lL (a0 : List (Int × Int × Int × Int)) (a1 : Bool) (a2 : It) (a3 : Int) (a4 : Int) := evRound Try.prog T2 noCuts 19 (loopOf (codeAt 0 (bodyF Try.f150))) (kFi 141) (muFi 141) (killA 0 (kFi 141)) [0, 1, 7, 8] [4] (cFi 141 qF) ((a0, a1), ((a2, ()), (a3, (a4, ()))))
theorem b150l (a0 : List (Int × Int × Int × Int)) (a1 : Bool) (a2 : It) (a3 : Int) (a4 : Int) : b150lL a0 a1 a2 a3 a4 = (bif decide (a4 < a3) then
  guardB (decide (0 ≤ a4) && decide (a4 < (↑a0.length : Int)))
    (bindO a0[0 + a4.toNat]? fun x =>
      bif meetW a2 x then
        some
          (Xt.ret, [PV.sc (Value.int IntKind.i64 a4)],
            [Blk.row false
                ((Kd.int IntKind.i64).pair ((Kd.int IntKind.i64).pair ((Kd.int IntKind.i64).pair (Kd.int IntKind.i64))))
                a0,
              Blk.fix false
                [PV.sc (Value.int IntKind.i64 a2.fst), PV.sc (Value.int IntKind.i64 a2.snd.fst),
                  PV.sc (Value.int IntKind.i64 a2.snd.snd.fst), PV.sc (Value.int IntKind.i64 a2.snd.snd.snd)]])
      else
        guardB
          (decide
            (muFi 141 ((List.take a0.length a0, a1), (a2, PUnit.unit), a3, IntKind.i64.wrap (a4 + 1), PUnit.unit) <
              muFi 141 ((a0, a1), (a2, ()), a3, a4, ())))
          (guardB
            (bif decide (0 + a0.length ≤ a0.length) then preFi (List.take a0.length a0) a3 (IntKind.i64.wrap (a4 + 1))
            else false)
            (bif (fiV (qF a2) (List.take a0.length a0) (IntKind.i64.wrap (a4 + 1))).isNone then
              some
                (Xt.exit 0, [PV.undef],
                  [Blk.row false
                      ((Kd.int IntKind.i64).pair
                        ((Kd.int IntKind.i64).pair ((Kd.int IntKind.i64).pair (Kd.int IntKind.i64))))
                      a0,
                    Blk.fix false
                      [PV.sc (Value.int IntKind.i64 a2.fst), PV.sc (Value.int IntKind.i64 a2.snd.fst),
                        PV.sc (Value.int IntKind.i64 a2.snd.snd.fst), PV.sc (Value.int IntKind.i64 a2.snd.snd.snd)]])
            else
              some
                (Xt.ret,
                  [PV.sc
                      (Value.int IntKind.i64
                        ((fiV (qF a2) (List.take a0.length a0) (IntKind.i64.wrap (a4 + 1))).getD 0))],
                  [Blk.row false
                      ((Kd.int IntKind.i64).pair
                        ((Kd.int IntKind.i64).pair ((Kd.int IntKind.i64).pair (Kd.int IntKind.i64))))
                      a0,
                    Blk.fix false
                      [PV.sc (Value.int IntKind.i64 a2.fst), PV.sc (Value.int IntKind.i64 a2.snd.fst),
                        PV.sc (Value.int IntKind.i64 a2.snd.snd.fst), PV.sc (Value.int IntKind.i64 a2.snd.snd.snd)]]))))
else
  some
    (Xt.exit 0, [PV.undef],
      [Blk.row false
          ((Kd.int IntKind.i64).pair ((Kd.int IntKind.i64).pair ((Kd.int IntKind.i64).pair (Kd.int IntKind.i64)))) a0,
        Blk.fix false
          [PV.sc (Value.int IntKind.i64 a2.fst), PV.sc (Value.int IntKind.i64 a2.snd.fst),
            PV.sc (Value.int IntKind.i64 a2.snd.snd.fst), PV.sc (Value.int IntKind.i64 a2.snd.snd.snd)]])) := by kernel_rfl
noncomputable abbrev b150L (a0 : List (Int × Int × Int × Int)) (a1 : Bool) (a2 : It) := evFuncV Try.prog T2 (addCut 0 [0, 1, 7, 8] [4] (entC (kFi 141) (cFi 141 qF)) noCuts) Try.f150 (killA 0 (kAn 141)) (showA 0 (kAn 141) ((a0, a1), ((a2, ()), ()))).1 (showA 0 (kAn 141) ((a0, a1), ((a2, ()), ()))).2
theorem b150 (a0 : List (Int × Int × Int × Int)) (a1 : Bool) (a2 : It) : b150L a0 a1 a2 = (guardB (bif decide (0 + a0.length ≤ a0.length) then preFi (List.take a0.length a0) (↑a0.length : Int) 0 else false)
  (bif (fiV (qF a2) (List.take a0.length a0) 0).isNone then
    some
      (PV.sc (Value.int IntKind.i64 (-1)),
        [Blk.row false
            ((Kd.int IntKind.i64).pair ((Kd.int IntKind.i64).pair ((Kd.int IntKind.i64).pair (Kd.int IntKind.i64)))) a0,
          Blk.fix false
            [PV.sc (Value.int IntKind.i64 a2.fst), PV.sc (Value.int IntKind.i64 a2.snd.fst),
              PV.sc (Value.int IntKind.i64 a2.snd.snd.fst), PV.sc (Value.int IntKind.i64 a2.snd.snd.snd)]])
  else
    some
      (PV.sc (Value.int IntKind.i64 ((fiV (qF a2) (List.take a0.length a0) 0).getD 0)),
        [Blk.row false
            ((Kd.int IntKind.i64).pair ((Kd.int IntKind.i64).pair ((Kd.int IntKind.i64).pair (Kd.int IntKind.i64)))) a0,
          Blk.fix false
            [PV.sc (Value.int IntKind.i64 a2.fst), PV.sc (Value.int IntKind.i64 a2.snd.fst),
              PV.sc (Value.int IntKind.i64 a2.snd.snd.fst), PV.sc (Value.int IntKind.i64 a2.snd.snd.snd)]]))) := by kernel_rfl
noncomputable abbrev b138L (a0 : List (Int × Int × Int × Int)) (a1 : Bool) (a2 : It) := evFuncV Try.prog T3 noCuts Try.f138 (killA 0 (kAn 139)) (showA 0 (kAn 139) ((a0, a1), ((a2, ()), ()))).1 (showA 0 (kAn 139) ((a0, a1), ((a2, ()), ()))).2
theorem b138 (a0 : List (Int × Int × Int × Int)) (a1 : Bool) (a2 : It) : b138L a0 a1 a2 = (guardB (bif decide (0 + a0.length ≤ a0.length) then decide ((List.take a0.length a0).length ≤ 1000) else false)
  (some
    (PV.sc (Value.bool (decide (anyI (qC a2) (List.take a0.length a0) ≥ 0))),
      [Blk.row false
          ((Kd.int IntKind.i64).pair ((Kd.int IntKind.i64).pair ((Kd.int IntKind.i64).pair (Kd.int IntKind.i64)))) a0,
        Blk.fix false
          [PV.sc (Value.int IntKind.i64 a2.fst), PV.sc (Value.int IntKind.i64 a2.snd.fst),
            PV.sc (Value.int IntKind.i64 a2.snd.snd.fst), PV.sc (Value.int IntKind.i64 a2.snd.snd.snd)]]))) := by kernel_rfl
noncomputable abbrev b140L (a0 : List (Int × Int × Int × Int)) (a1 : Bool) (a2 : It) := evFuncV Try.prog T3 noCuts Try.f140 (killA 0 (kAn 141)) (showA 0 (kAn 141) ((a0, a1), ((a2, ()), ()))).1 (showA 0 (kAn 141) ((a0, a1), ((a2, ()), ()))).2
theorem b140 (a0 : List (Int × Int × Int × Int)) (a1 : Bool) (a2 : It) : b140L a0 a1 a2 = (guardB (bif decide (0 + a0.length ≤ a0.length) then decide ((List.take a0.length a0).length ≤ 1000) else false)
  (some
    (PV.sc (Value.bool (decide (anyI (qF a2) (List.take a0.length a0) ≥ 0))),
      [Blk.row false
          ((Kd.int IntKind.i64).pair ((Kd.int IntKind.i64).pair ((Kd.int IntKind.i64).pair (Kd.int IntKind.i64)))) a0,
        Blk.fix false
          [PV.sc (Value.int IntKind.i64 a2.fst), PV.sc (Value.int IntKind.i64 a2.snd.fst),
            PV.sc (Value.int IntKind.i64 a2.snd.snd.fst), PV.sc (Value.int IntKind.i64 a2.snd.snd.snd)]]))) := by kernel_rfl
noncomputable abbrev b119L (a0 : It) (a1 : List (Int × Int × Int × Int)) (a2 : Bool) := evFuncV Try.prog T4 noCuts Try.f119 (killA 0 [sIt, rIt]) (showA 0 [sIt, rIt] (a0, ((a1, a2), ()))).1 (showA 0 [sIt, rIt] (a0, ((a1, a2), ()))).2
theorem b119 (a0 : It) (a1 : List (Int × Int × Int × Int)) (a2 : Bool) : b119L a0 a1 a2 = (guardB (bif decide (0 + a1.length ≤ a1.length) then decide ((List.take a1.length a1).length ≤ 1000) else false)
  (some
    (PV.sc (Value.bool (decide (anyI (qC a0) (List.take a1.length a1) ≥ 0))),
      [Blk.row false
          ((Kd.int IntKind.i64).pair ((Kd.int IntKind.i64).pair ((Kd.int IntKind.i64).pair (Kd.int IntKind.i64)))) a1]))) := by kernel_rfl
noncomputable abbrev b120L (a0 : It) (a1 : List (Int × Int × Int × Int)) (a2 : Bool) := evFuncV Try.prog T4 noCuts Try.f120 (killA 0 [sIt, rIt]) (showA 0 [sIt, rIt] (a0, ((a1, a2), ()))).1 (showA 0 [sIt, rIt] (a0, ((a1, a2), ()))).2
theorem b120 (a0 : It) (a1 : List (Int × Int × Int × Int)) (a2 : Bool) : b120L a0 a1 a2 = (guardB (bif decide (0 + a1.length ≤ a1.length) then decide ((List.take a1.length a1).length ≤ 1000) else false)
  (some
    (PV.sc (Value.bool !decide (anyI (qF a0) (List.take a1.length a1) ≥ 0)),
      [Blk.row false
          ((Kd.int IntKind.i64).pair ((Kd.int IntKind.i64).pair ((Kd.int IntKind.i64).pair (Kd.int IntKind.i64)))) a1]))) := by kernel_rfl
noncomputable abbrev b74lL (a0 : List (Int × Int × Int × Int)) (a1 : Bool) (a2 : Int) (a3 : Int) := evRound Try.prog T0 noCuts 53 (loopOf (codeAt 0 (bodyF Try.f74))) kCk muCk (killA 0 kCk) [8, 9, 10] [2] cCk ((a0, a1), (a2, (a3, ())))
theorem b74l (a0 : List (Int × Int × Int × Int)) (a1 : Bool) (a2 : Int) (a3 : Int) : b74lL a0 a1 a2 a3 = (bif decide (a3 < a2) then
  guardB (decide (0 ≤ a3) && decide (a3 < (↑a0.length : Int)))
    (bindO a0[0 + a3.toNat]? fun x =>
      bif decide (x.fst < -1000) then
        some
          (Xt.ret, [PV.sc (Value.int IntKind.i64 4)],
            [Blk.row false
                ((Kd.int IntKind.i64).pair ((Kd.int IntKind.i64).pair ((Kd.int IntKind.i64).pair (Kd.int IntKind.i64))))
                a0])
      else
        bif decide (x.fst > 1000) then
          some
            (Xt.ret, [PV.sc (Value.int IntKind.i64 4)],
              [Blk.row false
                  ((Kd.int IntKind.i64).pair
                    ((Kd.int IntKind.i64).pair ((Kd.int IntKind.i64).pair (Kd.int IntKind.i64))))
                  a0])
        else
          bif decide (x.snd.fst < -1000) then
            some
              (Xt.ret, [PV.sc (Value.int IntKind.i64 4)],
                [Blk.row false
                    ((Kd.int IntKind.i64).pair
                      ((Kd.int IntKind.i64).pair ((Kd.int IntKind.i64).pair (Kd.int IntKind.i64))))
                    a0])
          else
            bif decide (x.snd.fst > 1000) then
              some
                (Xt.ret, [PV.sc (Value.int IntKind.i64 4)],
                  [Blk.row false
                      ((Kd.int IntKind.i64).pair
                        ((Kd.int IntKind.i64).pair ((Kd.int IntKind.i64).pair (Kd.int IntKind.i64))))
                      a0])
            else
              bif decide (x.snd.snd.fst < 1) then
                some
                  (Xt.ret, [PV.sc (Value.int IntKind.i64 4)],
                    [Blk.row false
                        ((Kd.int IntKind.i64).pair
                          ((Kd.int IntKind.i64).pair ((Kd.int IntKind.i64).pair (Kd.int IntKind.i64))))
                        a0])
              else
                bif decide (x.snd.snd.fst > 40) then
                  some
                    (Xt.ret, [PV.sc (Value.int IntKind.i64 4)],
                      [Blk.row false
                          ((Kd.int IntKind.i64).pair
                            ((Kd.int IntKind.i64).pair ((Kd.int IntKind.i64).pair (Kd.int IntKind.i64))))
                          a0])
                else
                  bif decide (x.snd.snd.snd < 1) then
                    some
                      (Xt.ret, [PV.sc (Value.int IntKind.i64 4)],
                        [Blk.row false
                            ((Kd.int IntKind.i64).pair
                              ((Kd.int IntKind.i64).pair ((Kd.int IntKind.i64).pair (Kd.int IntKind.i64))))
                            a0])
                  else
                    bif decide (x.snd.snd.snd > 40) then
                      some
                        (Xt.ret, [PV.sc (Value.int IntKind.i64 4)],
                          [Blk.row false
                              ((Kd.int IntKind.i64).pair
                                ((Kd.int IntKind.i64).pair ((Kd.int IntKind.i64).pair (Kd.int IntKind.i64))))
                              a0])
                    else
                      guardB
                        (decide
                          (muCk ((List.take a0.length a0, a1), a2, IntKind.i64.wrap (a3 + 1), PUnit.unit) <
                            muCk ((a0, a1), a2, a3, ())))
                        (guardB
                          (bif decide (0 + a0.length ≤ a0.length) then
                            preFi (List.take a0.length a0) a2 (IntKind.i64.wrap (a3 + 1))
                          else false)
                          (bif !badL (List.drop (IntKind.i64.wrap (a3 + 1)).toNat (List.take a0.length a0)) then
                            some
                              (Xt.exit 0, [PV.undef],
                                [Blk.row false
                                    ((Kd.int IntKind.i64).pair
                                      ((Kd.int IntKind.i64).pair ((Kd.int IntKind.i64).pair (Kd.int IntKind.i64))))
                                    a0])
                          else
                            some
                              (Xt.ret, [PV.sc (Value.int IntKind.i64 4)],
                                [Blk.row false
                                    ((Kd.int IntKind.i64).pair
                                      ((Kd.int IntKind.i64).pair ((Kd.int IntKind.i64).pair (Kd.int IntKind.i64))))
                                    a0]))))
else
  some
    (Xt.exit 0, [PV.undef],
      [Blk.row false
          ((Kd.int IntKind.i64).pair ((Kd.int IntKind.i64).pair ((Kd.int IntKind.i64).pair (Kd.int IntKind.i64)))) a0])) := by kernel_rfl
noncomputable abbrev b74L (a0 : List (Int × Int × Int × Int)) (a1 : Bool) := evFuncV Try.prog T0 (addCut 0 [8, 9, 10] [2] (entC kCk cCk) noCuts) Try.f74 (killA 0 [rIt]) (showA 0 [rIt] ((a0, a1), ())).1 (showA 0 [rIt] ((a0, a1), ())).2
theorem b74 (a0 : List (Int × Int × Int × Int)) (a1 : Bool) : b74L a0 a1 = (bif decide ((↑a0.length : Int) > 32) then
  some
    (PV.sc (Value.int IntKind.i64 2),
      [Blk.row false
          ((Kd.int IntKind.i64).pair ((Kd.int IntKind.i64).pair ((Kd.int IntKind.i64).pair (Kd.int IntKind.i64)))) a0])
else
  guardB (bif decide (0 + a0.length ≤ a0.length) then preFi (List.take a0.length a0) (↑a0.length : Int) 0 else false)
    (bif !badL (List.drop (Int.toNat 0) (List.take a0.length a0)) then
      some
        (PV.sc (Value.int IntKind.i64 0),
          [Blk.row false
              ((Kd.int IntKind.i64).pair ((Kd.int IntKind.i64).pair ((Kd.int IntKind.i64).pair (Kd.int IntKind.i64))))
              a0])
    else
      some
        (PV.sc (Value.int IntKind.i64 4),
          [Blk.row false
              ((Kd.int IntKind.i64).pair ((Kd.int IntKind.i64).pair ((Kd.int IntKind.i64).pair (Kd.int IntKind.i64))))
              a0]))) := by kernel_rfl
noncomputable abbrev b24lL (a0 : List (Int × Int × Int × Int)) (a1 : Bool) (a2 : Int) (a3 : Int) := evRound Try.prog T1 noCuts 37 (loopOf (codeAt 0 (bodyF Try.f24))) kCk muCk (killA 0 kCk) [8, 9, 10] [2] cCk ((a0, a1), (a2, (a3, ())))
theorem b24l (a0 : List (Int × Int × Int × Int)) (a1 : Bool) (a2 : Int) (a3 : Int) : b24lL a0 a1 a2 a3 = (bif decide (a3 < a2) then
  guardB (decide (0 ≤ a3) && decide (a3 < (↑a0.length : Int)))
    (bindO a0[0 + a3.toNat]? fun x =>
      bif !decide (-1000 ≤ x.fst ∧ x.fst ≤ 1000) then
        some
          (Xt.ret, [PV.sc (Value.int IntKind.i64 4)],
            [Blk.row false
                ((Kd.int IntKind.i64).pair ((Kd.int IntKind.i64).pair ((Kd.int IntKind.i64).pair (Kd.int IntKind.i64))))
                a0])
      else
        bif !decide (-1000 ≤ x.snd.fst ∧ x.snd.fst ≤ 1000) then
          some
            (Xt.ret, [PV.sc (Value.int IntKind.i64 4)],
              [Blk.row false
                  ((Kd.int IntKind.i64).pair
                    ((Kd.int IntKind.i64).pair ((Kd.int IntKind.i64).pair (Kd.int IntKind.i64))))
                  a0])
        else
          bif !decide (1 ≤ x.snd.snd.fst ∧ x.snd.snd.fst ≤ 40) then
            some
              (Xt.ret, [PV.sc (Value.int IntKind.i64 4)],
                [Blk.row false
                    ((Kd.int IntKind.i64).pair
                      ((Kd.int IntKind.i64).pair ((Kd.int IntKind.i64).pair (Kd.int IntKind.i64))))
                    a0])
          else
            bif !decide (1 ≤ x.snd.snd.snd ∧ x.snd.snd.snd ≤ 40) then
              some
                (Xt.ret, [PV.sc (Value.int IntKind.i64 4)],
                  [Blk.row false
                      ((Kd.int IntKind.i64).pair
                        ((Kd.int IntKind.i64).pair ((Kd.int IntKind.i64).pair (Kd.int IntKind.i64))))
                      a0])
            else
              guardB
                (decide
                  (muCk ((List.take a0.length a0, a1), a2, IntKind.i64.wrap (a3 + 1), PUnit.unit) <
                    muCk ((a0, a1), a2, a3, ())))
                (guardB
                  (bif decide (0 + a0.length ≤ a0.length) then
                    preFi (List.take a0.length a0) a2 (IntKind.i64.wrap (a3 + 1))
                  else false)
                  (bif !badL (List.drop (IntKind.i64.wrap (a3 + 1)).toNat (List.take a0.length a0)) then
                    some
                      (Xt.exit 0, [PV.undef],
                        [Blk.row false
                            ((Kd.int IntKind.i64).pair
                              ((Kd.int IntKind.i64).pair ((Kd.int IntKind.i64).pair (Kd.int IntKind.i64))))
                            a0])
                  else
                    some
                      (Xt.ret, [PV.sc (Value.int IntKind.i64 4)],
                        [Blk.row false
                            ((Kd.int IntKind.i64).pair
                              ((Kd.int IntKind.i64).pair ((Kd.int IntKind.i64).pair (Kd.int IntKind.i64))))
                            a0]))))
else
  some
    (Xt.exit 0, [PV.undef],
      [Blk.row false
          ((Kd.int IntKind.i64).pair ((Kd.int IntKind.i64).pair ((Kd.int IntKind.i64).pair (Kd.int IntKind.i64)))) a0])) := by kernel_rfl
noncomputable abbrev b24L (a0 : List (Int × Int × Int × Int)) (a1 : Bool) := evFuncV Try.prog T1 (addCut 0 [8, 9, 10] [2] (entC kCk cCk) noCuts) Try.f24 (killA 0 [rIt]) (showA 0 [rIt] ((a0, a1), ())).1 (showA 0 [rIt] ((a0, a1), ())).2
theorem b24 (a0 : List (Int × Int × Int × Int)) (a1 : Bool) : b24L a0 a1 = (bif decide ((↑a0.length : Int) > 32) then
  some
    (PV.sc (Value.int IntKind.i64 2),
      [Blk.row false
          ((Kd.int IntKind.i64).pair ((Kd.int IntKind.i64).pair ((Kd.int IntKind.i64).pair (Kd.int IntKind.i64)))) a0])
else
  guardB (bif decide (0 + a0.length ≤ a0.length) then preFi (List.take a0.length a0) (↑a0.length : Int) 0 else false)
    (bif !badL (List.drop (Int.toNat 0) (List.take a0.length a0)) then
      some
        (PV.sc (Value.int IntKind.i64 0),
          [Blk.row false
              ((Kd.int IntKind.i64).pair ((Kd.int IntKind.i64).pair ((Kd.int IntKind.i64).pair (Kd.int IntKind.i64))))
              a0])
    else
      some
        (PV.sc (Value.int IntKind.i64 4),
          [Blk.row false
              ((Kd.int IntKind.i64).pair ((Kd.int IntKind.i64).pair ((Kd.int IntKind.i64).pair (Kd.int IntKind.i64))))
              a0]))) := by kernel_rfl
theorem W_id (n : Int) (h0 : -9223372036854775808 ≤ n) (h1 : n ≤ 9223372036854775807) : W n = n := by
  show IntKind.i64.wrap n = n
  rw [IntKind.wrap_i64]; omega
theorem len_true {α : Type} {l : List α} : decide (l.length ≤ l.length) = true := decide_eq_true (Nat.le_refl _)
theorem get_ex {α : Type} {l : List α} {k : Nat} (h : k < l.length) : ∃ x, l[k]? = some x := ⟨_, List.getElem?_eq_getElem h⟩
theorem drop_cons {α : Type} {l : List α} {k : Nat} {x : α} (h : l[k]? = some x) : l.drop k = x :: l.drop (k + 1) := by
  obtain ⟨hk, rfl⟩ := List.getElem?_eq_some_iff.1 h
  exact List.drop_eq_getElem_cons hk
theorem p18 (a0 a1 : It) : b18L a0 a1 = some (.sc (.bool (meetW a0 a1)), []) := by
  rw [b18]; unfold meetW
  refine cond_split (fun h => ?_) (fun h => by rw [h]; rfl)
  rw [h]
  refine cond_split (fun h => ?_) (fun h => by rw [h]; rfl)
  rw [h]
  refine cond_split (fun h => ?_) (fun h => by rw [h]; rfl)
  rw [h]; rfl
theorem p79 (a0 : It) (a1 a2 : Int) : b79L a0 a1 a2 = some (.sc (.bool (inW a0 a1 a2)), []) := by
  rw [b79]; unfold inW
  refine cond_split (fun h => ?_) (fun h => by rw [h]; rfl)
  rw [h]
  refine cond_split (fun h => ?_) (fun h => by rw [h]; rfl)
  rw [h]
  refine cond_split (fun h => ?_) (fun h => by rw [h]; rfl)
  rw [h]; rfl
theorem p41 (a b c : Int) : b41L a b c = some (.sc (.bool (decide (b ≤ a ∧ a ≤ c))), []) := by
  rw [b41]
  refine cond_split (fun h => ?_) (fun h => ?_)
  · have h := of_decide_eq_true h
    rw [show decide (a ≤ c) = decide (b ≤ a ∧ a ≤ c) from decide_eq_decide.mpr (by omega)]
  · have h := of_decide_eq_false h
    rw [show decide (b ≤ a ∧ a ≤ c) = false from decide_eq_false (by omega)]
def pvIt (b : It) : PV := .agg [.sc (.int .i64 b.1), .sc (.int .i64 b.2.1), .sc (.int .i64 b.2.2.1), .sc (.int .i64 b.2.2.2)]
theorem p76 (x : It) (s : Int) : b76L x s = some (pvIt (boxS x s), []) := by
  rw [b76]
  by_cases h1 : s = 1
  · subst h1; rfl
  by_cases h2 : s = 2
  · subst h2; rfl
  by_cases h3 : s = 3
  · subst h3; rfl
  by_cases h4 : s = 4
  · subst h4; rfl
  by_cases h5 : s = 5
  · subst h5; rfl
  by_cases h6 : s = 6
  · subst h6; rfl
  by_cases h7 : s = 7
  · subst h7; rfl
  simp only [show (s == 1) = false by simpa using h1, show (s == 2) = false by simpa using h2, show (s == 3) = false by simpa using h3, show (s == 4) = false by simpa using h4, show (s == 5) = false by simpa using h5, show (s == 6) = false by simpa using h6, show (s == 7) = false by simpa using h7, cond_false]
  unfold boxS boxX boxY
  rw [if_neg (by omega), if_neg (by omega), if_neg (by omega), if_neg (by omega)]; rfl
theorem p78 (x : It) (s : Int) (h : 0 ≤ s ∧ s ≤ 7) : b78L x s = some (pvIt (boxS x s), []) := by
  rw [b78]
  have : s = 0 ∨ s = 1 ∨ s = 2 ∨ s = 3 ∨ s = 4 ∨ s = 5 ∨ s = 6 ∨ s = 7 := by omega
  rcases this with rfl | rfl | rfl | rfl | rfl | rfl | rfl | rfl <;> rfl
theorem fi_step {p : It → Bool} {l : List It} {k : Int} {x : It} (h : 0 ≤ k) (hx : l[k.toNat]? = some x) : fiV p l k = bif p x then some k else fiV p l (k + 1) := by
  unfold fiV
  rw [drop_cons hx, show (k + 1).toNat = k.toNat + 1 by omega]
  rfl
theorem fi_end {p : It → Bool} {l : List It} {k : Int} (h : (l.length : Int) ≤ k) : fiV p l k = none := by
  unfold fiV; rw [List.drop_eq_nil_of_le (by omega)]; rfl
def BF (l : List It) (b : It) : List Blk := [.row false kIt l, .fix false [.sc (.int .i64 b.1), .sc (.int .i64 b.2.1), .sc (.int .i64 b.2.2.1), .sc (.int .i64 b.2.2.2)]]
theorem p149l (l : List It) (nl : Bool) (b : It) (n k : Int) (h : preFi l n k = true) : b149lL l nl b n k = cond (fiV (qC b) l k).isNone (some (.exit 0, [.undef], BF l b)) (some (.ret, [.sc (.int .i64 ((fiV (qC b) l k).getD 0))], BF l b)) := by
  obtain ⟨h1, h2, h3, h4⟩ := of_decide_eq_true h
  rw [b149l]
  simp only [List.take_length, Nat.zero_add, len_true, cond_true]
  refine cond_split (fun hk => ?_) (fun hk => ?_)
  · have hk := of_decide_eq_true hk
    obtain ⟨x, hx⟩ := get_ex (l := l) (k := k.toNat) (by omega)
    have hw : IntKind.i64.wrap (k + 1) = k + 1 := W_id _ (by omega) (by omega)
    rw [hx, fi_step h3 hx, hw]
    refine guard_split (by simp; omega) ?_
    simp only [bindO]
    refine cond_split (fun hc => ?_) (fun hc => ?_)
    · rw [show qC b x = true from hc]; rfl
    · rw [show qC b x = false from hc]
      refine guard_split (decide_eq_true ?_) (guard_split (decide_eq_true ⟨h1, h2, by omega, by omega⟩) rfl)
      show (n - (k + 1)).toNat < (n - k).toNat
      omega
  · have hk := of_decide_eq_false hk
    rw [fi_end (by omega)]; rfl
theorem p150l (l : List It) (nl : Bool) (b : It) (n k : Int) (h : preFi l n k = true) : b150lL l nl b n k = cond (fiV (qF b) l k).isNone (some (.exit 0, [.undef], BF l b)) (some (.ret, [.sc (.int .i64 ((fiV (qF b) l k).getD 0))], BF l b)) := by
  obtain ⟨h1, h2, h3, h4⟩ := of_decide_eq_true h
  rw [b150l]
  simp only [List.take_length, Nat.zero_add, len_true, cond_true]
  refine cond_split (fun hk => ?_) (fun hk => ?_)
  · have hk := of_decide_eq_true hk
    obtain ⟨x, hx⟩ := get_ex (l := l) (k := k.toNat) (by omega)
    have hw : IntKind.i64.wrap (k + 1) = k + 1 := W_id _ (by omega) (by omega)
    rw [hx, fi_step h3 hx, hw]
    refine guard_split (by simp; omega) ?_
    simp only [bindO]
    refine cond_split (fun hc => ?_) (fun hc => ?_)
    · rw [show qF b x = true from hc]; rfl
    · rw [show qF b x = false from hc]
      refine guard_split (decide_eq_true ?_) (guard_split (decide_eq_true ⟨h1, h2, by omega, by omega⟩) rfl)
      show (n - (k + 1)).toNat < (n - k).toNat
      omega
  · have hk := of_decide_eq_false hk
    rw [fi_end (by omega)]; rfl
theorem p149 (l : List It) (nl : Bool) (b : It) (h : l.length ≤ 1000) : b149L l nl b = some (.sc (.int .i64 (anyI (qC b) l)), BF l b) := by
  rw [b149]
  simp only [List.take_length, Nat.zero_add, len_true, cond_true]
  refine guard_split (decide_eq_true ⟨h, rfl, by omega, by omega⟩) ?_
  unfold anyI
  cases fiV (qC b) l 0 <;> rfl
theorem p150 (l : List It) (nl : Bool) (b : It) (h : l.length ≤ 1000) : b150L l nl b = some (.sc (.int .i64 (anyI (qF b) l)), BF l b) := by
  rw [b150]
  simp only [List.take_length, Nat.zero_add, len_true, cond_true]
  refine guard_split (decide_eq_true ⟨h, rfl, by omega, by omega⟩) ?_
  unfold anyI
  cases fiV (qF b) l 0 <;> rfl
theorem fiK_any {p : It → Bool} : ∀ (l : List It) (k : Int), 0 ≤ k → (l.any p = false ∧ fiK p l k = none) ∨ (l.any p = true ∧ ∃ j, fiK p l k = some j ∧ 0 ≤ j)
  | [], k, _ => Or.inl ⟨rfl, rfl⟩
  | x :: r, k, h => by
    unfold fiK
    rw [List.any_cons]
    cases hx : p x with
    | true => exact Or.inr ⟨rfl, k, rfl, h⟩
    | false =>
      simp only [Bool.false_or, cond_false]
      exact fiK_any r (k + 1) (by omega)
theorem any_at {p : It → Bool} (l : List It) : decide (anyI p l ≥ 0) = l.any p := by
  unfold anyI fiV
  rw [show l.drop (Int.toNat 0) = l from rfl]
  rcases fiK_any (p := p) l 0 (by decide) with ⟨h1, h2⟩ | ⟨h1, j, h2, h3⟩
  · rw [h1, h2]; rfl
  · rw [h1, h2]; exact decide_eq_true h3
theorem p119 (b : It) (l : List It) (nl : Bool) (h : l.length ≤ 1000) : b119L b l nl = some (.sc (.bool (covS b l)), [.row false kIt l]) := by
  rw [b119]
  simp only [List.take_length, Nat.zero_add, len_true, cond_true]
  refine guard_split (decide_eq_true h) ?_
  rw [any_at]; rfl
theorem p120 (b : It) (l : List It) (nl : Bool) (h : l.length ≤ 1000) : b120L b l nl = some (.sc (.bool (freeS b l)), [.row false kIt l]) := by
  rw [b120]
  simp only [List.take_length, Nat.zero_add, len_true, cond_true]
  refine guard_split (decide_eq_true h) ?_
  rw [any_at]; rfl
theorem bad_step {l : List It} {k : Nat} {x : It} (hx : l[k]? = some x) : badL (l.drop k) = (!decide (okIt x) || badL (l.drop (k + 1))) := by
  unfold badL; rw [drop_cons hx, List.any_cons]
theorem p74l (l : List It) (nl : Bool) (n k : Int) (h : preFi l n k = true) : b74lL l nl n k = cond (!badL (l.drop k.toNat)) (some (.exit 0, [.undef], [.row false kIt l])) (some (.ret, [.sc (.int .i64 4)], [.row false kIt l])) := by
  obtain ⟨h1, h2, h3, h4⟩ := of_decide_eq_true h
  rw [b74l]
  simp only [List.take_length, Nat.zero_add, len_true, cond_true]
  refine cond_split (fun hk => ?_) (fun hk => ?_)
  · have hk := of_decide_eq_true hk
    obtain ⟨x, hx⟩ := get_ex (l := l) (k := k.toNat) (by omega)
    have hw : IntKind.i64.wrap (k + 1) = k + 1 := W_id _ (by omega) (by omega)
    rw [hx, bad_step hx, hw]
    refine guard_split (by simp; omega) ?_
    simp only [bindO]
    have bad : ∀ {c : Bool} {z : Option (Xt × List PV × List Blk)}, (c = true → ¬ okIt x) → (c = false → z = cond (!(!decide (okIt x) || badL (l.drop (k.toNat + 1)))) (some (.exit 0, [.undef], [.row false kIt l])) (some (.ret, [.sc (.int .i64 4)], [.row false kIt l]))) →
        cond c (some (.ret, [.sc (.int .i64 4)], [.row false kIt l])) z = cond (!(!decide (okIt x) || badL (l.drop (k.toNat + 1)))) (some (.exit 0, [.undef], [.row false kIt l])) (some (.ret, [.sc (.int .i64 4)], [.row false kIt l])) := fun {c z} a b => by
      cases c with
      | true => rw [decide_eq_false (a rfl)]; rfl
      | false => exact b rfl
    refine bad (fun h k => ?_) (fun c1 => ?_)
    · have := of_decide_eq_true h; obtain ⟨g1, g2, g3, g4, g5, g6, g7, g8⟩ := k; omega
    refine bad (fun h k => ?_) (fun c2 => ?_)
    · have := of_decide_eq_true h; obtain ⟨g1, g2, g3, g4, g5, g6, g7, g8⟩ := k; omega
    refine bad (fun h k => ?_) (fun c3 => ?_)
    · have := of_decide_eq_true h; obtain ⟨g1, g2, g3, g4, g5, g6, g7, g8⟩ := k; omega
    refine bad (fun h k => ?_) (fun c4 => ?_)
    · have := of_decide_eq_true h; obtain ⟨g1, g2, g3, g4, g5, g6, g7, g8⟩ := k; omega
    refine bad (fun h k => ?_) (fun c5 => ?_)
    · have := of_decide_eq_true h; obtain ⟨g1, g2, g3, g4, g5, g6, g7, g8⟩ := k; omega
    refine bad (fun h k => ?_) (fun c6 => ?_)
    · have := of_decide_eq_true h; obtain ⟨g1, g2, g3, g4, g5, g6, g7, g8⟩ := k; omega
    refine bad (fun h k => ?_) (fun c7 => ?_)
    · have := of_decide_eq_true h; obtain ⟨g1, g2, g3, g4, g5, g6, g7, g8⟩ := k; omega
    refine bad (fun h k => ?_) (fun c8 => ?_)
    · have := of_decide_eq_true h; obtain ⟨g1, g2, g3, g4, g5, g6, g7, g8⟩ := k; omega
    have c1 := of_decide_eq_false c1
    have c2 := of_decide_eq_false c2
    have c3 := of_decide_eq_false c3
    have c4 := of_decide_eq_false c4
    have c5 := of_decide_eq_false c5
    have c6 := of_decide_eq_false c6
    have c7 := of_decide_eq_false c7
    have c8 := of_decide_eq_false c8
    rw [decide_eq_true (show okIt x from ⟨by omega, by omega, by omega, by omega, by omega, by omega, by omega, by omega⟩), show (k + 1).toNat = k.toNat + 1 by omega]
    refine guard_split (decide_eq_true ?_) (guard_split (decide_eq_true ⟨h1, h2, by omega, by omega⟩) rfl)
    show (n - (k + 1)).toNat < (n - k).toNat
    omega
  · have hk := of_decide_eq_false hk
    rw [List.drop_eq_nil_of_le (by omega)]; rfl
theorem p24l (l : List It) (nl : Bool) (n k : Int) (h : preFi l n k = true) : b24lL l nl n k = cond (!badL (l.drop k.toNat)) (some (.exit 0, [.undef], [.row false kIt l])) (some (.ret, [.sc (.int .i64 4)], [.row false kIt l])) := by
  obtain ⟨h1, h2, h3, h4⟩ := of_decide_eq_true h
  rw [b24l]
  simp only [List.take_length, Nat.zero_add, len_true, cond_true]
  refine cond_split (fun hk => ?_) (fun hk => ?_)
  · have hk := of_decide_eq_true hk
    obtain ⟨x, hx⟩ := get_ex (l := l) (k := k.toNat) (by omega)
    have hw : IntKind.i64.wrap (k + 1) = k + 1 := W_id _ (by omega) (by omega)
    rw [hx, bad_step hx, hw]
    refine guard_split (by simp; omega) ?_
    simp only [bindO]
    have bad : ∀ {c : Prop} [Decidable c] {z : Option (Xt × List PV × List Blk)}, (okIt x → c) → (c → z = cond (!(!decide (okIt x) || badL (l.drop (k.toNat + 1)))) (some (.exit 0, [.undef], [.row false kIt l])) (some (.ret, [.sc (.int .i64 4)], [.row false kIt l]))) →
        cond (!decide c) (some (.ret, [.sc (.int .i64 4)], [.row false kIt l])) z = cond (!(!decide (okIt x) || badL (l.drop (k.toNat + 1)))) (some (.exit 0, [.undef], [.row false kIt l])) (some (.ret, [.sc (.int .i64 4)], [.row false kIt l])) := fun {c} _ {z} a b => by
      by_cases hc : c
      · rw [decide_eq_true hc]; exact b hc
      · rw [decide_eq_false hc, decide_eq_false (fun h => hc (a h))]; rfl
    refine bad (fun h => ⟨h.1, h.2.1⟩) (fun c1 => ?_)
    refine bad (fun h => ⟨h.2.2.1, h.2.2.2.1⟩) (fun c2 => ?_)
    refine bad (fun h => ⟨h.2.2.2.2.1, h.2.2.2.2.2.1⟩) (fun c3 => ?_)
    refine bad (fun h => ⟨h.2.2.2.2.2.2.1, h.2.2.2.2.2.2.2⟩) (fun c4 => ?_)
    rw [decide_eq_true (show okIt x from ⟨c1.1, c1.2, c2.1, c2.2, c3.1, c3.2, c4.1, c4.2⟩), show (k + 1).toNat = k.toNat + 1 by omega]
    refine guard_split (decide_eq_true ?_) (guard_split (decide_eq_true ⟨h1, h2, by omega, by omega⟩) rfl)
    show (n - (k + 1)).toNat < (n - k).toNat
    omega
  · have hk := of_decide_eq_false hk
    rw [List.drop_eq_nil_of_le (by omega)]; rfl
theorem p74 (l : List It) (nl : Bool) : b74L l nl = some (.sc (.int .i64 (chkL l)), [.row false kIt l]) := by
  rw [b74]
  simp only [List.take_length, Nat.zero_add, len_true, cond_true]
  unfold chkL
  refine cond_split (fun h => ?_) (fun h => ?_)
  · rw [decide_eq_true (show 32 < l.length by have := of_decide_eq_true h; omega)]; rfl
  have h := of_decide_eq_false h
  rw [decide_eq_false (show ¬ 32 < l.length by omega)]
  refine guard_split (decide_eq_true ⟨by omega, rfl, by omega, by omega⟩) ?_
  rw [show l.drop (Int.toNat 0) = l from rfl]
  cases badL l <;> rfl
theorem p24 (l : List It) (nl : Bool) : b24L l nl = some (.sc (.int .i64 (chkL l)), [.row false kIt l]) := by
  rw [b24]
  simp only [List.take_length, Nat.zero_add, len_true, cond_true]
  unfold chkL
  refine cond_split (fun h => ?_) (fun h => ?_)
  · rw [decide_eq_true (show 32 < l.length by have := of_decide_eq_true h; omega)]; rfl
  have h := of_decide_eq_false h
  rw [decide_eq_false (show ¬ 32 < l.length by omega)]
  refine guard_split (decide_eq_true ⟨by omega, rfl, by omega, by omega⟩) ?_
  rw [show l.drop (Int.toNat 0) = l from rfl]
  cases badL l <;> rfl
/-! ### Tables -/
theorem T1_ok : TableOK Try.prog T1 :=
  ext_ok (entV_ok Try.call18 (liftV (T0_ok _) mixed Try.func18 (show Try.f18.body = some (bodyF Try.f18) from rfl) (noCuts_ok _) (by decide) fun v h => p18 v.1 v.2.1))
  (ext_ok (entV_ok Try.call76 (liftV (T0_ok _) mixed Try.func76 (show Try.f76.body = some (bodyF Try.f76) from rfl) (noCuts_ok _) (by decide) fun v h => p76 v.1 v.2.1))
  (ext_ok (entV_ok Try.call79 (liftV (T0_ok _) mixed Try.func79 (show Try.f79.body = some (bodyF Try.f79) from rfl) (noCuts_ok _) (by decide) fun v h => p79 v.1 v.2.1 v.2.2.1))
  (ext_ok (entV_ok Try.call41 (liftV (T0_ok _) mixed Try.func41 (show Try.f41.body = some (bodyF Try.f41) from rfl) (noCuts_ok _) (by decide) fun v h => p41 v.1 v.2.1 v.2.2.1)) (T0_ok _))))
theorem T1'_ok : TableOK Try.prog T1' := ext_ok (entV_ok Try.call78 (liftV (T0_ok _) mixed Try.func78 (show Try.f78.body = some (bodyF Try.f78) from rfl) (noCuts_ok _) (by decide) fun v h => p78 v.1 v.2.1 (of_decide_eq_true h))) T1_ok
theorem T2_ok : TableOK Try.prog T2 :=
  ext_ok (entV_ok Try.call139 (liftV T1_ok mixed Try.func139 (show Try.f139.body = some (bodyF Try.f139) from rfl) (noCuts_ok _) (by decide) fun v h => b139 v.1 v.2.1))
  (ext_ok (entV_ok Try.call141 (liftV T1_ok mixed Try.func141 (show Try.f141.body = some (bodyF Try.f141) from rfl) (noCuts_ok _) (by decide) fun v h => b141 v.1 v.2.1)) T1'_ok)
theorem in149 : CutOK Try.prog Try.f149.ntmps (codeAt 0 (bodyF Try.f149)) [0, 1, 7, 8] [4] (entC (kFi 139) (cFi 139 qC)) := loop_cutW (kill := killA 0 (kFi 139)) T2_ok mixed (muFi 139) (by kernel_rfl) (noCuts_ok _) fun v h => p149l v.1.1 v.1.2 v.2.1.1 v.2.2.1 v.2.2.2.1 h
theorem in150 : CutOK Try.prog Try.f150.ntmps (codeAt 0 (bodyF Try.f150)) [0, 1, 7, 8] [4] (entC (kFi 141) (cFi 141 qF)) := loop_cutW (kill := killA 0 (kFi 141)) T2_ok mixed (muFi 141) (by kernel_rfl) (noCuts_ok _) fun v h => p150l v.1.1 v.1.2 v.2.1.1 v.2.2.1 v.2.2.2.1 h
theorem T3_ok : TableOK Try.prog T3 :=
  ext_ok (entV_ok Try.call149 (liftV T2_ok mixed Try.func149 (show Try.f149.body = some (bodyF Try.f149) from rfl) (cut_cons (by kernel_rfl) in149 (noCuts_ok _)) (by decide) fun v h => p149 v.1.1 v.1.2 v.2.1.1 (of_decide_eq_true h)))
  (ext_ok (entV_ok Try.call150 (liftV T2_ok mixed Try.func150 (show Try.f150.body = some (bodyF Try.f150) from rfl) (cut_cons (by kernel_rfl) in150 (noCuts_ok _)) (by decide) fun v h => p150 v.1.1 v.1.2 v.2.1.1 (of_decide_eq_true h))) T2_ok)
theorem p138 (l : List It) (nl : Bool) (b : It) (h : l.length ≤ 1000) : b138L l nl b = some (.sc (.bool (decide (anyI (qC b) l ≥ 0))), BF l b) := by
  rw [b138]
  simp only [List.take_length, Nat.zero_add, len_true, cond_true]
  exact guard_split (decide_eq_true h) rfl
theorem p140 (l : List It) (nl : Bool) (b : It) (h : l.length ≤ 1000) : b140L l nl b = some (.sc (.bool (decide (anyI (qF b) l ≥ 0))), BF l b) := by
  rw [b140]
  simp only [List.take_length, Nat.zero_add, len_true, cond_true]
  exact guard_split (decide_eq_true h) rfl
theorem T4_ok : TableOK Try.prog T4 :=
  ext_ok (entV_ok Try.call138 (liftV T3_ok mixed Try.func138 (show Try.f138.body = some (bodyF Try.f138) from rfl) (noCuts_ok _) (by decide) fun v h => p138 v.1.1 v.1.2 v.2.1.1 (of_decide_eq_true h)))
  (ext_ok (entV_ok Try.call140 (liftV T3_ok mixed Try.func140 (show Try.f140.body = some (bodyF Try.f140) from rfl) (noCuts_ok _) (by decide) fun v h => p140 v.1.1 v.1.2 v.2.1.1 (of_decide_eq_true h))) T3_ok)
theorem T5_ok : TableOK Try.prog T5 :=
  ext_ok (entV_ok Try.call119 (liftV T4_ok mixed Try.func119 (show Try.f119.body = some (bodyF Try.f119) from rfl) (noCuts_ok _) (by decide) fun v h => p119 v.1 v.2.1.1 v.2.1.2 (of_decide_eq_true h)))
  (ext_ok (entV_ok Try.call120 (liftV T4_ok mixed Try.func120 (show Try.f120.body = some (bodyF Try.f120) from rfl) (noCuts_ok _) (by decide) fun v h => p120 v.1 v.2.1.1 v.2.1.2 (of_decide_eq_true h))) T4_ok)
theorem in74 : CutOK Try.prog Try.f74.ntmps (codeAt 0 (bodyF Try.f74)) [8, 9, 10] [2] (entC kCk cCk) := loop_cutW (kill := killA 0 kCk) (T0_ok _) mixed muCk (by kernel_rfl) (noCuts_ok _) fun v h => p74l v.1.1 v.1.2 v.2.1 v.2.2.1 h
theorem in24 : CutOK Try.prog Try.f24.ntmps (codeAt 0 (bodyF Try.f24)) [8, 9, 10] [2] (entC kCk cCk) := loop_cutW (kill := killA 0 kCk) T1_ok mixed muCk (by kernel_rfl) (noCuts_ok _) fun v h => p24l v.1.1 v.1.2 v.2.1 v.2.2.1 h
theorem e74 : EntOK Try.prog 74 (entV [rIt] (specP [rIt] [sI] (fun _ => true) fun v => (chkL v.1.1, ()))) := entV_ok Try.call74 (liftV (T0_ok _) mixed Try.func74 (show Try.f74.body = some (bodyF Try.f74) from rfl) (cut_cons (by kernel_rfl) in74 (noCuts_ok _)) (by decide) fun v h => p74 v.1.1 v.1.2)
theorem e24 : EntOK Try.prog 24 (entV [rIt] (specP [rIt] [sI] (fun _ => true) fun v => (chkL v.1.1, ()))) := entV_ok Try.call24 (liftV T1_ok mixed Try.func24 (show Try.f24.body = some (bodyF Try.f24) from rfl) (cut_cons (by kernel_rfl) in24 (noCuts_ok _)) (by decide) fun v h => p24 v.1.1 v.1.2)
end Go.Proofs.YtacdahpjmeianaaLb
