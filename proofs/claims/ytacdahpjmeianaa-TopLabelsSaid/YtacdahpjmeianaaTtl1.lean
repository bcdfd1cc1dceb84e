/- What is proved: the law TopLabels answers true for all values. No condition. -/
import Derived.Test.YtacdahpjmeianaaTtl0
namespace Go.Proofs.YtacdahpjmeianaaLb
open Go Go.Proofs Go.Proofs.YtacdahpjmeianaaEv
set_option maxRecDepth 100000
set_option linter.unusedSimpArgs false
set_option linter.unusedVariables false
noncomputable abbrev t118L (a0 : Int) (a1 : Int) := evFuncV Try.prog T0 noCuts Try.f118 (killA 0 [sI, sI]) (showA 0 [sI, sI] (a0, (a1, ()))).1 (showA 0 [sI, sI] (a0, (a1, ()))).2
theorem t118 (a0 : Int) (a1 : Int) : t118L a0 a1 = (guardB (!decide (a1 = 0))
  (guardB (!decide (a1 = 0))
    (bif decide (a0.tmod a1 < 0) then
      some (PV.sc (Value.int IntKind.i64 (IntKind.i64.wrap (IntKind.i64.wrap (a0.tdiv a1) - 1))), [])
    else some (PV.sc (Value.int IntKind.i64 (IntKind.i64.wrap (a0.tdiv a1))), [])))) := by kernel_rfl
noncomputable abbrev t70L (a0 : Vw) := evFuncV Try.prog T0 noCuts Try.f70 (killA 0 [sV]) (showA 0 [sV] (a0, ())).1 (showA 0 [sV] (a0, ())).2
theorem t70 (a0 : Vw) : t70L a0 = (bif decide (a0.fst.fst < -1000000) then some (PV.sc (Value.int IntKind.i64 4), [])
else
  bif decide (a0.fst.fst > 1000000) then some (PV.sc (Value.int IntKind.i64 4), [])
  else
    bif decide (a0.fst.snd < -1000000) then some (PV.sc (Value.int IntKind.i64 4), [])
    else
      bif decide (a0.fst.snd > 1000000) then some (PV.sc (Value.int IntKind.i64 4), [])
      else
        bif decide (a0.snd.fst < 1) then some (PV.sc (Value.int IntKind.i64 4), [])
        else
          bif decide (a0.snd.fst > 50000) then some (PV.sc (Value.int IntKind.i64 4), [])
          else
            bif decide (a0.snd.snd.fst < 1) then some (PV.sc (Value.int IntKind.i64 4), [])
            else
              bif decide (a0.snd.snd.fst > 60) then some (PV.sc (Value.int IntKind.i64 4), [])
              else
                bif decide (a0.snd.snd.snd < 1) then some (PV.sc (Value.int IntKind.i64 4), [])
                else
                  bif decide (a0.snd.snd.snd > 60) then some (PV.sc (Value.int IntKind.i64 4), [])
                  else some (PV.sc (Value.int IntKind.i64 0), [])) := by kernel_rfl
noncomputable abbrev t71L (a0 : Int) (a1 : Int) := evFuncV Try.prog T0 noCuts Try.f71 (killA 0 [sP]) (showA 0 [sP] ((a0, a1), ())).1 (showA 0 [sP] ((a0, a1), ())).2
theorem t71 (a0 : Int) (a1 : Int) : t71L a0 a1 = (bif decide (a0 ≥ -1000000) then
  bif decide (a0 ≤ 1000000) then
    bif decide (a1 ≥ -1000000) then some (PV.sc (Value.bool (decide (a1 ≤ 1000000))), [])
    else some (PV.sc (Value.bool false), [])
  else some (PV.sc (Value.bool false), [])
else some (PV.sc (Value.bool false), [])) := by kernel_rfl
noncomputable abbrev t73L (a0 : Vw) (a1 : Int) (a2 : Int) := evFuncV Try.prog T0 noCuts Try.f73 (killA 0 [sV, sP]) (showA 0 [sV, sP] (a0, ((a1, a2), ()))).1 (showA 0 [sV, sP] (a0, ((a1, a2), ()))).2
theorem t73 (a0 : Vw) (a1 : Int) (a2 : Int) : t73L a0 a1 a2 = (bif decide (a1 ≥ 0) then
  bif decide (a1 < a0.snd.snd.fst) then
    bif decide (a2 ≥ 0) then some (PV.sc (Value.bool (decide (a2 < a0.snd.snd.snd))), [])
    else some (PV.sc (Value.bool false), [])
  else some (PV.sc (Value.bool false), [])
else some (PV.sc (Value.bool false), [])) := by kernel_rfl
noncomputable abbrev t72L (a0 : Vw) (a1 : Int) (a2 : Int) := evFuncV Try.prog U1 noCuts Try.f72 (killA 0 [sV, sP]) (showA 0 [sV, sP] (a0, ((a1, a2), ()))).1 (showA 0 [sV, sP] (a0, ((a1, a2), ()))).2
theorem t72 (a0 : Vw) (a1 : Int) (a2 : Int) : t72L a0 a1 a2 = (guardB (decide (a0.snd.fst ≠ 0))
  (guardB (decide (a0.snd.fst ≠ 0))
    (some
      (PV.agg
          [PV.sc
              (Value.int IntKind.i64
                (IntKind.i64.wrap
                  (downS (IntKind.i64.wrap (a1 - a0.fst.fst)) a0.snd.fst +
                    IntKind.i64.wrap (Int.tdiv a0.snd.snd.fst 2)))),
            PV.sc
              (Value.int IntKind.i64
                (IntKind.i64.wrap
                  (downS (IntKind.i64.wrap (a2 - a0.fst.snd)) a0.snd.fst +
                    IntKind.i64.wrap (Int.tdiv a0.snd.snd.snd 2))))],
        [])))) := by kernel_rfl
noncomputable abbrev t13L (a0 : Vw) (a1 : Int) (a2 : Int) := evFuncV Try.prog U2 noCuts Try.f13 (killA 0 [sV, sP]) (showA 0 [sV, sP] (a0, ((a1, a2), ()))).1 (showA 0 [sV, sP] (a0, ((a1, a2), ()))).2
theorem t13 (a0 : Vw) (a1 : Int) (a2 : Int) : t13L a0 a1 a2 = (bif chkV a0 != 0 then
  some
    (PV.tup
        [PV.agg [PV.sc (Value.int IntKind.i64 0), PV.sc (Value.int IntKind.i64 0)], PV.sc (Value.bool false),
          PV.sc (Value.int IntKind.i64 (chkV a0))],
      [])
else
  bif !decide (ptN a1 a2) then
    some
      (PV.tup
          [PV.agg [PV.sc (Value.int IntKind.i64 0), PV.sc (Value.int IntKind.i64 0)], PV.sc (Value.bool false),
            PV.sc (Value.int IntKind.i64 4)],
        [])
  else
    guardB (decide (chkV a0 = 0))
      (some
        (PV.tup
            [PV.agg
                [PV.sc
                    (Value.int IntKind.i64
                      (W (downS (W (a1 - a0.fst.fst)) a0.snd.fst + W (Int.tdiv a0.snd.snd.fst 2)))),
                  PV.sc
                    (Value.int IntKind.i64
                      (W (downS (W (a2 - a0.fst.snd)) a0.snd.fst + W (Int.tdiv a0.snd.snd.snd 2))))],
              PV.sc
                (Value.bool
                  (visS a0
                    (W (downS (W (a1 - a0.fst.fst)) a0.snd.fst + W (Int.tdiv a0.snd.snd.fst 2)),
                      W (downS (W (a2 - a0.fst.snd)) a0.snd.fst + W (Int.tdiv a0.snd.snd.snd 2))))),
              PV.sc (Value.int IntKind.i64 0)],
          []))) := by kernel_rfl
noncomputable abbrev t17L (a0 : It) (a1 : Int) := evFuncV Try.prog U17 noCuts Try.f17 (killA 0 [sIt, sI]) (showA 0 [sIt, sI] (a0, (a1, ()))).1 (showA 0 [sIt, sI] (a0, (a1, ()))).2
theorem t17 (a0 : It) (a1 : Int) : t17L a0 a1 = (bif chkL [a0] != 0 then
  some
    (PV.tup
        [PV.agg
            [PV.sc (Value.int IntKind.i64 0), PV.sc (Value.int IntKind.i64 0), PV.sc (Value.int IntKind.i64 0),
              PV.sc (Value.int IntKind.i64 0)],
          PV.sc (Value.int IntKind.i64 (chkL [a0]))],
      [])
else
  bif decide (a1 < 0) then
    some
      (PV.tup
          [PV.agg
              [PV.sc (Value.int IntKind.i64 0), PV.sc (Value.int IntKind.i64 0), PV.sc (Value.int IntKind.i64 0),
                PV.sc (Value.int IntKind.i64 0)],
            PV.sc (Value.int IntKind.i64 1)],
        [])
  else
    bif decide (a1 ≥ 8) then
      some
        (PV.tup
            [PV.agg
                [PV.sc (Value.int IntKind.i64 0), PV.sc (Value.int IntKind.i64 0), PV.sc (Value.int IntKind.i64 0),
                  PV.sc (Value.int IntKind.i64 0)],
              PV.sc (Value.int IntKind.i64 1)],
          [])
    else
      some
        (PV.tup
            [PV.agg
                [PV.sc (Value.int IntKind.i64 (boxX a0 a1)), PV.sc (Value.int IntKind.i64 (boxY a0 a1)),
                  PV.sc (Value.int IntKind.i64 a0.snd.snd.fst), PV.sc (Value.int IntKind.i64 a0.snd.snd.snd)],
              PV.sc (Value.int IntKind.i64 0)],
          [])) := by kernel_rfl
noncomputable abbrev t3aL (a0 : Int) (a1 : Int) (a2 : Vw) (a3 : List (Int × Int × Int × Int)) (a4 : Bool) (a5 : List (Int × Int)) (a6 : Bool) (a7 : Int) (a8 : Int) := evRound Try.prog U3 noCuts 144 (loopOf (codeAt 0 (bodyF Try.f3))) kTa muTa (killA 0 kTa) [2, 3, 4, 9, 32, 33, 34] [9] cTa (a0, (a1, (a2, ((a3, a4), ((a5, a6), (a7, (a8, ())))))))
theorem t3a (a0 : Int) (a1 : Int) (a2 : Vw) (a3 : List (Int × Int × Int × Int)) (a4 : Bool) (a5 : List (Int × Int)) (a6 : Bool) (a7 : Int) (a8 : Int) : t3aL a0 a1 a2 a3 a4 a5 a6 a7 a8 = (bif decide (a8 < a7) then
  guardB (decide (0 ≤ a8) && decide (a8 < (↑a5.length : Int)))
    (bindO a5[0 + a8.toNat]? fun x =>
      bif (CellS a2 x).snd.snd == 0 then
        bif (CellS a2 x).snd.fst then
          guardB
            (decide (0 + a3.length ≤ a3.length) && true && decide ((a3.length + 1) * 32 ≤ 140737488355328) &&
              decide (a3.length + 1 ≤ 4611686018427387904))
            (guardB
              (decide
                (muTa
                    (a0, a1, a2,
                      (List.take a3.length a3 ++
                          [((CellS a2 x).fst.fst, (CellS a2 x).fst.snd, cutS a0 1 8, cutS a1 1 3)],
                        false),
                      (List.take a5.length a5, a6), a7, IntKind.i64.wrap (a8 + 1), PUnit.unit) <
                  muTa (a0, a1, a2, (a3, a4), (a5, a6), a7, a8, ())))
              (guardB
                (bif
                    decide
                      (a3.length + 1 =
                        (List.take a3.length a3 ++
                            [((CellS a2 x).fst.fst, (CellS a2 x).fst.snd, cutS a0 1 8, cutS a1 1 3)]).length) then
                  bif decide (0 + a5.length ≤ a5.length) then
                    preTa
                      (List.take a3.length a3 ++
                        [((CellS a2 x).fst.fst, (CellS a2 x).fst.snd, cutS a0 1 8, cutS a1 1 3)])
                      (List.take a5.length a5) a7 (IntKind.i64.wrap (a8 + 1))
                  else false
                else false)
                (some
                  (Xt.exit 0,
                    [PV.sl 3 0 4
                        (List.take a3.length a3 ++
                              [((CellS a2 x).fst.fst, (CellS a2 x).fst.snd, cutS a0 1 8, cutS a1 1 3)] ++
                            labsK a0 a1 a2 (List.take a5.length a5) (IntKind.i64.wrap (a8 + 1))).length
                        (List.take a3.length a3 ++
                              [((CellS a2 x).fst.fst, (CellS a2 x).fst.snd, cutS a0 1 8, cutS a1 1 3)] ++
                            labsK a0 a1 a2 (List.take a5.length a5) (IntKind.i64.wrap (a8 + 1))).length
                        false false],
                    [Blk.fix false
                        [PV.sc (Value.int IntKind.i64 a2.fst.fst), PV.sc (Value.int IntKind.i64 a2.fst.snd),
                          PV.sc (Value.int IntKind.i64 a2.snd.fst), PV.sc (Value.int IntKind.i64 a2.snd.snd.fst),
                          PV.sc (Value.int IntKind.i64 a2.snd.snd.snd)],
                      Blk.dead, Blk.row false ((Kd.int IntKind.i64).pair (Kd.int IntKind.i64)) a5,
                      Blk.row true
                        ((Kd.int IntKind.i64).pair
                          ((Kd.int IntKind.i64).pair ((Kd.int IntKind.i64).pair (Kd.int IntKind.i64))))
                        (List.take a3.length a3 ++
                            [((CellS a2 x).fst.fst, (CellS a2 x).fst.snd, cutS a0 1 8, cutS a1 1 3)] ++
                          labsK a0 a1 a2 (List.take a5.length a5) (IntKind.i64.wrap (a8 + 1)))]))))
        else
          guardB
            (decide
              (muTa (a0, a1, a2, (a3, a4), (List.take a5.length a5, a6), a7, IntKind.i64.wrap (a8 + 1), PUnit.unit) <
                muTa (a0, a1, a2, (a3, a4), (a5, a6), a7, a8, ())))
            (guardB
              (bif decide (a3.length = a3.length) then
                bif decide (0 + a5.length ≤ a5.length) then
                  preTa a3 (List.take a5.length a5) a7 (IntKind.i64.wrap (a8 + 1))
                else false
              else false)
              (some
                (Xt.exit 0,
                  [PV.sl 3 0 4 (a3 ++ labsK a0 a1 a2 (List.take a5.length a5) (IntKind.i64.wrap (a8 + 1))).length
                      (a3 ++ labsK a0 a1 a2 (List.take a5.length a5) (IntKind.i64.wrap (a8 + 1))).length false
                      (a4 && (labsK a0 a1 a2 (List.take a5.length a5) (IntKind.i64.wrap (a8 + 1))).isEmpty)],
                  [Blk.fix false
                      [PV.sc (Value.int IntKind.i64 a2.fst.fst), PV.sc (Value.int IntKind.i64 a2.fst.snd),
                        PV.sc (Value.int IntKind.i64 a2.snd.fst), PV.sc (Value.int IntKind.i64 a2.snd.snd.fst),
                        PV.sc (Value.int IntKind.i64 a2.snd.snd.snd)],
                    Blk.dead, Blk.row false ((Kd.int IntKind.i64).pair (Kd.int IntKind.i64)) a5,
                    Blk.row true
                      ((Kd.int IntKind.i64).pair
                        ((Kd.int IntKind.i64).pair ((Kd.int IntKind.i64).pair (Kd.int IntKind.i64))))
                      (a3 ++ labsK a0 a1 a2 (List.take a5.length a5) (IntKind.i64.wrap (a8 + 1)))])))
      else
        guardB
          (decide
            (muTa (a0, a1, a2, (a3, a4), (List.take a5.length a5, a6), a7, IntKind.i64.wrap (a8 + 1), PUnit.unit) <
              muTa (a0, a1, a2, (a3, a4), (a5, a6), a7, a8, ())))
          (guardB
            (bif decide (a3.length = a3.length) then
              bif decide (0 + a5.length ≤ a5.length) then
                preTa a3 (List.take a5.length a5) a7 (IntKind.i64.wrap (a8 + 1))
              else false
            else false)
            (some
              (Xt.exit 0,
                [PV.sl 3 0 4 (a3 ++ labsK a0 a1 a2 (List.take a5.length a5) (IntKind.i64.wrap (a8 + 1))).length
                    (a3 ++ labsK a0 a1 a2 (List.take a5.length a5) (IntKind.i64.wrap (a8 + 1))).length false
                    (a4 && (labsK a0 a1 a2 (List.take a5.length a5) (IntKind.i64.wrap (a8 + 1))).isEmpty)],
                [Blk.fix false
                    [PV.sc (Value.int IntKind.i64 a2.fst.fst), PV.sc (Value.int IntKind.i64 a2.fst.snd),
                      PV.sc (Value.int IntKind.i64 a2.snd.fst), PV.sc (Value.int IntKind.i64 a2.snd.snd.fst),
                      PV.sc (Value.int IntKind.i64 a2.snd.snd.snd)],
                  Blk.dead, Blk.row false ((Kd.int IntKind.i64).pair (Kd.int IntKind.i64)) a5,
                  Blk.row true
                    ((Kd.int IntKind.i64).pair
                      ((Kd.int IntKind.i64).pair ((Kd.int IntKind.i64).pair (Kd.int IntKind.i64))))
                    (a3 ++ labsK a0 a1 a2 (List.take a5.length a5) (IntKind.i64.wrap (a8 + 1)))]))))
else
  some
    (Xt.exit 0, [PV.sl 3 0 4 a3.length a3.length false a4],
      [Blk.fix false
          [PV.sc (Value.int IntKind.i64 a2.fst.fst), PV.sc (Value.int IntKind.i64 a2.fst.snd),
            PV.sc (Value.int IntKind.i64 a2.snd.fst), PV.sc (Value.int IntKind.i64 a2.snd.snd.fst),
            PV.sc (Value.int IntKind.i64 a2.snd.snd.snd)],
        Blk.dead, Blk.row false ((Kd.int IntKind.i64).pair (Kd.int IntKind.i64)) a5,
        Blk.row true
          ((Kd.int IntKind.i64).pair ((Kd.int IntKind.i64).pair ((Kd.int IntKind.i64).pair (Kd.int IntKind.i64)))) a3])) := by kernel_rfl
noncomputable abbrev t3dL (a0 : It) (a1 : List (Int × Int × Int × Int)) (a2 : Bool) (a3 : Int) (a4 : Int) := evRound Try.prog U3 noCuts 144 (loopOf (codeAt 4 (bodyF Try.f3))) kTd muTd (killA 0 kTd) [22, 115, 116, 117] [8] (cTd qC 4) (a0, ((a1, a2), (a3, (a4, ()))))
theorem t3d (a0 : It) (a1 : List (Int × Int × Int × Int)) (a2 : Bool) (a3 : Int) (a4 : Int) : t3dL a0 a1 a2 a3 a4 = (bif decide (a4 < a3) then
  guardB (decide (0 ≤ a4) && decide (a4 < (↑a1.length : Int)))
    (bindO a1[0 + a4.toNat]? fun x =>
      bif meetW a0 (x.fst, x.snd.fst, 1, 1) then
        some
          (Xt.ret, [PV.sc (Value.bool false)],
            [Blk.fix false
                [PV.sc (Value.int IntKind.i64 a0.fst), PV.sc (Value.int IntKind.i64 a0.snd.fst),
                  PV.sc (Value.int IntKind.i64 a0.snd.snd.fst), PV.sc (Value.int IntKind.i64 a0.snd.snd.snd)],
              Blk.row false
                ((Kd.int IntKind.i64).pair ((Kd.int IntKind.i64).pair ((Kd.int IntKind.i64).pair (Kd.int IntKind.i64))))
                a1])
      else
        guardB
          (decide
            (muTd (a0, (List.take a1.length a1, a2), a3, IntKind.i64.wrap (a4 + 1), PUnit.unit) <
              muTd (a0, (a1, a2), a3, a4, ())))
          (guardB
            (bif decide (0 + a1.length ≤ a1.length) then preFi (List.take a1.length a1) a3 (IntKind.i64.wrap (a4 + 1))
            else false)
            (bif !(List.drop (IntKind.i64.wrap (a4 + 1)).toNat (List.take a1.length a1)).any (qC a0) then
              some
                (Xt.exit 4, [PV.undef],
                  [Blk.fix false
                      [PV.sc (Value.int IntKind.i64 a0.fst), PV.sc (Value.int IntKind.i64 a0.snd.fst),
                        PV.sc (Value.int IntKind.i64 a0.snd.snd.fst), PV.sc (Value.int IntKind.i64 a0.snd.snd.snd)],
                    Blk.row false
                      ((Kd.int IntKind.i64).pair
                        ((Kd.int IntKind.i64).pair ((Kd.int IntKind.i64).pair (Kd.int IntKind.i64))))
                      a1])
            else
              some
                (Xt.ret, [PV.sc (Value.bool false)],
                  [Blk.fix false
                      [PV.sc (Value.int IntKind.i64 a0.fst), PV.sc (Value.int IntKind.i64 a0.snd.fst),
                        PV.sc (Value.int IntKind.i64 a0.snd.snd.fst), PV.sc (Value.int IntKind.i64 a0.snd.snd.snd)],
                    Blk.row false
                      ((Kd.int IntKind.i64).pair
                        ((Kd.int IntKind.i64).pair ((Kd.int IntKind.i64).pair (Kd.int IntKind.i64))))
                      a1]))))
else
  some
    (Xt.exit 4, [PV.undef],
      [Blk.fix false
          [PV.sc (Value.int IntKind.i64 a0.fst), PV.sc (Value.int IntKind.i64 a0.snd.fst),
            PV.sc (Value.int IntKind.i64 a0.snd.snd.fst), PV.sc (Value.int IntKind.i64 a0.snd.snd.snd)],
        Blk.row false
          ((Kd.int IntKind.i64).pair ((Kd.int IntKind.i64).pair ((Kd.int IntKind.i64).pair (Kd.int IntKind.i64)))) a1])) := by kernel_rfl
noncomputable abbrev t3fL (a0 : It) (a1 : List (Int × Int × Int × Int)) (a2 : Bool) (a3 : Int) (a4 : Int) := evRound Try.prog U3 noCuts 144 (loopOf (codeAt 6 (bodyF Try.f3))) kTd muTd (killA 0 kTd) [22, 129, 130, 131] [8] (cTd qF 6) (a0, ((a1, a2), (a3, (a4, ()))))
theorem t3f (a0 : It) (a1 : List (Int × Int × Int × Int)) (a2 : Bool) (a3 : Int) (a4 : Int) : t3fL a0 a1 a2 a3 a4 = (bif decide (a4 < a3) then
  guardB (decide (0 ≤ a4) && decide (a4 < (↑a1.length : Int)))
    (bindO a1[0 + a4.toNat]? fun x =>
      bif meetW a0 x then
        some
          (Xt.ret, [PV.sc (Value.bool false)],
            [Blk.fix false
                [PV.sc (Value.int IntKind.i64 a0.fst), PV.sc (Value.int IntKind.i64 a0.snd.fst),
                  PV.sc (Value.int IntKind.i64 a0.snd.snd.fst), PV.sc (Value.int IntKind.i64 a0.snd.snd.snd)],
              Blk.row false
                ((Kd.int IntKind.i64).pair ((Kd.int IntKind.i64).pair ((Kd.int IntKind.i64).pair (Kd.int IntKind.i64))))
                a1])
      else
        guardB
          (decide
            (muTd (a0, (List.take a1.length a1, a2), a3, IntKind.i64.wrap (a4 + 1), PUnit.unit) <
              muTd (a0, (a1, a2), a3, a4, ())))
          (guardB
            (bif decide (0 + a1.length ≤ a1.length) then preFi (List.take a1.length a1) a3 (IntKind.i64.wrap (a4 + 1))
            else false)
            (bif !(List.drop (IntKind.i64.wrap (a4 + 1)).toNat (List.take a1.length a1)).any (qF a0) then
              some
                (Xt.exit 6, [PV.undef],
                  [Blk.fix false
                      [PV.sc (Value.int IntKind.i64 a0.fst), PV.sc (Value.int IntKind.i64 a0.snd.fst),
                        PV.sc (Value.int IntKind.i64 a0.snd.snd.fst), PV.sc (Value.int IntKind.i64 a0.snd.snd.snd)],
                    Blk.row false
                      ((Kd.int IntKind.i64).pair
                        ((Kd.int IntKind.i64).pair ((Kd.int IntKind.i64).pair (Kd.int IntKind.i64))))
                      a1])
            else
              some
                (Xt.ret, [PV.sc (Value.bool false)],
                  [Blk.fix false
                      [PV.sc (Value.int IntKind.i64 a0.fst), PV.sc (Value.int IntKind.i64 a0.snd.fst),
                        PV.sc (Value.int IntKind.i64 a0.snd.snd.fst), PV.sc (Value.int IntKind.i64 a0.snd.snd.snd)],
                    Blk.row false
                      ((Kd.int IntKind.i64).pair
                        ((Kd.int IntKind.i64).pair ((Kd.int IntKind.i64).pair (Kd.int IntKind.i64))))
                      a1]))))
else
  some
    (Xt.exit 6, [PV.undef],
      [Blk.fix false
          [PV.sc (Value.int IntKind.i64 a0.fst), PV.sc (Value.int IntKind.i64 a0.snd.fst),
            PV.sc (Value.int IntKind.i64 a0.snd.snd.fst), PV.sc (Value.int IntKind.i64 a0.snd.snd.snd)],
        Blk.row false
          ((Kd.int IntKind.i64).pair ((Kd.int IntKind.i64).pair ((Kd.int IntKind.i64).pair (Kd.int IntKind.i64)))) a1])) := by kernel_rfl
noncomputable abbrev t3bL (a0 : List (Int × Int × Int × Int)) (a1 : Bool) (a2 : List Int) (a3 : Bool) (a4 : List (Int × Int × Int × Int)) (a5 : Bool) (a6 : List (Int × Int × Int × Int)) (a7 : Bool) (a8 : Int) (a9 : Int) := evRound Try.prog U3 (addCut 4 [22, 115, 116, 117] [8] (entC kTd (cTd qC 4)) (addCut 6 [22, 129, 130, 131] [8] (entC kTd (cTd qF 6)) noCuts)) 144 (loopOf (codeAt 2 (bodyF Try.f3))) kTb muTb (killA 0 kTb) [9, 17, 19, 97, 98, 99] [8] cTb ((a0, a1), ((a2, a3), ((a4, a5), ((a6, a7), (a8, (a9, ()))))))
theorem t3b (a0 : List (Int × Int × Int × Int)) (a1 : Bool) (a2 : List Int) (a3 : Bool) (a4 : List (Int × Int × Int × Int)) (a5 : Bool) (a6 : List (Int × Int × Int × Int)) (a7 : Bool) (a8 : Int) (a9 : Int) : t3bL a0 a1 a2 a3 a4 a5 a6 a7 a8 a9 = (bif decide (a9 < a8) then
  guardB (decide (0 ≤ a9) && decide (a9 < (↑a6.length : Int)))
    (bindO a6[0 + a9.toNat]? fun x =>
      guardB (decide (0 ≤ a9) && decide (a9 < (↑a2.length : Int)))
        (bindO a2[0 + a9.toNat]? fun x_1 =>
          bif BoxE x x_1 != 0 then
            some
              (Xt.ret, [PV.sc (Value.bool false)],
                [Blk.row false
                    ((Kd.int IntKind.i64).pair
                      ((Kd.int IntKind.i64).pair ((Kd.int IntKind.i64).pair (Kd.int IntKind.i64))))
                    a0,
                  Blk.row false (Kd.int IntKind.i64) a2, Blk.dead,
                  Blk.row false
                    ((Kd.int IntKind.i64).pair
                      ((Kd.int IntKind.i64).pair ((Kd.int IntKind.i64).pair (Kd.int IntKind.i64))))
                    a6])
          else
            guardB
              (bif decide (0 + a0.length ≤ a0.length) then preFi (List.take a0.length a0) (↑a0.length : Int) 0
              else false)
              (bif
                  !(List.drop (Int.toNat 0) (List.take a0.length a0)).any
                      (qC (bif decide (BoxE x x_1 = 0) then boxS x x_1 else zIt)) then
                guardB
                  (bif decide (0 + a4.length ≤ a4.length) then preFi (List.take a4.length a4) (↑a4.length : Int) 0
                  else false)
                  (bif
                      !(List.drop (Int.toNat 0) (List.take a4.length a4)).any
                          (qF (bif decide (BoxE x x_1 = 0) then boxS x x_1 else zIt)) then
                    guardB
                      (decide (0 + a4.length ≤ a4.length) && true && decide ((a4.length + 1) * 32 ≤ 140737488355328) &&
                        decide (a4.length + 1 ≤ 4611686018427387904))
                      (guardB
                        (decide
                          (muTb
                              ((List.take a0.length a0, a1), (List.take a2.length a2, a3),
                                (List.take a4.length a4 ++ [bif decide (BoxE x x_1 = 0) then boxS x x_1 else zIt],
                                  false),
                                (List.take a6.length a6, a7), a8, IntKind.i64.wrap (a9 + 1), PUnit.unit) <
                            muTb ((a0, a1), (a2, a3), (a4, a5), (a6, a7), a8, a9, ())))
                        (guardB
                          (bif decide (0 + a0.length ≤ a0.length) then
                            bif decide (0 + a2.length ≤ a2.length) then
                              bif
                                  decide
                                    (a4.length + 1 =
                                      (List.take a4.length a4 ++
                                          [bif decide (BoxE x x_1 = 0) then boxS x x_1 else zIt]).length) then
                                bif decide (0 + a6.length ≤ a6.length) then
                                  preTb (List.take a0.length a0) (List.take a2.length a2)
                                    (List.take a4.length a4 ++ [bif decide (BoxE x x_1 = 0) then boxS x x_1 else zIt])
                                    (List.take a6.length a6) a8 (IntKind.i64.wrap (a9 + 1))
                                else false
                              else false
                            else false
                          else false)
                          (some
                            (Xt.exit 2, [PV.undef],
                              [Blk.row false
                                  ((Kd.int IntKind.i64).pair
                                    ((Kd.int IntKind.i64).pair ((Kd.int IntKind.i64).pair (Kd.int IntKind.i64))))
                                  a0,
                                Blk.row false (Kd.int IntKind.i64) a2, Blk.dead,
                                Blk.row false
                                  ((Kd.int IntKind.i64).pair
                                    ((Kd.int IntKind.i64).pair ((Kd.int IntKind.i64).pair (Kd.int IntKind.i64))))
                                  a6]))))
                  else
                    some
                      (Xt.ret, [PV.sc (Value.bool false)],
                        [Blk.row false
                            ((Kd.int IntKind.i64).pair
                              ((Kd.int IntKind.i64).pair ((Kd.int IntKind.i64).pair (Kd.int IntKind.i64))))
                            a0,
                          Blk.row false (Kd.int IntKind.i64) a2, Blk.dead,
                          Blk.row false
                            ((Kd.int IntKind.i64).pair
                              ((Kd.int IntKind.i64).pair ((Kd.int IntKind.i64).pair (Kd.int IntKind.i64))))
                            a6]))
              else
                some
                  (Xt.ret, [PV.sc (Value.bool false)],
                    [Blk.row false
                        ((Kd.int IntKind.i64).pair
                          ((Kd.int IntKind.i64).pair ((Kd.int IntKind.i64).pair (Kd.int IntKind.i64))))
                        a0,
                      Blk.row false (Kd.int IntKind.i64) a2, Blk.dead,
                      Blk.row false
                        ((Kd.int IntKind.i64).pair
                          ((Kd.int IntKind.i64).pair ((Kd.int IntKind.i64).pair (Kd.int IntKind.i64))))
                        a6]))))
else
  some
    (Xt.exit 2, [PV.undef],
      [Blk.row false
          ((Kd.int IntKind.i64).pair ((Kd.int IntKind.i64).pair ((Kd.int IntKind.i64).pair (Kd.int IntKind.i64)))) a0,
        Blk.row false (Kd.int IntKind.i64) a2, Blk.dead,
        Blk.row false
          ((Kd.int IntKind.i64).pair ((Kd.int IntKind.i64).pair ((Kd.int IntKind.i64).pair (Kd.int IntKind.i64)))) a6])) := by kernel_rfl
noncomputable abbrev t3L (a0 : Vw) (a1 : List (Int × Int)) (a2 : Bool) (a3 : Int) (a4 : Int) := evFuncV Try.prog U3 (addCut 0 [2, 3, 4, 9, 32, 33, 34] [9] (entC kTa cTa) (addCut 2 [9, 17, 19, 97, 98, 99] [8] (entC kTb cTb) noCuts)) Try.f3 (killA 0 [sV, rP, sI, sI]) (showA 0 [sV, rP, sI, sI] (a0, ((a1, a2), (a3, (a4, ()))))).1 (showA 0 [sV, rP, sI, sI] (a0, ((a1, a2), (a3, (a4, ()))))).2
theorem t3 (a0 : Vw) (a1 : List (Int × Int)) (a2 : Bool) (a3 : Int) (a4 : Int) : t3L a0 a1 a2 a3 a4 = (guardB (decide (0 ≤ min (↑a1.length : Int) 5) && decide (min (↑a1.length : Int) 5 ≤ (↑a1.length : Int)))
  (guardB
    (bif decide (0 + ((min (↑a1.length : Int) 5).toNat - 0) ≤ a1.length) then
      preTa [] (List.take ((min (↑a1.length : Int) 5).toNat - 0) a1) (↑((min (↑a1.length : Int) 5).toNat - 0) : Int) 0
    else false)
    (guardB
      (bif
          decide
            (0 + ([] ++ labsK a3 a4 a0 (List.take ((min (↑a1.length : Int) 5).toNat - 0) a1) 0).length ≤
              (labsK a3 a4 a0 (List.take ((min (↑a1.length : Int) 5).toNat - 0) a1) 0).length) then
        true
      else false)
      (bif
          (plV
              (List.take ([] ++ labsK a3 a4 a0 (List.take ((min (↑a1.length : Int) 5).toNat - 0) a1) 0).length
                (labsK a3 a4 a0 (List.take ((min (↑a1.length : Int) 5).toNat - 0) a1) 0))).isSome then
        bif
            (↑((plV
                          (List.take
                            ([] ++ labsK a3 a4 a0 (List.take ((min (↑a1.length : Int) 5).toNat - 0) a1) 0).length
                            (labsK a3 a4 a0 (List.take ((min (↑a1.length : Int) 5).toNat - 0) a1) 0))).getD
                      []).length :
                Int) !=
              (↑([] ++ labsK a3 a4 a0 (List.take ((min (↑a1.length : Int) 5).toNat - 0) a1) 0).length : Int) then
          some (PV.sc (Value.bool false), [Blk.row false ((Kd.int IntKind.i64).pair (Kd.int IntKind.i64)) a1])
        else
          guardB
            (bif
                decide
                  (0 + ([] ++ labsK a3 a4 a0 (List.take ((min (↑a1.length : Int) 5).toNat - 0) a1) 0).length ≤
                    (labsK a3 a4 a0 (List.take ((min (↑a1.length : Int) 5).toNat - 0) a1) 0).length) then
              bif
                  decide
                    (0 +
                        ((plV
                                (List.take
                                  ([] ++ labsK a3 a4 a0 (List.take ((min (↑a1.length : Int) 5).toNat - 0) a1) 0).length
                                  (labsK a3 a4 a0 (List.take ((min (↑a1.length : Int) 5).toNat - 0) a1) 0))).getD
                            []).length ≤
                      ((plV
                              (List.take
                                ([] ++ labsK a3 a4 a0 (List.take ((min (↑a1.length : Int) 5).toNat - 0) a1) 0).length
                                (labsK a3 a4 a0 (List.take ((min (↑a1.length : Int) 5).toNat - 0) a1) 0))).getD
                          []).length) then
                bif
                    decide
                      (0 + ([] ++ labsK a3 a4 a0 (List.take ((min (↑a1.length : Int) 5).toNat - 0) a1) 0).length ≤
                        (labsK a3 a4 a0 (List.take ((min (↑a1.length : Int) 5).toNat - 0) a1) 0).length) then
                  preTb
                    (List.take ([] ++ labsK a3 a4 a0 (List.take ((min (↑a1.length : Int) 5).toNat - 0) a1) 0).length
                      (labsK a3 a4 a0 (List.take ((min (↑a1.length : Int) 5).toNat - 0) a1) 0))
                    (List.take
                      ((plV
                              (List.take
                                ([] ++ labsK a3 a4 a0 (List.take ((min (↑a1.length : Int) 5).toNat - 0) a1) 0).length
                                (labsK a3 a4 a0 (List.take ((min (↑a1.length : Int) 5).toNat - 0) a1) 0))).getD
                          []).length
                      ((plV
                            (List.take
                              ([] ++ labsK a3 a4 a0 (List.take ((min (↑a1.length : Int) 5).toNat - 0) a1) 0).length
                              (labsK a3 a4 a0 (List.take ((min (↑a1.length : Int) 5).toNat - 0) a1) 0))).getD
                        []))
                    []
                    (List.take ([] ++ labsK a3 a4 a0 (List.take ((min (↑a1.length : Int) 5).toNat - 0) a1) 0).length
                      (labsK a3 a4 a0 (List.take ((min (↑a1.length : Int) 5).toNat - 0) a1) 0))
                    (↑([] ++ labsK a3 a4 a0 (List.take ((min (↑a1.length : Int) 5).toNat - 0) a1) 0).length : Int) 0
                else false
              else false
            else false)
            (some (PV.sc (Value.bool true), [Blk.row false ((Kd.int IntKind.i64).pair (Kd.int IntKind.i64)) a1]))
      else
        bif
            plE
                (List.take ([] ++ labsK a3 a4 a0 (List.take ((min (↑a1.length : Int) 5).toNat - 0) a1) 0).length
                  (labsK a3 a4 a0 (List.take ((min (↑a1.length : Int) 5).toNat - 0) a1) 0)) !=
              0 then
          bif
              plE
                  (List.take ([] ++ labsK a3 a4 a0 (List.take ((min (↑a1.length : Int) 5).toNat - 0) a1) 0).length
                    (labsK a3 a4 a0 (List.take ((min (↑a1.length : Int) 5).toNat - 0) a1) 0)) ==
                8 then
            some (PV.sc (Value.bool true), [Blk.row false ((Kd.int IntKind.i64).pair (Kd.int IntKind.i64)) a1])
          else some (PV.sc (Value.bool false), [Blk.row false ((Kd.int IntKind.i64).pair (Kd.int IntKind.i64)) a1])
        else
          bif 0 != (↑([] ++ labsK a3 a4 a0 (List.take ((min (↑a1.length : Int) 5).toNat - 0) a1) 0).length : Int) then
            some (PV.sc (Value.bool false), [Blk.row false ((Kd.int IntKind.i64).pair (Kd.int IntKind.i64)) a1])
          else
            guardB
              (bif
                  decide
                    (0 + ([] ++ labsK a3 a4 a0 (List.take ((min (↑a1.length : Int) 5).toNat - 0) a1) 0).length ≤
                      (labsK a3 a4 a0 (List.take ((min (↑a1.length : Int) 5).toNat - 0) a1) 0).length) then
                bif
                    decide
                      (0 + ([] ++ labsK a3 a4 a0 (List.take ((min (↑a1.length : Int) 5).toNat - 0) a1) 0).length ≤
                        (labsK a3 a4 a0 (List.take ((min (↑a1.length : Int) 5).toNat - 0) a1) 0).length) then
                  preTb
                    (List.take ([] ++ labsK a3 a4 a0 (List.take ((min (↑a1.length : Int) 5).toNat - 0) a1) 0).length
                      (labsK a3 a4 a0 (List.take ((min (↑a1.length : Int) 5).toNat - 0) a1) 0))
                    [] []
                    (List.take ([] ++ labsK a3 a4 a0 (List.take ((min (↑a1.length : Int) 5).toNat - 0) a1) 0).length
                      (labsK a3 a4 a0 (List.take ((min (↑a1.length : Int) 5).toNat - 0) a1) 0))
                    (↑([] ++ labsK a3 a4 a0 (List.take ((min (↑a1.length : Int) 5).toNat - 0) a1) 0).length : Int) 0
                else false
              else false)
              (some (PV.sc (Value.bool true), [Blk.row false ((Kd.int IntKind.i64).pair (Kd.int IntKind.i64)) a1])))))) := by kernel_rfl
theorem q118 (a b : Int) (h : b ≠ 0) : t118L a b = some (.sc (.int .i64 (downS a b)), []) := by
  rw [t118]; unfold downS
  have hb : (!decide (b = 0)) = true := by rw [decide_eq_false h]; rfl
  refine guard_split hb (guard_split hb ?_)
  cases decide (a.tmod b < 0) <;> rfl
theorem q70 (v : Vw) : t70L v = some (.sc (.int .i64 (chkV v)), []) := by
  rw [t70]
  have bad : ∀ {c : Bool} {z : Option (PV × List Blk)}, (c = true → ¬ vwOk v) → (c = false → z = some (.sc (.int .i64 (chkV v)), [])) → cond c (some (.sc (.int .i64 4), [])) z = some (.sc (.int .i64 (chkV v)), []) := fun {c z} a b => by
    cases c with
    | true => unfold chkV; rw [if_neg (a rfl)]; rfl
    | false => exact b rfl
  refine bad (fun h k => ?_) (fun c1 => ?_)
  · have : @LT.lt Int _ v.1.1 (-1000000) := of_decide_eq_true h
    obtain ⟨g1, g2, g3, g4, g5, g6, g7, g8, g9, g10⟩ := k; omega
  refine bad (fun h k => ?_) (fun c2 => ?_)
  · have : @GT.gt Int _ v.1.1 1000000 := of_decide_eq_true h
    obtain ⟨g1, g2, g3, g4, g5, g6, g7, g8, g9, g10⟩ := k; omega
  refine bad (fun h k => ?_) (fun c3 => ?_)
  · have : @LT.lt Int _ v.1.2 (-1000000) := of_decide_eq_true h
    obtain ⟨g1, g2, g3, g4, g5, g6, g7, g8, g9, g10⟩ := k; omega
  refine bad (fun h k => ?_) (fun c4 => ?_)
  · have : @GT.gt Int _ v.1.2 1000000 := of_decide_eq_true h
    obtain ⟨g1, g2, g3, g4, g5, g6, g7, g8, g9, g10⟩ := k; omega
  refine bad (fun h k => ?_) (fun c5 => ?_)
  · have : @LT.lt Int _ v.2.1 1 := of_decide_eq_true h
    obtain ⟨g1, g2, g3, g4, g5, g6, g7, g8, g9, g10⟩ := k; omega
  refine bad (fun h k => ?_) (fun c6 => ?_)
  · have : @GT.gt Int _ v.2.1 50000 := of_decide_eq_true h
    obtain ⟨g1, g2, g3, g4, g5, g6, g7, g8, g9, g10⟩ := k; omega
  refine bad (fun h k => ?_) (fun c7 => ?_)
  · have : @LT.lt Int _ v.2.2.1 1 := of_decide_eq_true h
    obtain ⟨g1, g2, g3, g4, g5, g6, g7, g8, g9, g10⟩ := k; omega
  refine bad (fun h k => ?_) (fun c8 => ?_)
  · have : @GT.gt Int _ v.2.2.1 60 := of_decide_eq_true h
    obtain ⟨g1, g2, g3, g4, g5, g6, g7, g8, g9, g10⟩ := k; omega
  refine bad (fun h k => ?_) (fun c9 => ?_)
  · have : @LT.lt Int _ v.2.2.2 1 := of_decide_eq_true h
    obtain ⟨g1, g2, g3, g4, g5, g6, g7, g8, g9, g10⟩ := k; omega
  refine bad (fun h k => ?_) (fun c10 => ?_)
  · have : @GT.gt Int _ v.2.2.2 60 := of_decide_eq_true h
    obtain ⟨g1, g2, g3, g4, g5, g6, g7, g8, g9, g10⟩ := k; omega
  have c1 : ¬ @LT.lt Int _ v.1.1 (-1000000) := of_decide_eq_false c1
  have c2 : ¬ @GT.gt Int _ v.1.1 1000000 := of_decide_eq_false c2
  have c3 : ¬ @LT.lt Int _ v.1.2 (-1000000) := of_decide_eq_false c3
  have c4 : ¬ @GT.gt Int _ v.1.2 1000000 := of_decide_eq_false c4
  have c5 : ¬ @LT.lt Int _ v.2.1 1 := of_decide_eq_false c5
  have c6 : ¬ @GT.gt Int _ v.2.1 50000 := of_decide_eq_false c6
  have c7 : ¬ @LT.lt Int _ v.2.2.1 1 := of_decide_eq_false c7
  have c8 : ¬ @GT.gt Int _ v.2.2.1 60 := of_decide_eq_false c8
  have c9 : ¬ @LT.lt Int _ v.2.2.2 1 := of_decide_eq_false c9
  have c10 : ¬ @GT.gt Int _ v.2.2.2 60 := of_decide_eq_false c10
  unfold chkV
  rw [if_pos (show vwOk v from ⟨by omega, by omega, by omega, by omega, by omega, by omega, by omega, by omega, by omega, by omega⟩)]
theorem q71 (a b : Int) : t71L a b = some (.sc (.bool (decide (ptN a b))), []) := by
  rw [t71]
  refine cond_split (fun h1 => ?_) (fun h => by rw [decide_eq_false (fun k : ptN a b => of_decide_eq_false h k.1)])
  refine cond_split (fun h2 => ?_) (fun h => by rw [decide_eq_false (fun k : ptN a b => of_decide_eq_false h k.2.1)])
  refine cond_split (fun h3 => ?_) (fun h => by rw [decide_eq_false (fun k : ptN a b => of_decide_eq_false h k.2.2.1)])
  have h1 := of_decide_eq_true h1
  have h2 := of_decide_eq_true h2
  have h3 := of_decide_eq_true h3
  rw [show decide (b ≤ 1000000) = decide (ptN a b) from decide_eq_decide.mpr ⟨fun h => ⟨h1, h2, h3, h⟩, fun h => h.2.2.2⟩]
theorem q73 (v : Vw) (x y : Int) : t73L v x y = some (.sc (.bool (visS v (x, y))), []) := by
  rw [t73]
  show _ = some (PV.sc (.bool (decide (viN x y v.2.2.1 v.2.2.2))), [])
  refine cond_split (fun h1 => ?_) (fun h => by rw [decide_eq_false (fun k : viN x y v.2.2.1 v.2.2.2 => of_decide_eq_false h k.1)])
  refine cond_split (fun h2 => ?_) (fun h => by rw [decide_eq_false (fun k : viN x y v.2.2.1 v.2.2.2 => of_decide_eq_false h k.2.1)])
  refine cond_split (fun h3 => ?_) (fun h => by rw [decide_eq_false (fun k : viN x y v.2.2.1 v.2.2.2 => of_decide_eq_false h k.2.2.1)])
  have h1 := of_decide_eq_true h1
  have h2 := of_decide_eq_true h2
  have h3 := of_decide_eq_true h3
  rw [show decide (y < v.2.2.2) = decide (viN x y v.2.2.1 v.2.2.2) from decide_eq_decide.mpr ⟨fun h => ⟨h1, h2, h3, h⟩, fun h => h.2.2.2⟩]
theorem vw_ok {v : Vw} (h : chkV v = 0) : vwOk v := by
  unfold chkV at h
  by_cases k : vwOk v
  · exact k
  · rw [if_neg k] at h; exact absurd h (by decide)
def pvP (p : Pt) : PV := .agg [.sc (.int .i64 p.1), .sc (.int .i64 p.2)]
theorem q72 (v : Vw) (x y : Int) (h : chkV v = 0) : t72L v x y = some (pvP (cellS v (x, y)), []) := by
  rw [t72]
  obtain ⟨_, _, _, _, g5, _⟩ := vw_ok h
  have hs : decide (v.2.1 ≠ 0) = true := decide_eq_true (show ¬ (@Eq Int v.2.1 0) by omega)
  exact guard_split hs (guard_split hs rfl)
theorem q13 (v : Vw) (x y : Int) : t13L v x y = some (.tup [pvP (CellS v (x, y)).1, .sc (.bool (CellS v (x, y)).2.1), .sc (.int .i64 (CellS v (x, y)).2.2)], []) := by
  rw [t13]
  unfold CellS CellE
  refine cond_split (fun h => ?_) (fun h => ?_)
  · have h : chkV v ≠ 0 := by simpa using h
    have h4 : chkV v = 4 := by unfold chkV at h ⊢; by_cases k : vwOk v <;> simp [k] at h ⊢
    rw [decide_eq_false h, h4]; rfl
  have h : chkV v = 0 := by simpa using h
  rw [decide_eq_true h]
  refine cond_split (fun h2 => ?_) (fun h2 => ?_)
  · have h2 : decide (ptN x y) = false := by rw [Bool.not_eq_true'] at h2; exact h2
    rw [show decide (ptN (x, y).1 (x, y).2) = false from h2]; rfl
  have h2 : decide (ptN x y) = true := by rw [Bool.not_eq_false'] at h2; exact h2
  rw [show decide (ptN (x, y).1 (x, y).2) = true from h2]
  exact guard_split rfl rfl
theorem q17 (x : It) (s : Int) : t17L x s = some (.tup [pvIt (bif decide (BoxE x s = 0) then boxS x s else zIt), .sc (.int .i64 (BoxE x s))], []) := by
  rw [t17]
  unfold BoxE
  refine cond_split (fun h => ?_) (fun h => ?_)
  · have h : chkL [x] ≠ 0 := by simpa using h
    rw [decide_eq_false h]; simp only [cond_false]; rw [decide_eq_false h]; rfl
  have h : chkL [x] = 0 := by simpa using h
  rw [decide_eq_true h]
  refine cond_split (fun h1 => ?_) (fun h1 => ?_)
  · rw [decide_eq_false (fun k : spN s => by have := of_decide_eq_true h1; have := k.1; omega)]; rfl
  refine cond_split (fun h2 => ?_) (fun h2 => ?_)
  · rw [decide_eq_false (fun k : spN s => by have := of_decide_eq_true h2; have := k.2; omega)]; rfl
  · rw [decide_eq_true (show spN s from ⟨by have := of_decide_eq_false h1; omega, by have := of_decide_eq_false h2; omega⟩)]; rfl
theorem labs_step {w h : Int} {v : Vw} {l : List Pt} {k : Int} {x : Pt} (h0 : 0 ≤ k) (hx : l[k.toNat]? = some x) : labsK w h v l k = lab1 w h v x ++ labsK w h v l (k + 1) := by
  unfold labsK labs
  rw [drop_cons hx, List.flatMap_cons, show (k + 1).toNat = k.toNat + 1 by omega]
theorem labs_end {w h : Int} {v : Vw} {l : List Pt} {k : Int} (h0 : (l.length : Int) ≤ k) : labsK w h v l k = [] := by
  unfold labsK
  rw [List.drop_eq_nil_of_le (by omega)]; rfl
def BV (v : Vw) : Blk := .fix false [.sc (.int .i64 v.1.1), .sc (.int .i64 v.1.2), .sc (.int .i64 v.2.1), .sc (.int .i64 v.2.2.1), .sc (.int .i64 v.2.2.2)]
theorem q3a (w h : Int) (v : Vw) (acc : List It) (an : Bool) (l : List Pt) (ln : Bool) (n k : Int) (hp : preTa acc l n k = true) :
    t3aL w h v acc an l ln n k = some (.exit 0, [slV 3 kIt (acc ++ labsK w h v l k, an && (labsK w h v l k).isEmpty)], [BV v, .dead, .row false kP l, .row true kIt (acc ++ labsK w h v l k)]) := by
  obtain ⟨h1, h2, h3, h4, h5⟩ := of_decide_eq_true hp
  rw [t3a]
  simp only [List.take_length, Nat.zero_add, len_true, cond_true]
  refine cond_split (fun hk => ?_) (fun hk => ?_)
  · have hk := of_decide_eq_true hk
    obtain ⟨x, hx⟩ := get_ex (l := l) (k := k.toNat) (by omega)
    have hw : IntKind.i64.wrap (k + 1) = k + 1 := W_id _ (by omega) (by omega)
    rw [hx, hw, labs_step h4 hx]
    have hmu : ∀ (a b : List It) (an bn : Bool), decide (muTa (w, h, v, (a, an), (l, ln), n, k + 1, PUnit.unit) < muTa (w, h, v, (b, bn), (l, ln), n, k, ())) = true := fun a b an bn => decide_eq_true (show (n - (k + 1)).toNat < (n - k).toNat by omega)
    refine guard_split (by simp; omega) ?_
    simp only [bindO]
    unfold lab1
    refine cond_split (fun hc => ?_) (fun hc => ?_)
    · rw [decide_eq_true (show (CellS v x).2.2 = 0 by simpa using hc)]
      refine cond_split (fun hd => ?_) (fun hd => ?_)
      · rw [hd]
        refine guard_split (by simp; omega) (guard_split (hmu _ _ _ _) (guard_split ?_ ?_))
        · rw [decide_eq_true (by simp)]
          exact decide_eq_true ⟨by rw [List.length_append]; simp; omega, h2, h3, by omega, by omega⟩
        · simp only [Bool.and_self, cond_true, List.singleton_append, List.isEmpty_cons, Bool.and_false, List.append_assoc]; rfl
      · rw [hd]
        refine guard_split (hmu _ _ _ _) (guard_split ?_ rfl)
        rw [dT]
        exact decide_eq_true ⟨by omega, h2, h3, by omega, by omega⟩
    · rw [decide_eq_false (show ¬ (CellS v x).2.2 = 0 by simpa using hc)]
      refine guard_split (hmu _ _ _ _) (guard_split ?_ rfl)
      rw [dT]
      exact decide_eq_true ⟨by omega, h2, h3, by omega, by omega⟩
  · have hk := of_decide_eq_false hk
    rw [labs_end (by omega), List.append_nil, List.isEmpty_nil, Bool.and_true]; rfl
theorem q3d (b : It) (l : List It) (nl : Bool) (n k : Int) (h : preFi l n k = true) : t3dL b l nl n k = cond (!((l.drop k.toNat).any (qC b))) (some (.exit 4, [.undef], [PB b, .row false kIt l])) (some (.ret, [.sc (.bool false)], [PB b, .row false kIt l])) := by
  obtain ⟨h1, h2, h3, h4⟩ := of_decide_eq_true h
  rw [t3d]
  simp only [List.take_length, Nat.zero_add, len_true, cond_true]
  refine cond_split (fun hk => ?_) (fun hk => ?_)
  · have hk := of_decide_eq_true hk
    obtain ⟨x, hx⟩ := get_ex (l := l) (k := k.toNat) (by omega)
    have hw : IntKind.i64.wrap (k + 1) = k + 1 := W_id _ (by omega) (by omega)
    rw [hx, drop_cons hx, List.any_cons, hw]
    refine guard_split (by simp; omega) ?_
    simp only [bindO]
    change cond (qC b x) _ _ = _
    cases qC b x with
    | true => rfl
    | false =>
      rw [Bool.false_or, show (k + 1).toNat = k.toNat + 1 by omega]
      refine guard_split (decide_eq_true ?_) (guard_split (decide_eq_true ⟨h1, h2, by omega, by omega⟩) rfl)
      show (n - (k + 1)).toNat < (n - k).toNat
      omega
  · have hk := of_decide_eq_false hk
    rw [List.drop_eq_nil_of_le (by omega)]; rfl
theorem q3f (b : It) (l : List It) (nl : Bool) (n k : Int) (h : preFi l n k = true) : t3fL b l nl n k = cond (!((l.drop k.toNat).any (qF b))) (some (.exit 6, [.undef], [PB b, .row false kIt l])) (some (.ret, [.sc (.bool false)], [PB b, .row false kIt l])) := by
  obtain ⟨h1, h2, h3, h4⟩ := of_decide_eq_true h
  rw [t3f]
  simp only [List.take_length, Nat.zero_add, len_true, cond_true]
  refine cond_split (fun hk => ?_) (fun hk => ?_)
  · have hk := of_decide_eq_true hk
    obtain ⟨x, hx⟩ := get_ex (l := l) (k := k.toNat) (by omega)
    have hw : IntKind.i64.wrap (k + 1) = k + 1 := W_id _ (by omega) (by omega)
    rw [hx, drop_cons hx, List.any_cons, hw]
    refine guard_split (by simp; omega) ?_
    simp only [bindO]
    change cond (qF b x) _ _ = _
    cases qF b x with
    | true => rfl
    | false =>
      rw [Bool.false_or, show (k + 1).toNat = k.toNat + 1 by omega]
      refine guard_split (decide_eq_true ?_) (guard_split (decide_eq_true ⟨h1, h2, by omega, by omega⟩) rfl)
      show (n - (k + 1)).toNat < (n - k).toNat
      omega
  · have hk := of_decide_eq_false hk
    rw [List.drop_eq_nil_of_le (by omega)]; rfl
theorem one_chk {x : It} (h : okIt x) : chkL [x] = 0 := by
  unfold chkL badL
  rw [List.any_cons, decide_eq_true h]; rfl
theorem q3b (l : List It) (nl : Bool) (p : List Int) (pn : Bool) (bs : List It) (bn : Bool) (l2 : List It) (nl2 : Bool) (n k : Int) (h : preTb l p bs l2 n k = true) :
    t3bL l nl p pn bs bn l2 nl2 n k = some (.exit 2, [.undef], [.row false kIt l, .row false I p, .dead, .row false kIt l2]) := by
  obtain ⟨rfl, h2, h3, h4, h5, h6, h7, h8, h9, h10⟩ := bp_true.1 h
  rw [t3b]
  simp only [List.take_length, Nat.zero_add, len_true, cond_true]
  refine cond_split (fun hk => ?_) (fun hk => rfl)
  have hk := of_decide_eq_true hk
  obtain ⟨x, hx⟩ := get_ex (l := l2) (k := k.toNat) (by omega)
  obtain ⟨s, hs⟩ := get_ex (l := p) (k := k.toNat) (by omega)
  have hw : IntKind.i64.wrap (k + 1) = k + 1 := W_id _ (by omega) (by omega)
  have hsn := h8 s (List.mem_of_getElem? hs)
  have hxo := h7 x (List.mem_of_getElem? hx)
  have hlen : (p.take k.toNat).length = k.toNat := by rw [List.length_take]; omega
  have hbl : bs.length = k.toNat := by rw [h9, bxs_len, hlen]
  rw [drop_cons hs] at h10
  have h10 : (good l2 (p.take k.toNat) s && okF l2 (p.take k.toNat ++ [s]) (p.drop (k.toNat + 1))) = true := h10
  rw [Bool.and_eq_true] at h10
  obtain ⟨hg, hf⟩ := h10
  unfold good at hg
  rw [hlen, atI_of hx, ← h9, Bool.not_eq_true', Bool.or_eq_false_iff] at hg
  obtain ⟨g1, g2⟩ := hg
  have hE : BoxE x s = 0 := by unfold BoxE; rw [one_chk hxo, decide_eq_true hsn]; rfl
  rw [hx, hs, hw]
  refine guard_split (by simp; omega) ?_
  simp only [bindO]
  refine guard_split (by simp; omega) ?_
  simp only [hE, decide_true, cond_true, cond_false, show ((0 : Int) != 0) = false from rfl]
  refine guard_split (decide_eq_true ⟨by omega, rfl, by omega, by omega⟩) ?_
  rw [show (l2.drop (Int.toNat 0)).any (qC (boxS x s)) = false from g1]
  refine guard_split (decide_eq_true ⟨by omega, rfl, by omega, by omega⟩) ?_
  have g2 : bs.any (qF (boxS x s)) = false := by
    unfold freeS at g2
    simpa using g2
  rw [show (bs.drop (Int.toNat 0)).any (qF (boxS x s)) = false from g2]
  refine guard_split (by simp; omega) (guard_split (decide_eq_true ?_) (guard_split ?_ rfl))
  · show (n - (k + 1)).toNat < (n - k).toNat
    omega
  · rw [decide_eq_true (show bs.length + 1 = (bs ++ [boxS x s]).length by simp)]
    refine bp_mk ⟨rfl, h2, h3, h4, by omega, by omega, h7, h8, ?_, ?_⟩
    · rw [show (k + 1).toNat = k.toNat + 1 by omega, List.take_add_one, hs]
      show bs ++ [boxS x s] = bxs l2 0 (p.take k.toNat ++ [s])
      rw [bxs_app, ← h9, Nat.zero_add, hlen, atI_of hx]
    · rw [show (k + 1).toNat = k.toNat + 1 by omega, List.take_add_one, hs]
      exact hf
theorem cut_rng (n hi : Int) (h1 : hi = 8 ∨ hi = 3) : 1 ≤ cutS n 1 hi ∧ cutS n 1 hi ≤ hi := by
  have e : W (W (hi - 1) + 1) = hi := by rw [W_id (hi - 1) (by omega) (by omega), W_id _ (by omega) (by omega)]; omega
  have t1 : -hi < n.tmod hi ∧ n.tmod hi < hi := ⟨Int.lt_tmod_of_pos _ (by omega), Int.tmod_lt_of_pos _ (by omega)⟩
  unfold cutS
  rw [e]
  by_cases hc : n.tmod hi < 0
  · rw [decide_eq_true hc, W_id (n.tmod hi + hi) (by omega) (by omega)]
    simp only [cond_true]
    rw [W_id _ (by omega) (by omega)]; omega
  · rw [decide_eq_false hc]
    simp only [cond_false]
    rw [W_id _ (by omega) (by omega)]; omega
theorem lab_ok {w h : Int} {v : Vw} {p : Pt} {x : It} (hx : x ∈ lab1 w h v p) : okIt x := by
  unfold lab1 at hx
  cases hc : (decide ((CellS v p).2.2 = 0) && (CellS v p).2.1) with
  | false => rw [hc] at hx; cases hx
  | true =>
    rw [hc] at hx
    simp only [cond_true, List.mem_singleton] at hx
    subst hx
    rw [Bool.and_eq_true] at hc
    have hE : CellE v p = 0 := by
      have h0 := of_decide_eq_true hc.1
      unfold CellS at h0
      by_cases k : CellE v p = 0
      · exact k
      · rw [decide_eq_false k] at h0; exact h0
    have hvis : viN (CellS v p).1.1 (CellS v p).1.2 v.2.2.1 v.2.2.2 := by
      have h1 := hc.2
      unfold CellS at h1 ⊢
      rw [decide_eq_true hE] at h1 ⊢
      exact of_decide_eq_true h1
    have hv : chkV v = 0 := by
      unfold CellE at hE
      by_cases k : chkV v = 0
      · exact k
      · rw [decide_eq_false k] at hE; exact absurd (show (4 : Int) = 0 from hE) (by decide)
    obtain ⟨_, _, _, _, _, _, w1, w2, e1, e2⟩ := vw_ok hv
    obtain ⟨u1, u2, u3, u4⟩ := hvis
    have r1 := cut_rng w 8 (Or.inl rfl)
    have r2 := cut_rng h 3 (Or.inr rfl)
    show okN (CellS v p).1.1 (CellS v p).1.2 (cutS w 1 8) (cutS h 1 3)
    exact ⟨by omega, by omega, by omega, by omega, by omega, by omega, by omega, by omega⟩
theorem lab1_len (w h : Int) (v : Vw) (p : Pt) : (lab1 w h v p).length ≤ 1 := by
  unfold lab1
  cases (decide ((CellS v p).2.2 = 0) && (CellS v p).2.1) <;> simp
theorem labs_len (w h : Int) (v : Vw) : ∀ (l : List Pt), (labs w h v l).length ≤ l.length
  | [] => Nat.le_refl 0
  | x :: r => by
    have := labs_len w h v r
    have := lab1_len w h v x
    unfold labs at *
    rw [List.flatMap_cons, List.length_append, List.length_cons]
    omega
theorem labs_ok {w h : Int} {v : Vw} {l : List Pt} : ∀ x ∈ labs w h v l, okIt x := fun x hx => by
  obtain ⟨p, _, hp⟩ := List.mem_flatMap.1 hx
  exact lab_ok hp
theorem chk_all {l : List It} (h1 : l.length ≤ 32) (h : ∀ x ∈ l, okIt x) : chkL l = 0 := by
  unfold chkL
  rw [decide_eq_false (show ¬ 32 < l.length by omega)]
  have : badL l = false := by
    unfold badL
    rw [List.any_eq_false]
    intro x hx
    rw [decide_eq_true (h x hx)]; decide
  rw [this]; rfl
theorem q3 (v : Vw) (l : List Pt) (nl : Bool) (w h : Int) : t3L v l nl w h = some (.sc (.bool true), [.row false kP l]) := by
  rw [t3]
  have hm : (min (l.length : Int) 5).toNat - 0 = min l.length 5 := by omega
  simp only [hm, Nat.zero_add, List.nil_append, List.take_length, len_true, cond_true]
  refine guard_split (by simp; omega) (guard_split ?_ (guard_split rfl ?_))
  · rw [decide_eq_true (show min l.length 5 ≤ l.length by omega)]
    exact decide_eq_true ⟨by simp, by rw [List.length_take]; omega, by omega, by omega, by omega⟩
  have hL : labsK w h v (List.take (min l.length 5) l) 0 = labs w h v (List.take (min l.length 5) l) := rfl
  rw [hL]
  have hok := labs_ok (w := w) (h := h) (v := v) (l := List.take (min l.length 5) l)
  have hln := labs_len w h v (List.take (min l.length 5) l)
  rw [List.length_take] at hln
  generalize labs w h v (List.take (min l.length 5) l) = c at hok hln
  have hk := chk_all (by omega) hok
  by_cases h0 : c.length = 0
  · obtain rfl : c = [] := List.length_eq_zero_iff.1 h0
    have e1 : plV [] = none := rfl
    have e2 : plE [] = 0 := rfl
    simp only [e1, e2, Option.isSome_none, cond_false, show ((0 : Int) != 0) = false from rfl]
    refine guard_split (bp_mk ⟨rfl, rfl, by decide, rfl, by decide, by decide, fun x hx => (by cases hx), fun x hx => (by cases hx), rfl, rfl⟩) rfl
  · have hp : plV c = srch c 7 [] [] := by
      unfold plV
      rw [decide_eq_true hk, decide_eq_true (show c.length ≤ 6 by omega), decide_eq_true (show c.length ≠ 0 from h0)]; rfl
    have hpe : plE c = 8 := by
      unfold plE
      rw [decide_eq_true hk, decide_eq_true (show c.length ≤ 6 by omega), decide_eq_false h0]; rfl
    rw [hp, hpe]
    have e1 := srch_eq (l := c) c.length 7 [] (by simp) (by omega)
    have e2 : (fun t : List Int => ([] : List Int) ++ t) = id := rfl
    rw [show bxs c 0 [] = [] from rfl, e2, Option.map_id] at e1
    have hor : srch c 7 [] [] = none ∨ ∃ o, srch c 7 [] [] = some o := by cases srch c 7 [] [] <;> simp
    rcases hor with hf | ⟨o, hf⟩
    · rw [hf]; rfl
    · rw [hf] at e1
      have hfo : List.find? (okF c []) (extL c.length) = some o := e1.symm
      obtain ⟨m1, m2⟩ := ext_mem (List.mem_of_find?_eq_some hfo)
      have m3 : okF c [] o = true := List.find?_some hfo
      simp only [hf, Option.isSome_some, Option.getD_some, cond_true]
      rw [show (((o.length : Nat) : Int) != (c.length : Nat)) = false by rw [m1]; simp]
      simp only [cond_false]
      exact guard_split (bp_mk ⟨rfl, rfl, by omega, m1, by decide, by omega, hok, m2, rfl, m3⟩) rfl
theorem U1_ok : TableOK Try.prog U1 :=
  ext_ok (entV_ok Try.call118 (liftV (T0_ok _) mixed Try.func118 (show Try.f118.body = some (bodyF Try.f118) from rfl) (noCuts_ok _) (by decide) fun v h => q118 v.1 v.2.1 (of_decide_eq_true h)))
  (ext_ok (entV_ok Try.call70 (liftV (T0_ok _) mixed Try.func70 (show Try.f70.body = some (bodyF Try.f70) from rfl) (noCuts_ok _) (by decide) fun v h => q70 v.1))
  (ext_ok (entV_ok Try.call71 (liftV (T0_ok _) mixed Try.func71 (show Try.f71.body = some (bodyF Try.f71) from rfl) (noCuts_ok _) (by decide) fun v h => q71 v.1.1 v.1.2))
  (ext_ok (entV_ok Try.call73 (liftV (T0_ok _) mixed Try.func73 (show Try.f73.body = some (bodyF Try.f73) from rfl) (noCuts_ok _) (by decide) fun v h => q73 v.1 v.2.1.1 v.2.1.2)) (T0_ok _))))
theorem U2_ok : TableOK Try.prog U2 := ext_ok (entV_ok Try.call72 (liftV U1_ok mixed Try.func72 (show Try.f72.body = some (bodyF Try.f72) from rfl) (noCuts_ok _) (by decide) fun v h => q72 v.1 v.2.1.1 v.2.1.2 (of_decide_eq_true h))) U1_ok
theorem U17_ok : TableOK Try.prog U17 := ext_ok e74 T1_ok
theorem U3_ok : TableOK Try.prog U3 :=
  ext_ok (entV_ok Try.call13 (liftV U2_ok mixed Try.func13 (show Try.f13.body = some (bodyF Try.f13) from rfl) (noCuts_ok _) (by decide) fun v h => q13 v.1 v.2.1.1 v.2.1.2))
  (ext_ok (entV_ok Try.call18 (liftV (T0_ok _) mixed Try.func18 (show Try.f18.body = some (bodyF Try.f18) from rfl) (noCuts_ok _) (by decide) fun v h => p18 v.1 v.2.1))
  (ext_ok (entV_ok Try.call17 (liftV U17_ok mixed Try.func17 (show Try.f17.body = some (bodyF Try.f17) from rfl) (noCuts_ok _) (by decide) fun v h => q17 v.1 v.2.1)) TL_ok))
theorem in3a : CutOK Try.prog Try.f3.ntmps (codeAt 0 (bodyF Try.f3)) [2, 3, 4, 9, 32, 33, 34] [9] (entC kTa cTa) := loop_cutW (kill := killA 0 kTa) U3_ok mixed muTa (by kernel_rfl) (noCuts_ok _) fun v h => q3a v.1 v.2.1 v.2.2.1 v.2.2.2.1.1 v.2.2.2.1.2 v.2.2.2.2.1.1 v.2.2.2.2.1.2 v.2.2.2.2.2.1 v.2.2.2.2.2.2.1 h
theorem in3d : CutOK Try.prog Try.f3.ntmps (codeAt 4 (bodyF Try.f3)) [22, 115, 116, 117] [8] (entC kTd (cTd qC 4)) := loop_cutW (kill := killA 0 kTd) U3_ok mixed muTd (by kernel_rfl) (noCuts_ok _) fun v h => q3d v.1 v.2.1.1 v.2.1.2 v.2.2.1 v.2.2.2.1 h
theorem in3f : CutOK Try.prog Try.f3.ntmps (codeAt 6 (bodyF Try.f3)) [22, 129, 130, 131] [8] (entC kTd (cTd qF 6)) := loop_cutW (kill := killA 0 kTd) U3_ok mixed muTd (by kernel_rfl) (noCuts_ok _) fun v h => q3f v.1 v.2.1.1 v.2.1.2 v.2.2.1 v.2.2.2.1 h
theorem in3b : CutOK Try.prog Try.f3.ntmps (codeAt 2 (bodyF Try.f3)) [9, 17, 19, 97, 98, 99] [8] (entC kTb cTb) := loop_cutW (kill := killA 0 kTb) U3_ok mixed muTb (by kernel_rfl) (cut_at (by kernel_rfl) (by kernel_rfl) in3d (cut_at (by kernel_rfl) (by kernel_rfl) in3f (noCuts_ok _))) fun v h => q3b v.1.1 v.1.2 v.2.1.1 v.2.1.2 v.2.2.1.1 v.2.2.1.2 v.2.2.2.1.1 v.2.2.2.1.2 v.2.2.2.2.1 v.2.2.2.2.2.1 h
theorem topOK (v : denA [(.s (.v ⟨true, (Kd.pair (Kd.pair (Kd.int .i64) (Kd.int .i64)) (Kd.pair (Kd.int .i64) (Kd.pair (Kd.int .i64) (Kd.int .i64))))⟩)), (.s (.ro (Kd.pair (Kd.int .i64) (Kd.int .i64)))), (.s (.v ⟨false, (Kd.int .i64)⟩)), (.s (.v ⟨false, (Kd.int .i64)⟩))]) (h : (both (both (gInt .i64) (gInt .i64)) (both (gInt .i64) (both (gInt .i64) (gInt .i64)))) v.1 ∧ (gSlice (k := (Kd.pair (Kd.int .i64) (Kd.int .i64))) 16 (both (gInt .i64) (gInt .i64))) v.2.1 ∧ (gInt .i64) v.2.2.1 ∧ (gInt .i64) v.2.2.2.1 ∧ True) : ∃ H', CallOK Try.prog 3 (showA 0 [(.s (.v ⟨true, (Kd.pair (Kd.pair (Kd.int .i64) (Kd.int .i64)) (Kd.pair (Kd.int .i64) (Kd.pair (Kd.int .i64) (Kd.int .i64))))⟩)), (.s (.ro (Kd.pair (Kd.int .i64) (Kd.int .i64)))), (.s (.v ⟨false, (Kd.int .i64)⟩)), (.s (.v ⟨false, (Kd.int .i64)⟩))] v).1 (showA 0 [(.s (.v ⟨true, (Kd.pair (Kd.pair (Kd.int .i64) (Kd.int .i64)) (Kd.pair (Kd.int .i64) (Kd.pair (Kd.int .i64) (Kd.int .i64))))⟩)), (.s (.ro (Kd.pair (Kd.int .i64) (Kd.int .i64)))), (.s (.v ⟨false, (Kd.int .i64)⟩)), (.s (.v ⟨false, (Kd.int .i64)⟩))] v).2 (.sc (.bool true)) H' := by
  exact ⟨_, evFuncV_sound U3_ok mixed Try.func3 (show Try.f3.body = some (bodyF Try.f3) from rfl) (cut_cons (by kernel_rfl) in3a (cut_cons (by kernel_rfl) in3b (noCuts_ok _))) (q3 v.1 v.2.1.1 v.2.1.2 v.2.2.1 v.2.2.2.1) (by rw [showA_len]; decide)⟩
end Go.Proofs.YtacdahpjmeianaaLb
