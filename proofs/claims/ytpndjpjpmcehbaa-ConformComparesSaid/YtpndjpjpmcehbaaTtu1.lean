/- What is proved: what the functions on tubes answer. No condition. -/
import Derived.Test.YtpndjpjpmcehbaaTtu0
namespace Go.Proofs.YtpndjpjpmcehbaaTu
open Go Go.Proofs Go.Proofs.YtpndjpjpmcehbaaEv Go.Proofs.YtpndjpjpmcehbaaTk
set_option maxRecDepth 100000
set_option linter.unusedSimpArgs false
set_option linter.unusedVariables false
noncomputable abbrev u92L (a0 : Int) (a1 : Int) := evFuncV Try.prog T3 noCuts Try.f92 (killA 0 [sP]) (showA 0 [sP] ((a0, a1), ())).1 (showA 0 [sP] ((a0, a1), ())).2
theorem u92 (a0 : Int) (a1 : Int) : u92L a0 a1 = (bif decide (a0 < -1000000) then some (PV.sc (Value.int IntKind.i64 4), [])
else
  bif decide (a0 > 1000000) then some (PV.sc (Value.int IntKind.i64 4), [])
  else
    bif decide (a1 < -1000000) then some (PV.sc (Value.int IntKind.i64 4), [])
    else
      bif decide (a1 > 1000000) then some (PV.sc (Value.int IntKind.i64 4), [])
      else some (PV.sc (Value.int IntKind.i64 0), [])) := by kernel_rfl
noncomputable abbrev u122L (a0 : Int) (a1 : Int) (a2 : Int) (a3 : Int) := evFuncV Try.prog T3 noCuts Try.f122 (killA 0 [sI, sI, sI, sI]) (showA 0 [sI, sI, sI, sI] (a0, (a1, (a2, (a3, ()))))).1 (showA 0 [sI, sI, sI, sI] (a0, (a1, (a2, (a3, ()))))).2
theorem u122 (a0 : Int) (a1 : Int) (a2 : Int) (a3 : Int) : u122L a0 a1 a2 a3 = (guardB (nz a3)
  (some
    (PV.sc
        (Value.int IntKind.i64
          (IntKind.i64.wrap (a0 + (divDown (IntKind.i64.wrap (IntKind.i64.wrap (a1 - a0) * a2)) a3).fst))),
      []))) := by kernel_rfl
noncomputable abbrev u123L (a0 : Int) (a1 : Int) (a2 : Int) (a3 : Int) := evFuncV Try.prog T3 noCuts Try.f123 (killA 0 [sI, sI, sI, sI]) (showA 0 [sI, sI, sI, sI] (a0, (a1, (a2, (a3, ()))))).1 (showA 0 [sI, sI, sI, sI] (a0, (a1, (a2, (a3, ()))))).2
theorem u123 (a0 : Int) (a1 : Int) (a2 : Int) (a3 : Int) : u123L a0 a1 a2 a3 = (guardB (nz a3)
  (some
    (PV.sc
        (Value.int IntKind.i64
          (IntKind.i64.wrap
            (a0 +
              if
                  (divDown (IntKind.i64.wrap (IntKind.i64.wrap (a1 - a0) * a2)) a3).snd = 0 ∧
                    (IntKind.i64.wrap (IntKind.i64.wrap (a1 - a0) * a2)).tmod a3 ≠ 0 then
                W ((divDown (IntKind.i64.wrap (IntKind.i64.wrap (a1 - a0) * a2)) a3).fst + 1)
              else (divDown (IntKind.i64.wrap (IntKind.i64.wrap (a1 - a0) * a2)) a3).fst))),
      []))) := by kernel_rfl
noncomputable abbrev u91L (a0 : Int) (a1 : Int) (a2 : Int) (a3 : Int) := evFuncV Try.prog T0 noCuts Try.f91 (killA 0 [sP, sP]) (showA 0 [sP, sP] ((a0, a1), ((a2, a3), ()))).1 (showA 0 [sP, sP] ((a0, a1), ((a2, a3), ()))).2
theorem u91 (a0 : Int) (a1 : Int) (a2 : Int) (a3 : Int) : u91L a0 a1 a2 a3 = (some
  (PV.sc
      (Value.int IntKind.i64
        (IntKind.i64.wrap
          (IntKind.i64.wrap (IntKind.i64.wrap (a0 - a2) * IntKind.i64.wrap (a0 - a2)) +
            IntKind.i64.wrap (IntKind.i64.wrap (a1 - a3) * IntKind.i64.wrap (a1 - a3))))),
    [])) := by kernel_rfl
noncomputable abbrev u96L (a0 : Int) (a1 : Int) (a2 : Int) (a3 : Int) := evFuncV Try.prog T0 noCuts Try.f96 (killA 0 [sP, sP]) (showA 0 [sP, sP] ((a0, a1), ((a2, a3), ()))).1 (showA 0 [sP, sP] ((a0, a1), ((a2, a3), ()))).2
theorem u96 (a0 : Int) (a1 : Int) (a2 : Int) (a3 : Int) : u96L a0 a1 a2 a3 = (some
  (PV.sc
      (Value.int IntKind.i64
        (IntKind.i64.wrap
          (IntKind.i64.wrap (IntKind.i64.wrap (a0 - a2) * IntKind.i64.wrap (a0 - a2)) +
            IntKind.i64.wrap (IntKind.i64.wrap (a1 - a3) * IntKind.i64.wrap (a1 - a3))))),
    [])) := by kernel_rfl
noncomputable abbrev u49L (a0 : Int) (a1 : Int) (a2 : Int) (a3 : Int) := evFuncV Try.prog T0 noCuts Try.f49 (killA 0 [sP, sP]) (showA 0 [sP, sP] ((a0, a1), ((a2, a3), ()))).1 (showA 0 [sP, sP] ((a0, a1), ((a2, a3), ()))).2
theorem u49 (a0 : Int) (a1 : Int) (a2 : Int) (a3 : Int) : u49L a0 a1 a2 a3 = (some
  (PV.sc
      (Value.int IntKind.i64
        (IntKind.i64.wrap
          (IntKind.i64.wrap (IntKind.i64.wrap (a0 - a2) * IntKind.i64.wrap (a0 - a2)) +
            IntKind.i64.wrap (IntKind.i64.wrap (a1 - a3) * IntKind.i64.wrap (a1 - a3))))),
    [])) := by kernel_rfl
noncomputable abbrev u50L (a0 : Int) (a1 : Int) := evFuncV Try.prog T0 noCuts Try.f50 (killA 0 [sI, sI]) (showA 0 [sI, sI] (a0, (a1, ()))).1 (showA 0 [sI, sI] (a0, (a1, ()))).2
theorem u50 (a0 : Int) (a1 : Int) : u50L a0 a1 = (bif decide (a0 < a1) then some (PV.sc (Value.int IntKind.i64 (IntKind.i64.wrap (a1 - a0))), [])
else some (PV.sc (Value.int IntKind.i64 (IntKind.i64.wrap (a0 - a1))), [])) := by kernel_rfl
noncomputable abbrev u121L (a0 : Int) (a1 : Int) (a2 : Int) (a3 : Int) (a4 : Int) (a5 : Int) := evFuncV Try.prog TU1 noCuts Try.f121 (killA 0 [sP, sP, sI, sI]) (showA 0 [sP, sP, sI, sI] ((a0, a1), ((a2, a3), (a4, (a5, ()))))).1 (showA 0 [sP, sP, sI, sI] ((a0, a1), ((a2, a3), (a4, (a5, ()))))).2
theorem u121 (a0 : Int) (a1 : Int) (a2 : Int) (a3 : Int) (a4 : Int) (a5 : Int) : u121L a0 a1 a2 a3 a4 a5 = (bif decide (a5 ≤ 0) then
  some
    (PV.tup
        [PV.agg [PV.sc (Value.int IntKind.i64 0), PV.sc (Value.int IntKind.i64 0)], PV.sc (Value.int IntKind.i64 10)],
      [])
else
  bif decide (a5 > 200000) then
    some
      (PV.tup
          [PV.agg [PV.sc (Value.int IntKind.i64 0), PV.sc (Value.int IntKind.i64 0)], PV.sc (Value.int IntKind.i64 4)],
        [])
  else
    bif decide (a4 < 0) then
      some
        (PV.tup
            [PV.agg [PV.sc (Value.int IntKind.i64 0), PV.sc (Value.int IntKind.i64 0)],
              PV.sc (Value.int IntKind.i64 4)],
          [])
    else
      bif decide (a4 > a5) then
        some
          (PV.tup
              [PV.agg [PV.sc (Value.int IntKind.i64 0), PV.sc (Value.int IntKind.i64 0)],
                PV.sc (Value.int IntKind.i64 4)],
            [])
      else
        bif chkP a0 a1 != 0 then
          some
            (PV.tup
                [PV.agg [PV.sc (Value.int IntKind.i64 0), PV.sc (Value.int IntKind.i64 0)],
                  PV.sc (Value.int IntKind.i64 4)],
              [])
        else
          bif chkP a2 a3 != 0 then
            some
              (PV.tup
                  [PV.agg [PV.sc (Value.int IntKind.i64 0), PV.sc (Value.int IntKind.i64 0)],
                    PV.sc (Value.int IntKind.i64 4)],
                [])
          else
            guardB (nz a5)
              (guardB (nz a5)
                (some
                  (PV.tup
                      [PV.agg
                          [PV.sc
                              (Value.int IntKind.i64
                                (IntKind.i64.wrap
                                  (a0 + (divDown (IntKind.i64.wrap (IntKind.i64.wrap (a2 - a0) * a4)) a5).fst))),
                            PV.sc
                              (Value.int IntKind.i64
                                (IntKind.i64.wrap
                                  (a1 + (divDown (IntKind.i64.wrap (IntKind.i64.wrap (a3 - a1) * a4)) a5).fst)))],
                        PV.sc (Value.int IntKind.i64 0)],
                    [])))) := by kernel_rfl
noncomputable abbrev u46lL (a0 : List ((Int × (Int × Int) × Int) × Int × Int)) (a1 : Bool) (a2 : List ((Int × (Int × Int) × Int) × Int × Int)) (a3 : Bool) (a4 : Int) (a5 : Int) := evRound Try.prog TU1 noCuts 86 (loopOf (codeAt 1 (bodyF Try.f46))) k46 mu46 (killA 0 k46) [0, 14, 15, 16] [2] c46 ((a0, a1), ((a2, a3), (a4, (a5, ()))))
theorem u46l (a0 : List ((Int × (Int × Int) × Int) × Int × Int)) (a1 : Bool) (a2 : List ((Int × (Int × Int) × Int) × Int × Int)) (a3 : Bool) (a4 : Int) (a5 : Int) : u46lL a0 a1 a2 a3 a4 a5 = (bif decide (a5 < a4) then
  guardB (decide (0 ≤ a5) && decide (a5 < (↑a2.length : Int)))
    (bindO a2[0 + a5.toNat]? fun x =>
      bif decide (x.fst.fst < 0) then
        some
          (Xt.ret, [PV.sc (Value.int IntKind.i64 12)],
            [Blk.row false
                (((Kd.int IntKind.i64).pair
                      (((Kd.int IntKind.i64).pair (Kd.int IntKind.i64)).pair (Kd.int IntKind.i64))).pair
                  ((Kd.int IntKind.i64).pair (Kd.int IntKind.i64)))
                a0,
              Blk.row false
                (((Kd.int IntKind.i64).pair
                      (((Kd.int IntKind.i64).pair (Kd.int IntKind.i64)).pair (Kd.int IntKind.i64))).pair
                  ((Kd.int IntKind.i64).pair (Kd.int IntKind.i64)))
                a2])
      else
        bif decide (x.fst.fst > 200000) then
          some
            (Xt.ret, [PV.sc (Value.int IntKind.i64 12)],
              [Blk.row false
                  (((Kd.int IntKind.i64).pair
                        (((Kd.int IntKind.i64).pair (Kd.int IntKind.i64)).pair (Kd.int IntKind.i64))).pair
                    ((Kd.int IntKind.i64).pair (Kd.int IntKind.i64)))
                  a0,
                Blk.row false
                  (((Kd.int IntKind.i64).pair
                        (((Kd.int IntKind.i64).pair (Kd.int IntKind.i64)).pair (Kd.int IntKind.i64))).pair
                    ((Kd.int IntKind.i64).pair (Kd.int IntKind.i64)))
                  a2])
        else
          bif decide (a5 > 0) then
            guardB (decide (0 ≤ IntKind.i64.wrap (a5 - 1)) && decide (IntKind.i64.wrap (a5 - 1) < (↑a0.length : Int)))
              (bindO a0[0 + (IntKind.i64.wrap (a5 - 1)).toNat]? fun x_1 =>
                bif decide (x.fst.fst ≤ x_1.fst.fst) then
                  some
                    (Xt.ret, [PV.sc (Value.int IntKind.i64 12)],
                      [Blk.row false
                          (((Kd.int IntKind.i64).pair
                                (((Kd.int IntKind.i64).pair (Kd.int IntKind.i64)).pair (Kd.int IntKind.i64))).pair
                            ((Kd.int IntKind.i64).pair (Kd.int IntKind.i64)))
                          a0,
                        Blk.row false
                          (((Kd.int IntKind.i64).pair
                                (((Kd.int IntKind.i64).pair (Kd.int IntKind.i64)).pair (Kd.int IntKind.i64))).pair
                            ((Kd.int IntKind.i64).pair (Kd.int IntKind.i64)))
                          a2])
                else
                  bif chkP x.fst.snd.fst.fst x.fst.snd.fst.snd != 0 then
                    some
                      (Xt.ret, [PV.sc (Value.int IntKind.i64 (chkP x.fst.snd.fst.fst x.fst.snd.fst.snd))],
                        [Blk.row false
                            (((Kd.int IntKind.i64).pair
                                  (((Kd.int IntKind.i64).pair (Kd.int IntKind.i64)).pair (Kd.int IntKind.i64))).pair
                              ((Kd.int IntKind.i64).pair (Kd.int IntKind.i64)))
                            a0,
                          Blk.row false
                            (((Kd.int IntKind.i64).pair
                                  (((Kd.int IntKind.i64).pair (Kd.int IntKind.i64)).pair (Kd.int IntKind.i64))).pair
                              ((Kd.int IntKind.i64).pair (Kd.int IntKind.i64)))
                            a2])
                  else
                    bif decide (x.fst.snd.snd < 0) then
                      some
                        (Xt.ret, [PV.sc (Value.int IntKind.i64 4)],
                          [Blk.row false
                              (((Kd.int IntKind.i64).pair
                                    (((Kd.int IntKind.i64).pair (Kd.int IntKind.i64)).pair (Kd.int IntKind.i64))).pair
                                ((Kd.int IntKind.i64).pair (Kd.int IntKind.i64)))
                              a0,
                            Blk.row false
                              (((Kd.int IntKind.i64).pair
                                    (((Kd.int IntKind.i64).pair (Kd.int IntKind.i64)).pair (Kd.int IntKind.i64))).pair
                                ((Kd.int IntKind.i64).pair (Kd.int IntKind.i64)))
                              a2])
                    else
                      bif decide (x.fst.snd.snd > 60000) then
                        some
                          (Xt.ret, [PV.sc (Value.int IntKind.i64 4)],
                            [Blk.row false
                                (((Kd.int IntKind.i64).pair
                                      (((Kd.int IntKind.i64).pair (Kd.int IntKind.i64)).pair (Kd.int IntKind.i64))).pair
                                  ((Kd.int IntKind.i64).pair (Kd.int IntKind.i64)))
                                a0,
                              Blk.row false
                                (((Kd.int IntKind.i64).pair
                                      (((Kd.int IntKind.i64).pair (Kd.int IntKind.i64)).pair (Kd.int IntKind.i64))).pair
                                  ((Kd.int IntKind.i64).pair (Kd.int IntKind.i64)))
                                a2])
                      else
                        bif decide (x.snd.fst < 0) then
                          some
                            (Xt.ret, [PV.sc (Value.int IntKind.i64 4)],
                              [Blk.row false
                                  (((Kd.int IntKind.i64).pair
                                        (((Kd.int IntKind.i64).pair (Kd.int IntKind.i64)).pair
                                          (Kd.int IntKind.i64))).pair
                                    ((Kd.int IntKind.i64).pair (Kd.int IntKind.i64)))
                                  a0,
                                Blk.row false
                                  (((Kd.int IntKind.i64).pair
                                        (((Kd.int IntKind.i64).pair (Kd.int IntKind.i64)).pair
                                          (Kd.int IntKind.i64))).pair
                                    ((Kd.int IntKind.i64).pair (Kd.int IntKind.i64)))
                                  a2])
                        else
                          bif decide (x.snd.fst > 1000000) then
                            some
                              (Xt.ret, [PV.sc (Value.int IntKind.i64 4)],
                                [Blk.row false
                                    (((Kd.int IntKind.i64).pair
                                          (((Kd.int IntKind.i64).pair (Kd.int IntKind.i64)).pair
                                            (Kd.int IntKind.i64))).pair
                                      ((Kd.int IntKind.i64).pair (Kd.int IntKind.i64)))
                                    a0,
                                  Blk.row false
                                    (((Kd.int IntKind.i64).pair
                                          (((Kd.int IntKind.i64).pair (Kd.int IntKind.i64)).pair
                                            (Kd.int IntKind.i64))).pair
                                      ((Kd.int IntKind.i64).pair (Kd.int IntKind.i64)))
                                    a2])
                          else
                            bif decide (x.snd.snd < 0) then
                              some
                                (Xt.ret, [PV.sc (Value.int IntKind.i64 4)],
                                  [Blk.row false
                                      (((Kd.int IntKind.i64).pair
                                            (((Kd.int IntKind.i64).pair (Kd.int IntKind.i64)).pair
                                              (Kd.int IntKind.i64))).pair
                                        ((Kd.int IntKind.i64).pair (Kd.int IntKind.i64)))
                                      a0,
                                    Blk.row false
                                      (((Kd.int IntKind.i64).pair
                                            (((Kd.int IntKind.i64).pair (Kd.int IntKind.i64)).pair
                                              (Kd.int IntKind.i64))).pair
                                        ((Kd.int IntKind.i64).pair (Kd.int IntKind.i64)))
                                      a2])
                            else
                              bif decide (x.snd.snd > 60000) then
                                some
                                  (Xt.ret, [PV.sc (Value.int IntKind.i64 4)],
                                    [Blk.row false
                                        (((Kd.int IntKind.i64).pair
                                              (((Kd.int IntKind.i64).pair (Kd.int IntKind.i64)).pair
                                                (Kd.int IntKind.i64))).pair
                                          ((Kd.int IntKind.i64).pair (Kd.int IntKind.i64)))
                                        a0,
                                      Blk.row false
                                        (((Kd.int IntKind.i64).pair
                                              (((Kd.int IntKind.i64).pair (Kd.int IntKind.i64)).pair
                                                (Kd.int IntKind.i64))).pair
                                          ((Kd.int IntKind.i64).pair (Kd.int IntKind.i64)))
                                        a2])
                              else
                                guardB
                                  (decide
                                    (mu46
                                        ((List.take a0.length a0, a1), (List.take a2.length a2, a3), a4,
                                          IntKind.i64.wrap (a5 + 1), PUnit.unit) <
                                      mu46 ((a0, a1), (a2, a3), a4, a5, ())))
                                  (guardB
                                    (bif decide (0 + a0.length ≤ a0.length) then
                                      bif decide (0 + a2.length ≤ a2.length) then
                                        pre46 (List.take a0.length a0) (List.take a2.length a2) a4
                                          (IntKind.i64.wrap (a5 + 1))
                                      else false
                                    else false)
                                    (bif decide (tE (List.take a0.length a0) (IntKind.i64.wrap (a5 + 1)) = 0) then
                                      some
                                        (Xt.exit 1, [PV.undef],
                                          [Blk.row false
                                              (((Kd.int IntKind.i64).pair
                                                    (((Kd.int IntKind.i64).pair (Kd.int IntKind.i64)).pair
                                                      (Kd.int IntKind.i64))).pair
                                                ((Kd.int IntKind.i64).pair (Kd.int IntKind.i64)))
                                              a0,
                                            Blk.row false
                                              (((Kd.int IntKind.i64).pair
                                                    (((Kd.int IntKind.i64).pair (Kd.int IntKind.i64)).pair
                                                      (Kd.int IntKind.i64))).pair
                                                ((Kd.int IntKind.i64).pair (Kd.int IntKind.i64)))
                                              a2])
                                    else
                                      some
                                        (Xt.ret,
                                          [PV.sc
                                              (Value.int IntKind.i64
                                                (tE (List.take a0.length a0) (IntKind.i64.wrap (a5 + 1))))],
                                          [Blk.row false
                                              (((Kd.int IntKind.i64).pair
                                                    (((Kd.int IntKind.i64).pair (Kd.int IntKind.i64)).pair
                                                      (Kd.int IntKind.i64))).pair
                                                ((Kd.int IntKind.i64).pair (Kd.int IntKind.i64)))
                                              a0,
                                            Blk.row false
                                              (((Kd.int IntKind.i64).pair
                                                    (((Kd.int IntKind.i64).pair (Kd.int IntKind.i64)).pair
                                                      (Kd.int IntKind.i64))).pair
                                                ((Kd.int IntKind.i64).pair (Kd.int IntKind.i64)))
                                              a2]))))
          else
            bif chkP x.fst.snd.fst.fst x.fst.snd.fst.snd != 0 then
              some
                (Xt.ret, [PV.sc (Value.int IntKind.i64 (chkP x.fst.snd.fst.fst x.fst.snd.fst.snd))],
                  [Blk.row false
                      (((Kd.int IntKind.i64).pair
                            (((Kd.int IntKind.i64).pair (Kd.int IntKind.i64)).pair (Kd.int IntKind.i64))).pair
                        ((Kd.int IntKind.i64).pair (Kd.int IntKind.i64)))
                      a0,
                    Blk.row false
                      (((Kd.int IntKind.i64).pair
                            (((Kd.int IntKind.i64).pair (Kd.int IntKind.i64)).pair (Kd.int IntKind.i64))).pair
                        ((Kd.int IntKind.i64).pair (Kd.int IntKind.i64)))
                      a2])
            else
              bif decide (x.fst.snd.snd < 0) then
                some
                  (Xt.ret, [PV.sc (Value.int IntKind.i64 4)],
                    [Blk.row false
                        (((Kd.int IntKind.i64).pair
                              (((Kd.int IntKind.i64).pair (Kd.int IntKind.i64)).pair (Kd.int IntKind.i64))).pair
                          ((Kd.int IntKind.i64).pair (Kd.int IntKind.i64)))
                        a0,
                      Blk.row false
                        (((Kd.int IntKind.i64).pair
                              (((Kd.int IntKind.i64).pair (Kd.int IntKind.i64)).pair (Kd.int IntKind.i64))).pair
                          ((Kd.int IntKind.i64).pair (Kd.int IntKind.i64)))
                        a2])
              else
                bif decide (x.fst.snd.snd > 60000) then
                  some
                    (Xt.ret, [PV.sc (Value.int IntKind.i64 4)],
                      [Blk.row false
                          (((Kd.int IntKind.i64).pair
                                (((Kd.int IntKind.i64).pair (Kd.int IntKind.i64)).pair (Kd.int IntKind.i64))).pair
                            ((Kd.int IntKind.i64).pair (Kd.int IntKind.i64)))
                          a0,
                        Blk.row false
                          (((Kd.int IntKind.i64).pair
                                (((Kd.int IntKind.i64).pair (Kd.int IntKind.i64)).pair (Kd.int IntKind.i64))).pair
                            ((Kd.int IntKind.i64).pair (Kd.int IntKind.i64)))
                          a2])
                else
                  bif decide (x.snd.fst < 0) then
                    some
                      (Xt.ret, [PV.sc (Value.int IntKind.i64 4)],
                        [Blk.row false
                            (((Kd.int IntKind.i64).pair
                                  (((Kd.int IntKind.i64).pair (Kd.int IntKind.i64)).pair (Kd.int IntKind.i64))).pair
                              ((Kd.int IntKind.i64).pair (Kd.int IntKind.i64)))
                            a0,
                          Blk.row false
                            (((Kd.int IntKind.i64).pair
                                  (((Kd.int IntKind.i64).pair (Kd.int IntKind.i64)).pair (Kd.int IntKind.i64))).pair
                              ((Kd.int IntKind.i64).pair (Kd.int IntKind.i64)))
                            a2])
                  else
                    bif decide (x.snd.fst > 1000000) then
                      some
                        (Xt.ret, [PV.sc (Value.int IntKind.i64 4)],
                          [Blk.row false
                              (((Kd.int IntKind.i64).pair
                                    (((Kd.int IntKind.i64).pair (Kd.int IntKind.i64)).pair (Kd.int IntKind.i64))).pair
                                ((Kd.int IntKind.i64).pair (Kd.int IntKind.i64)))
                              a0,
                            Blk.row false
                              (((Kd.int IntKind.i64).pair
                                    (((Kd.int IntKind.i64).pair (Kd.int IntKind.i64)).pair (Kd.int IntKind.i64))).pair
                                ((Kd.int IntKind.i64).pair (Kd.int IntKind.i64)))
                              a2])
                    else
                      bif decide (x.snd.snd < 0) then
                        some
                          (Xt.ret, [PV.sc (Value.int IntKind.i64 4)],
                            [Blk.row false
                                (((Kd.int IntKind.i64).pair
                                      (((Kd.int IntKind.i64).pair (Kd.int IntKind.i64)).pair (Kd.int IntKind.i64))).pair
                                  ((Kd.int IntKind.i64).pair (Kd.int IntKind.i64)))
                                a0,
                              Blk.row false
                                (((Kd.int IntKind.i64).pair
                                      (((Kd.int IntKind.i64).pair (Kd.int IntKind.i64)).pair (Kd.int IntKind.i64))).pair
                                  ((Kd.int IntKind.i64).pair (Kd.int IntKind.i64)))
                                a2])
                      else
                        bif decide (x.snd.snd > 60000) then
                          some
                            (Xt.ret, [PV.sc (Value.int IntKind.i64 4)],
                              [Blk.row false
                                  (((Kd.int IntKind.i64).pair
                                        (((Kd.int IntKind.i64).pair (Kd.int IntKind.i64)).pair
                                          (Kd.int IntKind.i64))).pair
                                    ((Kd.int IntKind.i64).pair (Kd.int IntKind.i64)))
                                  a0,
                                Blk.row false
                                  (((Kd.int IntKind.i64).pair
                                        (((Kd.int IntKind.i64).pair (Kd.int IntKind.i64)).pair
                                          (Kd.int IntKind.i64))).pair
                                    ((Kd.int IntKind.i64).pair (Kd.int IntKind.i64)))
                                  a2])
                        else
                          guardB
                            (decide
                              (mu46
                                  ((List.take a0.length a0, a1), (List.take a2.length a2, a3), a4,
                                    IntKind.i64.wrap (a5 + 1), PUnit.unit) <
                                mu46 ((a0, a1), (a2, a3), a4, a5, ())))
                            (guardB
                              (bif decide (0 + a0.length ≤ a0.length) then
                                bif decide (0 + a2.length ≤ a2.length) then
                                  pre46 (List.take a0.length a0) (List.take a2.length a2) a4 (IntKind.i64.wrap (a5 + 1))
                                else false
                              else false)
                              (bif decide (tE (List.take a0.length a0) (IntKind.i64.wrap (a5 + 1)) = 0) then
                                some
                                  (Xt.exit 1, [PV.undef],
                                    [Blk.row false
                                        (((Kd.int IntKind.i64).pair
                                              (((Kd.int IntKind.i64).pair (Kd.int IntKind.i64)).pair
                                                (Kd.int IntKind.i64))).pair
                                          ((Kd.int IntKind.i64).pair (Kd.int IntKind.i64)))
                                        a0,
                                      Blk.row false
                                        (((Kd.int IntKind.i64).pair
                                              (((Kd.int IntKind.i64).pair (Kd.int IntKind.i64)).pair
                                                (Kd.int IntKind.i64))).pair
                                          ((Kd.int IntKind.i64).pair (Kd.int IntKind.i64)))
                                        a2])
                              else
                                some
                                  (Xt.ret,
                                    [PV.sc
                                        (Value.int IntKind.i64
                                          (tE (List.take a0.length a0) (IntKind.i64.wrap (a5 + 1))))],
                                    [Blk.row false
                                        (((Kd.int IntKind.i64).pair
                                              (((Kd.int IntKind.i64).pair (Kd.int IntKind.i64)).pair
                                                (Kd.int IntKind.i64))).pair
                                          ((Kd.int IntKind.i64).pair (Kd.int IntKind.i64)))
                                        a0,
                                      Blk.row false
                                        (((Kd.int IntKind.i64).pair
                                              (((Kd.int IntKind.i64).pair (Kd.int IntKind.i64)).pair
                                                (Kd.int IntKind.i64))).pair
                                          ((Kd.int IntKind.i64).pair (Kd.int IntKind.i64)))
                                        a2]))))
else
  some
    (Xt.exit 1, [PV.undef],
      [Blk.row false
          (((Kd.int IntKind.i64).pair (((Kd.int IntKind.i64).pair (Kd.int IntKind.i64)).pair (Kd.int IntKind.i64))).pair
            ((Kd.int IntKind.i64).pair (Kd.int IntKind.i64)))
          a0,
        Blk.row false
          (((Kd.int IntKind.i64).pair (((Kd.int IntKind.i64).pair (Kd.int IntKind.i64)).pair (Kd.int IntKind.i64))).pair
            ((Kd.int IntKind.i64).pair (Kd.int IntKind.i64)))
          a2])) := by kernel_rfl
noncomputable abbrev u46L (a0 : List ((Int × (Int × Int) × Int) × Int × Int)) (a1 : Bool) := evFuncV Try.prog TU1 (addCut 1 [0, 14, 15, 16] [2] (entC k46 c46) noCuts) Try.f46 (killA 0 [rTN]) (showA 0 [rTN] ((a0, a1), ())).1 (showA 0 [rTN] ((a0, a1), ())).2
theorem u46 (a0 : List ((Int × (Int × Int) × Int) × Int × Int)) (a1 : Bool) : u46L a0 a1 = (bif decide ((↑a0.length : Int) > 64) then
  some
    (PV.sc (Value.int IntKind.i64 2),
      [Blk.row false
          (((Kd.int IntKind.i64).pair (((Kd.int IntKind.i64).pair (Kd.int IntKind.i64)).pair (Kd.int IntKind.i64))).pair
            ((Kd.int IntKind.i64).pair (Kd.int IntKind.i64)))
          a0])
else
  bif (↑a0.length : Int) == 0 then
    some
      (PV.sc (Value.int IntKind.i64 3),
        [Blk.row false
            (((Kd.int IntKind.i64).pair
                  (((Kd.int IntKind.i64).pair (Kd.int IntKind.i64)).pair (Kd.int IntKind.i64))).pair
              ((Kd.int IntKind.i64).pair (Kd.int IntKind.i64)))
            a0])
  else
    guardB
      (bif decide (0 + a0.length ≤ a0.length) then
        bif decide (0 + a0.length ≤ a0.length) then
          pre46 (List.take a0.length a0) (List.take a0.length a0) (↑a0.length : Int) 0
        else false
      else false)
      (bif decide (tE (List.take a0.length a0) 0 = 0) then
        some
          (PV.sc (Value.int IntKind.i64 0),
            [Blk.row false
                (((Kd.int IntKind.i64).pair
                      (((Kd.int IntKind.i64).pair (Kd.int IntKind.i64)).pair (Kd.int IntKind.i64))).pair
                  ((Kd.int IntKind.i64).pair (Kd.int IntKind.i64)))
                a0])
      else
        some
          (PV.sc (Value.int IntKind.i64 (tE (List.take a0.length a0) 0)),
            [Blk.row false
                (((Kd.int IntKind.i64).pair
                      (((Kd.int IntKind.i64).pair (Kd.int IntKind.i64)).pair (Kd.int IntKind.i64))).pair
                  ((Kd.int IntKind.i64).pair (Kd.int IntKind.i64)))
                a0]))) := by kernel_rfl
noncomputable abbrev u93lL (a0 : List ((Int × (Int × Int) × Int) × Int × Int)) (a1 : Bool) (a2 : Int) (a3 : Int) := evRound Try.prog TU2 noCuts 117 (loopOf (codeAt 0 (bodyF Try.f93))) k93c mu93 (killA 0 k93c) [0, 1, 6] [6] c93 ((a0, a1), (a2, (a3, ())))
theorem u93l (a0 : List ((Int × (Int × Int) × Int) × Int × Int)) (a1 : Bool) (a2 : Int) (a3 : Int) : u93lL a0 a1 a2 a3 = (bif decide (IntKind.i64.wrap (a3 + 1) < (↑a0.length : Int)) then
  guardB (decide (0 ≤ IntKind.i64.wrap (a3 + 1)) && decide (IntKind.i64.wrap (a3 + 1) < (↑a0.length : Int)))
    (bindO a0[0 + (IntKind.i64.wrap (a3 + 1)).toNat]? fun x =>
      bif decide (x.fst.fst ≤ a2) then
        guardB
          (decide
            (mu93 ((List.take a0.length a0, a1), a2, IntKind.i64.wrap (a3 + 1), PUnit.unit) <
              mu93 ((a0, a1), a2, a3, ())))
          (guardB
            (bif decide (0 + a0.length ≤ a0.length) then pre93c (List.take a0.length a0) (IntKind.i64.wrap (a3 + 1))
            else false)
            (some
              (Xt.exit 0,
                [PV.sc
                    (Value.int IntKind.i64
                      (↑(YtpndjpjpmcehbaaTu.idx (List.take a0.length a0) a2 (IntKind.i64.wrap (a3 + 1)).toNat) :
                        sI.den))],
                [Blk.row false
                    (((Kd.int IntKind.i64).pair
                          (((Kd.int IntKind.i64).pair (Kd.int IntKind.i64)).pair (Kd.int IntKind.i64))).pair
                      ((Kd.int IntKind.i64).pair (Kd.int IntKind.i64)))
                    a0])))
      else
        some
          (Xt.exit 0, [PV.sc (Value.int IntKind.i64 a3)],
            [Blk.row false
                (((Kd.int IntKind.i64).pair
                      (((Kd.int IntKind.i64).pair (Kd.int IntKind.i64)).pair (Kd.int IntKind.i64))).pair
                  ((Kd.int IntKind.i64).pair (Kd.int IntKind.i64)))
                a0]))
else
  some
    (Xt.exit 0, [PV.sc (Value.int IntKind.i64 a3)],
      [Blk.row false
          (((Kd.int IntKind.i64).pair (((Kd.int IntKind.i64).pair (Kd.int IntKind.i64)).pair (Kd.int IntKind.i64))).pair
            ((Kd.int IntKind.i64).pair (Kd.int IntKind.i64)))
          a0])) := by kernel_rfl
noncomputable abbrev u93L (a0 : List ((Int × (Int × Int) × Int) × Int × Int)) (a1 : Bool) (a2 : Int) := evFuncV Try.prog TU2 (addCut 0 [0, 1, 6] [6] (entC k93c c93) noCuts) Try.f93 (killA 0 [rTN, sI]) (showA 0 [rTN, sI] ((a0, a1), (a2, ()))).1 (showA 0 [rTN, sI] ((a0, a1), (a2, ()))).2
theorem u93 (a0 : List ((Int × (Int × Int) × Int) × Int × Int)) (a1 : Bool) (a2 : Int) : u93L a0 a1 a2 = (guardB (decide (0 < (↑a0.length : Int)))
  (bindO a0[0]? fun x =>
    bif decide (a2 < x.fst.fst) then
      some
        (PV.tup
            [PV.agg
                [PV.sc (Value.int IntKind.i64 0), PV.sc (Value.int IntKind.i64 0), PV.sc (Value.int IntKind.i64 0),
                  PV.sc (Value.int IntKind.i64 0), PV.sc (Value.int IntKind.i64 0), PV.sc (Value.int IntKind.i64 0)],
              PV.sc (Value.int IntKind.i64 12)],
          [Blk.row false
              (((Kd.int IntKind.i64).pair
                    (((Kd.int IntKind.i64).pair (Kd.int IntKind.i64)).pair (Kd.int IntKind.i64))).pair
                ((Kd.int IntKind.i64).pair (Kd.int IntKind.i64)))
              a0])
    else
      guardB
        (decide (0 ≤ IntKind.i64.wrap ((↑a0.length : Int) - 1)) &&
          decide (IntKind.i64.wrap ((↑a0.length : Int) - 1) < (↑a0.length : Int)))
        (bindO a0[0 + (IntKind.i64.wrap ((↑a0.length : Int) - 1)).toNat]? fun x =>
          bif decide (a2 > x.fst.fst) then
            some
              (PV.tup
                  [PV.agg
                      [PV.sc (Value.int IntKind.i64 0), PV.sc (Value.int IntKind.i64 0),
                        PV.sc (Value.int IntKind.i64 0), PV.sc (Value.int IntKind.i64 0),
                        PV.sc (Value.int IntKind.i64 0), PV.sc (Value.int IntKind.i64 0)],
                    PV.sc (Value.int IntKind.i64 12)],
                [Blk.row false
                    (((Kd.int IntKind.i64).pair
                          (((Kd.int IntKind.i64).pair (Kd.int IntKind.i64)).pair (Kd.int IntKind.i64))).pair
                      ((Kd.int IntKind.i64).pair (Kd.int IntKind.i64)))
                    a0])
          else
            guardB (bif decide (0 + a0.length ≤ a0.length) then pre93c (List.take a0.length a0) 0 else false)
              (guardB
                (decide (0 ≤ (↑(YtpndjpjpmcehbaaTu.idx (List.take a0.length a0) a2 (Int.toNat 0)) : sI.den)) &&
                  decide
                    ((↑(YtpndjpjpmcehbaaTu.idx (List.take a0.length a0) a2 (Int.toNat 0)) : sI.den) <
                      (↑a0.length : Int)))
                (bindO a0[0 + Int.toNat (↑(YtpndjpjpmcehbaaTu.idx (List.take a0.length a0) a2 (Int.toNat 0)) : sI.den)]?
                  fun x =>
                  bif x.fst.fst == a2 then
                    some
                      (PV.tup
                          [PV.agg
                              [PV.sc (Value.int IntKind.i64 x.fst.fst), PV.sc (Value.int IntKind.i64 x.fst.snd.fst.fst),
                                PV.sc (Value.int IntKind.i64 x.fst.snd.fst.snd),
                                PV.sc (Value.int IntKind.i64 x.fst.snd.snd), PV.sc (Value.int IntKind.i64 x.snd.fst),
                                PV.sc (Value.int IntKind.i64 x.snd.snd)],
                            PV.sc (Value.int IntKind.i64 0)],
                        [Blk.row false
                            (((Kd.int IntKind.i64).pair
                                  (((Kd.int IntKind.i64).pair (Kd.int IntKind.i64)).pair (Kd.int IntKind.i64))).pair
                              ((Kd.int IntKind.i64).pair (Kd.int IntKind.i64)))
                            a0])
                  else
                    guardB
                      (decide
                          (0 ≤
                            IntKind.i64.wrap
                              ((↑(YtpndjpjpmcehbaaTu.idx (List.take a0.length a0) a2 (Int.toNat 0)) : sI.den) + 1)) &&
                        decide
                          (IntKind.i64.wrap
                              ((↑(YtpndjpjpmcehbaaTu.idx (List.take a0.length a0) a2 (Int.toNat 0)) : sI.den) + 1) <
                            (↑a0.length : Int)))
                      (bindO
                        a0[0 +
                            (IntKind.i64.wrap
                                ((↑(YtpndjpjpmcehbaaTu.idx (List.take a0.length a0) a2 (Int.toNat 0)) : sI.den) +
                                  1)).toNat]?
                        fun x_1 =>
                        guardB (nz (IntKind.i64.wrap (x_1.fst.fst - x.fst.fst)))
                          (guardB (nz (IntKind.i64.wrap (x_1.fst.fst - x.fst.fst)))
                            (guardB (nz (IntKind.i64.wrap (x_1.fst.fst - x.fst.fst)))
                              (some
                                (PV.tup
                                    [PV.agg
                                        [PV.sc (Value.int IntKind.i64 a2),
                                          PV.sc
                                            (Value.int IntKind.i64
                                              (towS x.fst.snd.fst.fst x.fst.snd.fst.snd x_1.fst.snd.fst.fst
                                                    x_1.fst.snd.fst.snd (IntKind.i64.wrap (a2 - x.fst.fst))
                                                    (IntKind.i64.wrap (x_1.fst.fst - x.fst.fst))).fst.fst),
                                          PV.sc
                                            (Value.int IntKind.i64
                                              (towS x.fst.snd.fst.fst x.fst.snd.fst.snd x_1.fst.snd.fst.fst
                                                    x_1.fst.snd.fst.snd (IntKind.i64.wrap (a2 - x.fst.fst))
                                                    (IntKind.i64.wrap (x_1.fst.fst - x.fst.fst))).fst.snd),
                                          PV.sc
                                            (Value.int IntKind.i64
                                              (btw x.fst.snd.snd x_1.fst.snd.snd (IntKind.i64.wrap (a2 - x.fst.fst))
                                                (IntKind.i64.wrap (x_1.fst.fst - x.fst.fst)))),
                                          PV.sc
                                            (Value.int IntKind.i64
                                              (abv x.snd.fst x_1.snd.fst (IntKind.i64.wrap (a2 - x.fst.fst))
                                                (IntKind.i64.wrap (x_1.fst.fst - x.fst.fst)))),
                                          PV.sc
                                            (Value.int IntKind.i64
                                              (abv x.snd.snd x_1.snd.snd (IntKind.i64.wrap (a2 - x.fst.fst))
                                                (IntKind.i64.wrap (x_1.fst.fst - x.fst.fst))))],
                                      PV.sc (Value.int IntKind.i64 0)],
                                  [Blk.row false
                                      (((Kd.int IntKind.i64).pair
                                            (((Kd.int IntKind.i64).pair (Kd.int IntKind.i64)).pair
                                              (Kd.int IntKind.i64))).pair
                                        ((Kd.int IntKind.i64).pair (Kd.int IntKind.i64)))
                                      a0])))))))))) := by kernel_rfl
noncomputable abbrev u48L (a0 : List ((Int × (Int × Int) × Int) × Int × Int)) (a1 : Bool) (a2 : Int) := evFuncV Try.prog TU3 noCuts Try.f48 (killA 0 [rTN, sI]) (showA 0 [rTN, sI] ((a0, a1), (a2, ()))).1 (showA 0 [rTN, sI] ((a0, a1), (a2, ()))).2
theorem u48 (a0 : List ((Int × (Int × Int) × Int) × Int × Int)) (a1 : Bool) (a2 : Int) : u48L a0 a1 a2 = (guardB (bif decide (0 + a0.length ≤ a0.length) then true else false)
  (bif chkT (List.take a0.length a0) != 0 then
    some
      (PV.tup
          [PV.agg
              [PV.sc (Value.int IntKind.i64 0), PV.sc (Value.int IntKind.i64 0), PV.sc (Value.int IntKind.i64 0),
                PV.sc (Value.int IntKind.i64 0), PV.sc (Value.int IntKind.i64 0), PV.sc (Value.int IntKind.i64 0)],
            PV.sc (Value.int IntKind.i64 (chkT (List.take a0.length a0)))],
        [Blk.row false
            (((Kd.int IntKind.i64).pair
                  (((Kd.int IntKind.i64).pair (Kd.int IntKind.i64)).pair (Kd.int IntKind.i64))).pair
              ((Kd.int IntKind.i64).pair (Kd.int IntKind.i64)))
            a0])
  else
    guardB (bif decide (0 + a0.length ≤ a0.length) then bp (chkT (List.take a0.length a0) = 0) else false)
      (some
        (PV.tup
            [PV.agg
                [PV.sc (Value.int IntKind.i64 (atS (List.take a0.length a0) a2).fst.fst.fst),
                  PV.sc (Value.int IntKind.i64 (atS (List.take a0.length a0) a2).fst.fst.snd.fst.fst),
                  PV.sc (Value.int IntKind.i64 (atS (List.take a0.length a0) a2).fst.fst.snd.fst.snd),
                  PV.sc (Value.int IntKind.i64 (atS (List.take a0.length a0) a2).fst.fst.snd.snd),
                  PV.sc (Value.int IntKind.i64 (atS (List.take a0.length a0) a2).fst.snd.fst),
                  PV.sc (Value.int IntKind.i64 (atS (List.take a0.length a0) a2).fst.snd.snd)],
              PV.sc (Value.int IntKind.i64 (atS (List.take a0.length a0) a2).snd)],
          [Blk.row false
              (((Kd.int IntKind.i64).pair
                    (((Kd.int IntKind.i64).pair (Kd.int IntKind.i64)).pair (Kd.int IntKind.i64))).pair
                ((Kd.int IntKind.i64).pair (Kd.int IntKind.i64)))
              a0])))) := by kernel_rfl
noncomputable abbrev u89L (a0 : YtpndjpjpmcehbaaTu.Tr) := evFuncV Try.prog T0 noCuts Try.f89 (killA 0 [sTrack]) (showA 0 [sTrack] (a0, ())).1 (showA 0 [sTrack] (a0, ())).2
theorem u89 (a0 : YtpndjpjpmcehbaaTu.Tr) : u89L a0 = (bif decide (a0.snd.snd.fst < 0) then some (PV.sc (Value.int IntKind.i64 4), [])
else
  bif decide (a0.snd.snd.fst > 200000) then some (PV.sc (Value.int IntKind.i64 4), [])
  else
    bif decide (a0.snd.snd.snd.fst.fst < -1000000) then some (PV.sc (Value.int IntKind.i64 4), [])
    else
      bif decide (a0.snd.snd.snd.fst.fst > 1000000) then some (PV.sc (Value.int IntKind.i64 4), [])
      else
        bif decide (a0.snd.snd.snd.fst.snd < -1000000) then some (PV.sc (Value.int IntKind.i64 4), [])
        else
          bif decide (a0.snd.snd.snd.fst.snd > 1000000) then some (PV.sc (Value.int IntKind.i64 4), [])
          else
            bif decide (a0.snd.snd.snd.snd.snd.fst < 0) then some (PV.sc (Value.int IntKind.i64 4), [])
            else
              bif decide (a0.snd.snd.snd.snd.snd.fst > 60000) then some (PV.sc (Value.int IntKind.i64 4), [])
              else
                bif decide (a0.snd.snd.snd.snd.snd.snd.snd.fst < 0) then some (PV.sc (Value.int IntKind.i64 4), [])
                else
                  bif decide (a0.snd.snd.snd.snd.snd.snd.snd.fst > 4000000) then
                    some (PV.sc (Value.int IntKind.i64 4), [])
                  else
                    bif decide (a0.snd.snd.snd.snd.snd.snd.snd.snd.fst < -1) then
                      some (PV.sc (Value.int IntKind.i64 4), [])
                    else
                      bif decide (a0.snd.snd.snd.snd.snd.snd.snd.snd.fst > 4095) then
                        some (PV.sc (Value.int IntKind.i64 4), [])
                      else some (PV.sc (Value.int IntKind.i64 0), [])) := by kernel_rfl
noncomputable abbrev u90L (a0 : YtpndjpjpmcehbaaTu.Tr) (a1 : List ((Int × (Int × Int) × Int) × Int × Int)) (a2 : Bool) := evFuncV Try.prog TU5 noCuts Try.f90 (killA 0 [sTrack, rTN]) (showA 0 [sTrack, rTN] (a0, ((a1, a2), ()))).1 (showA 0 [sTrack, rTN] (a0, ((a1, a2), ()))).2
theorem u90 (a0 : YtpndjpjpmcehbaaTu.Tr) (a1 : List ((Int × (Int × Int) × Int) × Int × Int)) (a2 : Bool) : u90L a0 a1 a2 = (bif trE a0 != 0 then
  some
    (PV.tup [PV.sc (Value.bool false), PV.sc (Value.int IntKind.i64 (trE a0))],
      [Blk.row false
          (((Kd.int IntKind.i64).pair (((Kd.int IntKind.i64).pair (Kd.int IntKind.i64)).pair (Kd.int IntKind.i64))).pair
            ((Kd.int IntKind.i64).pair (Kd.int IntKind.i64)))
          a1])
else
  guardB (bif decide (0 + a1.length ≤ a1.length) then true else false)
    (bif chkT (List.take a1.length a1) != 0 then
      some
        (PV.tup [PV.sc (Value.bool false), PV.sc (Value.int IntKind.i64 (chkT (List.take a1.length a1)))],
          [Blk.row false
              (((Kd.int IntKind.i64).pair
                    (((Kd.int IntKind.i64).pair (Kd.int IntKind.i64)).pair (Kd.int IntKind.i64))).pair
                ((Kd.int IntKind.i64).pair (Kd.int IntKind.i64)))
              a1])
    else
      guardB (bif decide (0 + a1.length ≤ a1.length) then true else false)
        (bif (AtS (List.take a1.length a1) a0.snd.snd.fst).snd != 0 then
          some
            (PV.tup [PV.sc (Value.bool false), PV.sc (Value.int IntKind.i64 0)],
              [Blk.row false
                  (((Kd.int IntKind.i64).pair
                        (((Kd.int IntKind.i64).pair (Kd.int IntKind.i64)).pair (Kd.int IntKind.i64))).pair
                    ((Kd.int IntKind.i64).pair (Kd.int IntKind.i64)))
                  a1])
        else
          bif
              decide
                (sqr (AtS (List.take a1.length a1) a0.snd.snd.fst).fst.fst.snd.fst.fst
                    (AtS (List.take a1.length a1) a0.snd.snd.fst).fst.fst.snd.fst.snd a0.snd.snd.snd.fst.fst
                    a0.snd.snd.snd.fst.snd ≤
                  IntKind.i64.wrap
                    (IntKind.i64.wrap
                        ((AtS (List.take a1.length a1) a0.snd.snd.fst).fst.snd.fst +
                          a0.snd.snd.snd.snd.snd.snd.snd.fst) *
                      IntKind.i64.wrap
                        ((AtS (List.take a1.length a1) a0.snd.snd.fst).fst.snd.fst +
                          a0.snd.snd.snd.snd.snd.snd.snd.fst))) then
            some
              (PV.tup
                  [PV.sc
                      (Value.bool
                        (decide
                          (max
                              (IntKind.i64.wrap
                                ((AtS (List.take a1.length a1) a0.snd.snd.fst).fst.fst.snd.snd -
                                  a0.snd.snd.snd.snd.snd.fst))
                              (IntKind.i64.wrap
                                (a0.snd.snd.snd.snd.snd.fst -
                                  (AtS (List.take a1.length a1) a0.snd.snd.fst).fst.fst.snd.snd)) ≤
                            IntKind.i64.wrap ((AtS (List.take a1.length a1) a0.snd.snd.fst).fst.snd.snd + 100)))),
                    PV.sc (Value.int IntKind.i64 0)],
                [Blk.row false
                    (((Kd.int IntKind.i64).pair
                          (((Kd.int IntKind.i64).pair (Kd.int IntKind.i64)).pair (Kd.int IntKind.i64))).pair
                      ((Kd.int IntKind.i64).pair (Kd.int IntKind.i64)))
                    a1])
          else
            some
              (PV.tup [PV.sc (Value.bool false), PV.sc (Value.int IntKind.i64 0)],
                [Blk.row false
                    (((Kd.int IntKind.i64).pair
                          (((Kd.int IntKind.i64).pair (Kd.int IntKind.i64)).pair (Kd.int IntKind.i64))).pair
                      ((Kd.int IntKind.i64).pair (Kd.int IntKind.i64)))
                    a1])))) := by kernel_rfl
theorem len_true {α : Type} {l : List α} : decide (l.length ≤ l.length) = true := decide_eq_true (Nat.le_refl _)
theorem get_ex {α : Type} {l : List α} {k : Nat} (h : k < l.length) : ∃ x, l[k]? = some x := ⟨_, List.getElem?_eq_getElem h⟩
theorem bne_t {a b : Int} (h : a ≠ b) : (a != b) = true := by simpa using h
theorem bne_f {a b : Int} (h : a = b) : (a != b) = false := by simpa using h
theorem chk_yes {x y : Int} (h : -1000000 ≤ x ∧ x ≤ 1000000 ∧ -1000000 ≤ y ∧ y ≤ 1000000) : chkP x y = 0 := if_pos h
theorem chk_no {x y : Int} (h : ¬ (-1000000 ≤ x ∧ x ≤ 1000000 ∧ -1000000 ≤ y ∧ y ≤ 1000000)) : chkP x y = 4 := if_neg h
theorem p92 (a0 a1 : Int) : u92L a0 a1 = some (.sc (.int .i64 (chkP a0 a1)), []) := by
  rw [u92]
  refine cond_split (fun h => ?_) (fun h1 => ?_)
  · rw [chk_no (by have := of_decide_eq_true h; omega)]
  refine cond_split (fun h => ?_) (fun h2 => ?_)
  · rw [chk_no (by have := of_decide_eq_true h; omega)]
  refine cond_split (fun h => ?_) (fun h3 => ?_)
  · rw [chk_no (by have := of_decide_eq_true h; omega)]
  refine cond_split (fun h => ?_) (fun h4 => ?_)
  · rw [chk_no (by have := of_decide_eq_true h; omega)]
  · rw [chk_yes (by have := of_decide_eq_false h1; have := of_decide_eq_false h2; have := of_decide_eq_false h3; have := of_decide_eq_false h4; omega)]
def tup2 (r : (Int × Int) × Int) : Option (PV × List Blk) := some (.tup [.agg [.sc (.int .i64 r.1.1), .sc (.int .i64 r.1.2)], .sc (.int .i64 r.2)], [])
theorem p121 (a0 a1 a2 a3 a4 a5 : Int) : u121L a0 a1 a2 a3 a4 a5 = tup2 (towS a0 a1 a2 a3 a4 a5) := by
  rw [u121]; unfold towS
  refine cond_split (fun h => ?_) (fun h1 => ?_)
  · rw [if_pos (of_decide_eq_true h)]; rfl
  rw [if_neg (of_decide_eq_false h1)]
  refine cond_split (fun h => ?_) (fun h2 => ?_)
  · rw [if_pos (Or.inl (of_decide_eq_true h))]; rfl
  refine cond_split (fun h => ?_) (fun h3 => ?_)
  · rw [if_pos (Or.inr (Or.inl (of_decide_eq_true h)))]; rfl
  refine cond_split (fun h => ?_) (fun h4 => ?_)
  · rw [if_pos (Or.inr (Or.inr (Or.inl (of_decide_eq_true h))))]; rfl
  refine cond_split (fun h => ?_) (fun h5 => ?_)
  · rw [if_pos (Or.inr (Or.inr (Or.inr (Or.inl (ne_of_bne h)))))]; rfl
  refine cond_split (fun h => ?_) (fun h6 => ?_)
  · rw [if_pos (Or.inr (Or.inr (Or.inr (Or.inr (ne_of_bne h)))))]; rfl
  rw [if_neg (fun h => by
    rcases h with h | h | h | h | h
    · exact of_decide_eq_false h2 h
    · exact of_decide_eq_false h3 h
    · exact of_decide_eq_false h4 h
    · exact h (eq_of_bne h5)
    · exact h (eq_of_bne h6))]
  have hz : nz a5 = true := by
    unfold nz; rw [decide_eq_false (by have := of_decide_eq_false h1; omega)]; rfl
  exact guard_split hz (guard_split hz rfl)
theorem tE_step {l : List TN} {k : Int} {n : TN} (h0 : 0 ≤ k) (h : k < l.length) (hn : l[k.toNat]? = some n) :
    tE l k = if tm n < 0 ∨ 200000 < tm n ∨ (0 < k.toNat ∧ tm n ≤ prevT l k.toNat) then 12 else if vOk n then tE l (k + 1) else 4 := by
  unfold tE
  rw [show l.length - k.toNat = (l.length - (k + 1).toNat) + 1 by omega]
  conv => lhs; unfold tubeK
  rw [hn, show (k + 1).toNat = k.toNat + 1 by omega]
theorem tE_end {l : List TN} {k : Int} (h : ¬ k < l.length) : tE l k = 0 := by
  unfold tE; rw [show l.length - k.toNat = 0 by omega]; rfl
def BT (l l2 : List TN) : List Blk := [.row false kTN l, .row false kTN l2]
theorem p46l (l : List TN) (nl : Bool) (l2 : List TN) (nl2 : Bool) (n k : Int) (h : pre46 l l2 n k = true) : u46lL l nl l2 nl2 n k = cond (decide (tE l k = 0)) (some (.exit 1, [.undef], BT l l2)) (some (.ret, [.sc (.int .i64 (tE l k))], BT l l2)) := by
  obtain ⟨rfl, h1, h2, h3, h4⟩ := bp_true.1 h
  rw [u46l]
  simp only [List.take_length, Nat.zero_add, len_true, cond_true]
  refine cond_split (fun hk => ?_) (fun hk => ?_)
  · have hk := of_decide_eq_true hk
    obtain ⟨x, hx⟩ := get_ex (l := l) (k := k.toNat) (by omega)
    have hs := tE_step h3 (by omega) hx
    have hw : IntKind.i64.wrap (k + 1) = k + 1 := W_id _ (by omega) (by omega)
    have hw1 : 0 < k → IntKind.i64.wrap (k - 1) = k - 1 := fun _ => W_id _ (by omega) (by omega)
    rw [hx]
    refine guard_split (by simp; omega) ?_
    simp only [bindO]
    refine cond_split (fun h => ?_) (fun c1 => ?_)
    · rw [hs, if_pos (Or.inl (show tm x < 0 from of_decide_eq_true h))]; rfl
    refine cond_split (fun h => ?_) (fun c2 => ?_)
    · rw [hs, if_pos (Or.inr (Or.inl (show 200000 < tm x from of_decide_eq_true h)))]; rfl
    refine cond_split (fun c3 => ?_) (fun c3 => ?_)
    · have c3 := of_decide_eq_true c3
      obtain ⟨q, hq⟩ := get_ex (l := l) (k := (k - 1).toNat) (by omega)
      have hp : prevT l k.toNat = tm q := by unfold prevT; rw [show k.toNat - 1 = (k - 1).toNat by omega, hq]
      rw [hw1 c3, hq]
      refine guard_split (by simp; omega) ?_
      simp only [bindO]
      refine cond_split (fun h => ?_) (fun c4 => ?_)
      · rw [hs, if_pos (Or.inr (Or.inr ⟨by omega, by rw [hp]; exact of_decide_eq_true h⟩))]; rfl
      rw [if_neg (fun h => by
        rcases h with h | h | ⟨_, h⟩
        · exact of_decide_eq_false c1 h
        · exact of_decide_eq_false c2 h
        · rw [hp] at h; exact of_decide_eq_false c4 h)] at hs
      refine cond_split (fun h => ?_) (fun c5 => ?_)
      · by_cases hc : -1000000 ≤ X x ∧ X x ≤ 1000000 ∧ -1000000 ≤ Y x ∧ Y x ≤ 1000000
        · exact absurd (chk_yes hc) (ne_of_bne h)
        · rw [show chkP x.fst.snd.fst.fst x.fst.snd.fst.snd = 4 from chk_no hc, hs, if_neg (fun k => hc ⟨k.1, k.2.1, k.2.2.1, k.2.2.2.1⟩)]; rfl
      have c5 : -1000000 ≤ X x ∧ X x ≤ 1000000 ∧ -1000000 ≤ Y x ∧ Y x ≤ 1000000 := by
        by_cases hc : -1000000 ≤ X x ∧ X x ≤ 1000000 ∧ -1000000 ≤ Y x ∧ Y x ≤ 1000000
        · exact hc
        · exact absurd ((chk_no hc).symm.trans (eq_of_bne c5)) (by decide)
      refine cond_split (fun h => ?_) (fun d1 => ?_)
      · have h : Hh x < 0 := of_decide_eq_true h; rw [hs, if_neg (by omega)]; rfl
      refine cond_split (fun h => ?_) (fun d2 => ?_)
      · have h : Hh x > 60000 := of_decide_eq_true h; rw [hs, if_neg (by omega)]; rfl
      refine cond_split (fun h => ?_) (fun d3 => ?_)
      · have h : Rd x < 0 := of_decide_eq_true h; rw [hs, if_neg (by omega)]; rfl
      refine cond_split (fun h => ?_) (fun d4 => ?_)
      · have h : Rd x > 1000000 := of_decide_eq_true h; rw [hs, if_neg (by omega)]; rfl
      refine cond_split (fun h => ?_) (fun d5 => ?_)
      · have h : Bn x < 0 := of_decide_eq_true h; rw [hs, if_neg (by omega)]; rfl
      refine cond_split (fun h => ?_) (fun d6 => ?_)
      · have h : Bn x > 60000 := of_decide_eq_true h; rw [hs, if_neg (by omega)]; rfl
      have d1 : ¬ Hh x < 0 := of_decide_eq_false d1
      have d2 : ¬ Hh x > 60000 := of_decide_eq_false d2
      have d3 : ¬ Rd x < 0 := of_decide_eq_false d3
      have d4 : ¬ Rd x > 1000000 := of_decide_eq_false d4
      have d5 : ¬ Bn x < 0 := of_decide_eq_false d5
      have d6 : ¬ Bn x > 60000 := of_decide_eq_false d6
      rw [hs, if_pos (by omega), hw]
      refine guard_split (decide_eq_true ?_) (guard_split (bp_mk ⟨rfl, h1, h2, by omega, by omega⟩) rfl)
      show (n - (k + 1)).toNat < (n - k).toNat
      omega
    · have c3 := of_decide_eq_false c3
      rw [if_neg (fun h => by
        rcases h with h | h | ⟨h, _⟩
        · exact of_decide_eq_false c1 h
        · exact of_decide_eq_false c2 h
        · omega)] at hs
      refine cond_split (fun h => ?_) (fun c5 => ?_)
      · by_cases hc : -1000000 ≤ X x ∧ X x ≤ 1000000 ∧ -1000000 ≤ Y x ∧ Y x ≤ 1000000
        · exact absurd (chk_yes hc) (ne_of_bne h)
        · rw [show chkP x.fst.snd.fst.fst x.fst.snd.fst.snd = 4 from chk_no hc, hs, if_neg (fun k => hc ⟨k.1, k.2.1, k.2.2.1, k.2.2.2.1⟩)]; rfl
      have c5 : -1000000 ≤ X x ∧ X x ≤ 1000000 ∧ -1000000 ≤ Y x ∧ Y x ≤ 1000000 := by
        by_cases hc : -1000000 ≤ X x ∧ X x ≤ 1000000 ∧ -1000000 ≤ Y x ∧ Y x ≤ 1000000
        · exact hc
        · exact absurd ((chk_no hc).symm.trans (eq_of_bne c5)) (by decide)
      refine cond_split (fun h => ?_) (fun d1 => ?_)
      · have h : Hh x < 0 := of_decide_eq_true h; rw [hs, if_neg (by omega)]; rfl
      refine cond_split (fun h => ?_) (fun d2 => ?_)
      · have h : Hh x > 60000 := of_decide_eq_true h; rw [hs, if_neg (by omega)]; rfl
      refine cond_split (fun h => ?_) (fun d3 => ?_)
      · have h : Rd x < 0 := of_decide_eq_true h; rw [hs, if_neg (by omega)]; rfl
      refine cond_split (fun h => ?_) (fun d4 => ?_)
      · have h : Rd x > 1000000 := of_decide_eq_true h; rw [hs, if_neg (by omega)]; rfl
      refine cond_split (fun h => ?_) (fun d5 => ?_)
      · have h : Bn x < 0 := of_decide_eq_true h; rw [hs, if_neg (by omega)]; rfl
      refine cond_split (fun h => ?_) (fun d6 => ?_)
      · have h : Bn x > 60000 := of_decide_eq_true h; rw [hs, if_neg (by omega)]; rfl
      have d1 : ¬ Hh x < 0 := of_decide_eq_false d1
      have d2 : ¬ Hh x > 60000 := of_decide_eq_false d2
      have d3 : ¬ Rd x < 0 := of_decide_eq_false d3
      have d4 : ¬ Rd x > 1000000 := of_decide_eq_false d4
      have d5 : ¬ Bn x < 0 := of_decide_eq_false d5
      have d6 : ¬ Bn x > 60000 := of_decide_eq_false d6
      rw [hs, if_pos (by omega), hw]
      refine guard_split (decide_eq_true ?_) (guard_split (bp_mk ⟨rfl, h1, h2, by omega, by omega⟩) rfl)
      show (n - (k + 1)).toNat < (n - k).toNat
      omega
  · have hk := of_decide_eq_false hk
    rw [tE_end (by omega)]; rfl
theorem p46 (l : List TN) (nl : Bool) : u46L l nl = some (.sc (.int .i64 (chkT l)), [.row false kTN l]) := by
  rw [u46]
  simp only [List.take_length, Nat.zero_add, len_true, cond_true]
  unfold chkT
  refine cond_split (fun h => ?_) (fun h => ?_)
  · rw [if_pos (by have := of_decide_eq_true h; omega)]
  have h := of_decide_eq_false h
  rw [if_neg (by omega)]
  refine cond_split (fun h => ?_) (fun h' => ?_)
  · rw [if_pos (by have : ((l.length : Nat) : Int) = 0 := by simpa using h
                   omega)]
  rw [if_neg (by have : ¬ ((l.length : Nat) : Int) = 0 := by simpa using h'
                 omega)]
  refine guard_split (bp_mk ⟨rfl, rfl, by omega, by omega, by omega⟩) ?_
  refine cond_split (fun h => ?_) (fun h => rfl)
  rw [of_decide_eq_true h]
theorem chk_len {l : List TN} (h : chkT l = 0) : 1 ≤ l.length ∧ l.length ≤ 64 ∧ tE l 0 = 0 := by
  unfold chkT at h
  by_cases h1 : 64 < l.length
  · rw [if_pos h1] at h; exact absurd h (by decide)
  rw [if_neg h1] at h
  by_cases h2 : l.length = 0
  · rw [if_pos h2] at h; exact absurd h (by decide)
  rw [if_neg h2] at h
  exact ⟨by omega, by omega, h⟩
theorem tE_all {l : List TN} : ∀ (d : Nat) (k : Int), 0 ≤ k → k + d = l.length → tE l k = 0 → ∀ (j : Nat) (n : TN), k ≤ j → l[j]? = some n → tOk n ∧ vOk n ∧ (0 < j → prevT l j < tm n)
  | 0, k, h0, h1, _, j, n, h2, hn => by
    have := (List.getElem?_eq_some_iff.1 hn).1
    omega
  | d + 1, k, h0, h1, h, j, n, h2, hn => by
    obtain ⟨x, hx⟩ := get_ex (l := l) (k := k.toNat) (by omega)
    rw [tE_step h0 (by omega) hx] at h
    by_cases c : tm x < 0 ∨ 200000 < tm x ∨ (0 < k.toNat ∧ tm x ≤ prevT l k.toNat)
    · rw [if_pos c] at h; exact absurd h (by decide)
    rw [if_neg c] at h
    by_cases v : vOk x
    · rw [if_pos v] at h
      by_cases hj : (j : Int) = k
      · rw [show k.toNat = j by omega] at hx c
        rw [hx] at hn; cases hn
        refine ⟨⟨by omega, by omega⟩, v, fun hp => ?_⟩
        have : ¬ (0 < j ∧ tm n ≤ prevT l j) := fun h => c (Or.inr (Or.inr h))
        omega
      · exact tE_all d (k + 1) (by omega) (by omega) h j n (by omega) hn
    · rw [if_neg v] at h; exact absurd h (by decide)
theorem node_ok {l : List TN} (h : chkT l = 0) {j : Nat} {n : TN} (hn : l[j]? = some n) : tOk n ∧ vOk n ∧ (0 < j → prevT l j < tm n) :=
  tE_all l.length 0 (by omega) (by omega) (chk_len h).2.2 j n (by omega) hn
theorem idxK_at {l : List TN} {t : Int} : ∀ (d k : Nat), k + d = l.length → 0 < d → (∃ a, l[k]? = some a ∧ tm a ≤ t) →
    ∃ a, idxK l t d k < l.length ∧ l[idxK l t d k]? = some a ∧ tm a ≤ t ∧ ∀ b, l[idxK l t d k + 1]? = some b → t < tm b
  | 0, k, h, h0, _ => by omega
  | d + 1, k, h, _, ⟨a, ha, hl⟩ => by
    unfold idxK
    cases hn : l[k + 1]? with
    | none => simp only []; exact ⟨a, by omega, ha, hl, fun b hb => by rw [hn] at hb; cases hb⟩
    | some n =>
      simp only []
      have hk := (List.getElem?_eq_some_iff.1 hn).1
      by_cases ht : tm n ≤ t
      · rw [if_pos ht]; exact idxK_at d (k + 1) (by omega) (by omega) ⟨n, hn, ht⟩
      · rw [if_neg ht]; exact ⟨a, by omega, ha, hl, fun b hb => by rw [hn] at hb; cases hb; omega⟩
theorem idx_step {l : List TN} {t : Int} {k : Nat} (h : k < l.length) : idx l t k = match l[k + 1]? with
    | none => k
    | some n => if tm n ≤ t then idx l t (k + 1) else k := by
  unfold idx
  rw [show l.length - k = (l.length - (k + 1)) + 1 by omega]
  rfl
theorem p93l (l : List TN) (nl : Bool) (t k : Int) (h : pre93c l k = true) : u93lL l nl t k = some (.exit 0, [.sc (.int .i64 (idx l t k.toNat : Nat))], [.row false kTN l]) := by
  obtain ⟨h1, h2, h3⟩ := bp_true.1 h
  rw [u93l]
  have hw : IntKind.i64.wrap (k + 1) = k + 1 := W_id _ (by omega) (by omega)
  simp only [List.take_length, Nat.zero_add, len_true, cond_true, hw]
  have hst := idx_step (l := l) (t := t) (k := k.toNat) (by omega)
  rw [show (k + 1).toNat = k.toNat + 1 by omega]
  refine cond_split (fun hk => ?_) (fun hk => ?_)
  · have hk := of_decide_eq_true hk
    obtain ⟨x, hx⟩ := get_ex (l := l) (k := k.toNat + 1) (by omega)
    rw [hx] at hst ⊢
    simp only [] at hst
    refine guard_split (by simp; omega) ?_
    simp only [bindO]
    refine cond_split (fun h => ?_) (fun h => ?_)
    · rw [if_pos (show tm x ≤ t from of_decide_eq_true h)] at hst
      rw [hst]
      refine guard_split (decide_eq_true ?_) (guard_split (bp_mk ⟨h1, by omega, by omega⟩) rfl)
      show ((l.length : Int) - (k + 1)).toNat < ((l.length : Int) - k).toNat
      omega
    · rw [if_neg (show ¬ tm x ≤ t from of_decide_eq_false h)] at hst; rw [hst, Int.toNat_of_nonneg h2]
  · have hk := of_decide_eq_false hk
    rw [List.getElem?_eq_none (by omega)] at hst; rw [hst, Int.toNat_of_nonneg h2]
theorem atL_of {l : List TN} {k : Nat} {a : TN} (h : l[k]? = some a) : atL l k = a := by unfold atL; rw [List.getD, h]; rfl
def tupN (r : TN × Int) (l : List TN) : Option (PV × List Blk) := some (.tup [(⟨true, kTN⟩ : Sh).pv r.1, .sc (.int .i64 r.2)], [.row false kTN l])
theorem p93 (l : List TN) (nl : Bool) (t : Int) (h : chkT l = 0) : u93L l nl t = tupN (atS l t) l := by
  obtain ⟨h1, h2, h3⟩ := chk_len h
  rw [u93]
  simp only [List.take_length, Nat.zero_add, len_true, cond_true]
  obtain ⟨f, hf⟩ := get_ex (l := l) (k := 0) (by omega)
  obtain ⟨z, hz⟩ := get_ex (l := l) (k := l.length - 1) (by omega)
  have hw : IntKind.i64.wrap ((l.length : Int) - 1) = (l.length : Int) - 1 := W_id _ (by omega) (by omega)
  rw [hw, show ((l.length : Int) - 1).toNat = l.length - 1 by omega, hf, hz]
  refine guard_split (decide_eq_true (by omega)) ?_
  simp only [bindO]
  unfold atS
  rw [atL_of hf, atL_of hz]
  refine cond_split (fun h => ?_) (fun c1 => ?_)
  · rw [if_pos (Or.inl (show t < tm f from of_decide_eq_true h))]; rfl
  refine guard_split (by simp; omega) ?_
  refine cond_split (fun h => ?_) (fun c2 => ?_)
  · rw [if_pos (Or.inr (show tm z < t from of_decide_eq_true h))]; rfl
  have c1 : ¬ t < tm f := of_decide_eq_false c1
  have c2 : ¬ tm z < t := of_decide_eq_false c2
  rw [if_neg (fun h => h.elim c1 c2)]
  refine guard_split (bp_mk ⟨h2, by omega, by omega⟩) ?_
  obtain ⟨a, q1, q2, q3, q4⟩ := idxK_at (l := l) (t := t) l.length 0 (by omega) (by omega) ⟨f, hf, by omega⟩
  have q0 : idx l t 0 = idxK l t l.length 0 := rfl
  rw [← q0] at q1 q2 q4
  rw [show idx l t (Int.toNat 0) = idx l t 0 from rfl]
  generalize idx l t 0 = i at q1 q2 q4
  rw [show Int.toNat ((i : Nat) : sI.den) = i from Int.toNat_natCast i, q2, atL_of q2]
  refine guard_split (by rw [Bool.and_eq_true]; exact ⟨decide_eq_true (Int.natCast_nonneg i), decide_eq_true (Int.ofNat_lt.2 q1)⟩) ?_
  refine cond_split (fun h => ?_) (fun c3 => ?_)
  · have h : (tm a == t) = true := h
    rw [if_pos (show tm a = t by simpa using h)]; rfl
  have c3 : (tm a == t) = false := c3
  have c3 : ¬ tm a = t := by simpa using c3
  rw [if_neg c3]
  have hi : i + 1 < l.length := by
    rcases Nat.lt_or_ge (i + 1) l.length with h | h
    · exact h
    · have : i = l.length - 1 := by omega
      rw [this, hz] at q2; cases q2; omega
  obtain ⟨b, hb⟩ := get_ex hi
  have hwi : IntKind.i64.wrap (((i : Nat) : Int) + 1) = (i : Int) + 1 := W_id _ (by omega) (by omega)
  rw [show IntKind.i64.wrap (((i : Nat) : sI.den) + 1) = (i : Int) + 1 from hwi, show Int.toNat ((i : Int) + 1) = i + 1 by omega, hb, atL_of hb]
  refine guard_split (by simp; omega) ?_
  simp only [bindO]
  have k1 := (node_ok h q2).1
  have k2 := (node_ok h hb).1
  have k3 := q4 b hb
  have hd : IntKind.i64.wrap (tm b - tm a) = tm b - tm a := W_id _ (by omega) (by omega)
  have hnz : nz (IntKind.i64.wrap (tm b - tm a)) = true := by
    rw [hd]; unfold nz; rw [decide_eq_false (by omega)]; rfl
  exact guard_split hnz (guard_split hnz (guard_split hnz rfl))
theorem p48 (l : List TN) (nl : Bool) (t : Int) : u48L l nl t = tupN (AtS l t) l := by
  rw [u48]
  simp only [List.take_length, Nat.zero_add, len_true, cond_true]
  refine guard_split rfl ?_
  unfold AtS
  refine cond_split (fun h => ?_) (fun h => ?_)
  · rw [if_neg (ne_of_bne h)]; rfl
  · rw [if_pos (eq_of_bne h)]
    exact guard_split (bp_mk (eq_of_bne h)) rfl
theorem p89 (a0 : Tr) : u89L a0 = some (.sc (.int .i64 (trE a0)), []) := by
  rw [u89]; unfold trE
  have no : ∀ {c : Bool} {x : Option (PV × List Blk)}, (c = true → ¬ partOk (tT a0) (tX a0) (tY a0) (tH a0) (tR a0) (tC a0)) → (c = false → x = some (.sc (.int .i64 (partE (tT a0) (tX a0) (tY a0) (tH a0) (tR a0) (tC a0))), [])) →
      cond c (some (.sc (.int .i64 4), [])) x = some (.sc (.int .i64 (partE (tT a0) (tX a0) (tY a0) (tH a0) (tR a0) (tC a0))), []) := fun {c x} h1 h2 => by
    cases c with
    | true => rw [partE_neg (h1 rfl)]; rfl
    | false => exact h2 rfl
  refine no (fun h k => ?_) (fun c1 => ?_)
  · have h : tT a0 < 0 := of_decide_eq_true h; omega
  refine no (fun h k => ?_) (fun c2 => ?_)
  · have h : tT a0 > 200000 := of_decide_eq_true h; omega
  refine no (fun h k => ?_) (fun c3 => ?_)
  · have h : tX a0 < -1000000 := of_decide_eq_true h; omega
  refine no (fun h k => ?_) (fun c4 => ?_)
  · have h : tX a0 > 1000000 := of_decide_eq_true h; omega
  refine no (fun h k => ?_) (fun c5 => ?_)
  · have h : tY a0 < -1000000 := of_decide_eq_true h; omega
  refine no (fun h k => ?_) (fun c6 => ?_)
  · have h : tY a0 > 1000000 := of_decide_eq_true h; omega
  refine no (fun h k => ?_) (fun c7 => ?_)
  · have h : tH a0 < 0 := of_decide_eq_true h; omega
  refine no (fun h k => ?_) (fun c8 => ?_)
  · have h : tH a0 > 60000 := of_decide_eq_true h; omega
  refine no (fun h k => ?_) (fun c9 => ?_)
  · have h : tR a0 < 0 := of_decide_eq_true h; omega
  refine no (fun h k => ?_) (fun c10 => ?_)
  · have h : tR a0 > 4000000 := of_decide_eq_true h; omega
  refine no (fun h k => ?_) (fun c11 => ?_)
  · have h : tC a0 < -1 := of_decide_eq_true h; omega
  refine no (fun h k => ?_) (fun c12 => ?_)
  · have h : tC a0 > 4095 := of_decide_eq_true h; omega
  have c1 : ¬ tT a0 < 0 := of_decide_eq_false c1
  have c2 : ¬ tT a0 > 200000 := of_decide_eq_false c2
  have c3 : ¬ tX a0 < -1000000 := of_decide_eq_false c3
  have c4 : ¬ tX a0 > 1000000 := of_decide_eq_false c4
  have c5 : ¬ tY a0 < -1000000 := of_decide_eq_false c5
  have c6 : ¬ tY a0 > 1000000 := of_decide_eq_false c6
  have c7 : ¬ tH a0 < 0 := of_decide_eq_false c7
  have c8 : ¬ tH a0 > 60000 := of_decide_eq_false c8
  have c9 : ¬ tR a0 < 0 := of_decide_eq_false c9
  have c10 : ¬ tR a0 > 4000000 := of_decide_eq_false c10
  have c11 : ¬ tC a0 < -1 := of_decide_eq_false c11
  have c12 : ¬ tC a0 > 4095 := of_decide_eq_false c12
  rw [partE_pos (by omega)]
theorem p90 (a0 : Tr) (l : List TN) (nl : Bool) : u90L a0 l nl = some (.tup [.sc (.bool (fitsS a0 l).1), .sc (.int .i64 (fitsS a0 l).2)], [.row false kTN l]) := by
  rw [u90]
  simp only [List.take_length, Nat.zero_add, len_true, cond_true]
  unfold fitsS
  refine cond_split (fun h => ?_) (fun h => ?_)
  · rw [decide_eq_false (ne_of_bne h)]; rfl
  rw [decide_eq_true (eq_of_bne h)]
  refine guard_split rfl ?_
  refine cond_split (fun h => ?_) (fun h => ?_)
  · rw [decide_eq_false (ne_of_bne h)]; rfl
  rw [decide_eq_true (eq_of_bne h)]
  refine guard_split rfl ?_
  refine cond_split (fun h => ?_) (fun h => ?_)
  · rw [decide_eq_false (show ¬ (AtS l (tT a0)).2 = 0 from ne_of_bne h)]; rfl
  rw [decide_eq_true (show (AtS l (tT a0)).2 = 0 from eq_of_bne h)]
  unfold nearB
  refine cond_split (fun h => ?_) (fun h => ?_)
  · rw [show decide (sqr (X (AtS l (tT a0)).1) (Y (AtS l (tT a0)).1) (tX a0) (tY a0) ≤ W (W (Rd (AtS l (tT a0)).1 + tR a0) * W (Rd (AtS l (tT a0)).1 + tR a0))) = true from h]; rfl
  · rw [show decide (sqr (X (AtS l (tT a0)).1) (Y (AtS l (tT a0)).1) (tX a0) (tY a0) ≤ W (W (Rd (AtS l (tT a0)).1 + tR a0) * W (Rd (AtS l (tT a0)).1 + tR a0))) = false from h]; rfl
theorem p50 (a0 a1 : Int) : u50L a0 a1 = some (.sc (.int .i64 (aptR a0 a1)), []) := by
  rw [u50]; unfold aptR
  cases decide (a0 < a1) <;> rfl
/-! ### Tables -/
theorem TU1_ok : TableOK Try.prog TU1 :=
  ext_ok (entV_ok Try.call92 (liftV T3_ok mixed Try.func92 (show Try.f92.body = some (bodyF Try.f92) from rfl) (noCuts_ok _) (by decide) fun v h => p92 v.1.1 v.1.2))
  (ext_ok (entV_ok Try.call122 (liftV T3_ok mixed Try.func122 (show Try.f122.body = some (bodyF Try.f122) from rfl) (noCuts_ok _) (by decide) fun v h => (u122 v.1 v.2.1 v.2.2.1 v.2.2.2.1).trans (guard_split h rfl)))
  (ext_ok (entV_ok Try.call123 (liftV T3_ok mixed Try.func123 (show Try.f123.body = some (bodyF Try.f123) from rfl) (noCuts_ok _) (by decide) fun v h => (u123 v.1 v.2.1 v.2.2.1 v.2.2.2.1).trans (guard_split h rfl)))
  (ext_ok (entV_ok Try.call91 (liftV (T0_ok _) mixed Try.func91 (show Try.f91.body = some (bodyF Try.f91) from rfl) (noCuts_ok _) (by decide) fun v h => u91 v.1.1 v.1.2 v.2.1.1 v.2.1.2))
  (ext_ok (entV_ok Try.call96 (liftV (T0_ok _) mixed Try.func96 (show Try.f96.body = some (bodyF Try.f96) from rfl) (noCuts_ok _) (by decide) fun v h => u96 v.1.1 v.1.2 v.2.1.1 v.2.1.2))
  (ext_ok (entV_ok Try.call49 (liftV (T0_ok _) mixed Try.func49 (show Try.f49.body = some (bodyF Try.f49) from rfl) (noCuts_ok _) (by decide) fun v h => u49 v.1.1 v.1.2 v.2.1.1 v.2.1.2))
  (ext_ok (entV_ok Try.call50 (liftV (T0_ok _) mixed Try.func50 (show Try.f50.body = some (bodyF Try.f50) from rfl) (noCuts_ok _) (by decide) fun v h => p50 v.1 v.2.1)) T3_ok))))))
theorem in46 : CutOK Try.prog Try.f46.ntmps (codeAt 1 (bodyF Try.f46)) [0, 14, 15, 16] [2] (entC k46 c46) := loop_cutW (kill := killA 0 k46) TU1_ok mixed mu46 (by kernel_rfl) (noCuts_ok _) fun v h => p46l v.1.1 v.1.2 v.2.1.1 v.2.1.2 v.2.2.1 v.2.2.2.1 h
theorem TU2_ok : TableOK Try.prog TU2 :=
  ext_ok (entV_ok Try.call121 (liftV TU1_ok mixed Try.func121 (show Try.f121.body = some (bodyF Try.f121) from rfl) (noCuts_ok _) (by decide) fun v h => p121 v.1.1 v.1.2 v.2.1.1 v.2.1.2 v.2.2.1 v.2.2.2.1))
  (ext_ok (entV_ok Try.call46 (liftV TU1_ok mixed Try.func46 (show Try.f46.body = some (bodyF Try.f46) from rfl) (cut_cons (by kernel_rfl) in46 (noCuts_ok _)) (by decide) fun v h => p46 v.1.1 v.1.2)) TU1_ok)
theorem in93 : CutOK Try.prog Try.f93.ntmps (codeAt 0 (bodyF Try.f93)) [0, 1, 6] [6] (entC k93c c93) := loop_cutW (kill := killA 0 k93c) TU2_ok mixed mu93 (by kernel_rfl) (noCuts_ok _) fun v h => p93l v.1.1 v.1.2 v.2.1 v.2.2.1 h
theorem TU3_ok : TableOK Try.prog TU3 := ext_ok (entV_ok Try.call93 (liftV TU2_ok mixed Try.func93 (show Try.f93.body = some (bodyF Try.f93) from rfl) (cut_cons (by kernel_rfl) in93 (noCuts_ok _)) (by decide) fun v h => p93 v.1.1 v.1.2 v.2.1 (bp_true.1 h))) TU2_ok
theorem TU4_ok : TableOK Try.prog TU4 := ext_ok (entV_ok Try.call48 (liftV TU3_ok mixed Try.func48 (show Try.f48.body = some (bodyF Try.f48) from rfl) (noCuts_ok _) (by decide) fun v h => p48 v.1.1 v.1.2 v.2.1)) TU3_ok
theorem TU5_ok : TableOK Try.prog TU5 := ext_ok (entV_ok Try.call89 (liftV (T0_ok _) mixed Try.func89 (show Try.f89.body = some (bodyF Try.f89) from rfl) (noCuts_ok _) (by decide) fun v h => p89 v.1)) TU4_ok
theorem TU6_ok : TableOK Try.prog TU6 := ext_ok (entV_ok Try.call90 (liftV TU5_ok mixed Try.func90 (show Try.f90.body = some (bodyF Try.f90) from rfl) (noCuts_ok _) (by decide) fun v h => p90 v.1 v.2.1.1 v.2.1.2)) TU5_ok
end Go.Proofs.YtpndjpjpmcehbaaTu
