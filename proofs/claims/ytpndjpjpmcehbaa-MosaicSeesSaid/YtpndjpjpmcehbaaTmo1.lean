/- What is proved: the functions on radars that the law MosaicSees reaches answer what their plain functions say. No condition. -/
import Derived.Test.YtpndjpjpmcehbaaTmo0
namespace Go.Proofs.YtpndjpjpmcehbaaMo
open Go Go.Proofs Go.Proofs.YtpndjpjpmcehbaaEv Go.Proofs.YtpndjpjpmcehbaaTk
set_option maxRecDepth 100000
set_option linter.unusedSimpArgs false
set_option linter.unusedVariables false
noncomputable abbrev m138L (a0 : Int) := evFuncV Try.prog T2 noCuts Try.f138 (killA 0 [sI]) (showA 0 [sI] (a0, ())).1 (showA 0 [sI] (a0, ())).2
theorem m138 (a0 : Int) : m138L a0 = (some (PV.sc (Value.bool (a0 != a0)), [])) := by kernel_rfl
noncomputable abbrev m127L (a0 : YtpndjpjpmcehbaaMo.St) := evFuncV Try.prog T2 noCuts Try.f127 (killA 0 [sSpot]) (showA 0 [sSpot] (a0, ())).1 (showA 0 [sSpot] (a0, ())).2
theorem m127 (a0 : YtpndjpjpmcehbaaMo.St) : m127L a0 = (bif decide (a0.fst < 0) then some (PV.sc (Value.int IntKind.i64 4), [])
else
  bif decide (a0.fst > 255) then some (PV.sc (Value.int IntKind.i64 4), [])
  else
    bif !placedS a0.snd.fst.fst a0.snd.fst.snd then some (PV.sc (Value.int IntKind.i64 4), [])
    else
      bif decide (a0.snd.snd.fst < 1) then some (PV.sc (Value.int IntKind.i64 4), [])
      else
        bif decide (a0.snd.snd.fst > 1000000) then some (PV.sc (Value.int IntKind.i64 4), [])
        else
          bif decide (a0.snd.snd.snd.fst < 1) then some (PV.sc (Value.int IntKind.i64 4), [])
          else
            bif decide (a0.snd.snd.snd.fst > 10000) then some (PV.sc (Value.int IntKind.i64 4), [])
            else
              bif decide (a0.snd.snd.snd.snd < 1) then some (PV.sc (Value.int IntKind.i64 4), [])
              else
                bif decide (a0.snd.snd.snd.snd > 100) then some (PV.sc (Value.int IntKind.i64 4), [])
                else some (PV.sc (Value.int IntKind.i64 0), [])) := by kernel_rfl
noncomputable abbrev m60L (a0 : YtpndjpjpmcehbaaMo.St) := evFuncV Try.prog T2 noCuts Try.f60 (killA 0 [sSpot]) (showA 0 [sSpot] (a0, ())).1 (showA 0 [sSpot] (a0, ())).2
theorem m60 (a0 : YtpndjpjpmcehbaaMo.St) : m60L a0 = (bif inS a0.fst 0 255 then
  bif placedS a0.snd.fst.fst a0.snd.fst.snd then
    bif inS a0.snd.snd.fst 1 1000000 then
      bif inS a0.snd.snd.snd.fst 1 10000 then
        bif inS a0.snd.snd.snd.snd 1 100 then some (PV.sc (Value.int IntKind.i64 0), [])
        else some (PV.sc (Value.int IntKind.i64 4), [])
      else some (PV.sc (Value.int IntKind.i64 4), [])
    else some (PV.sc (Value.int IntKind.i64 4), [])
  else some (PV.sc (Value.int IntKind.i64 4), [])
else some (PV.sc (Value.int IntKind.i64 4), [])) := by kernel_rfl
noncomputable abbrev m49L (a0 : Pt) (a1 : Pt) := evFuncV Try.prog T2 noCuts Try.f49 (killA 0 [sP, sP]) (showA 0 [sP, sP] (a0, (a1, ()))).1 (showA 0 [sP, sP] (a0, (a1, ()))).2
theorem m49 (a0 : Pt) (a1 : Pt) : m49L a0 a1 = (some
  (PV.sc
      (Value.int IntKind.i64
        (IntKind.i64.wrap
          (IntKind.i64.wrap (IntKind.i64.wrap (a0.fst - a1.fst) * IntKind.i64.wrap (a0.fst - a1.fst)) +
            IntKind.i64.wrap (IntKind.i64.wrap (a0.snd - a1.snd) * IntKind.i64.wrap (a0.snd - a1.snd))))),
    [])) := by kernel_rfl
noncomputable abbrev m130L (a0 : Pt) (a1 : Pt) := evFuncV Try.prog T2 noCuts Try.f130 (killA 0 [sP, sP]) (showA 0 [sP, sP] (a0, (a1, ()))).1 (showA 0 [sP, sP] (a0, (a1, ()))).2
theorem m130 (a0 : Pt) (a1 : Pt) : m130L a0 a1 = (some
  (PV.sc
      (Value.int IntKind.i64
        (IntKind.i64.wrap
          (IntKind.i64.wrap (IntKind.i64.wrap (a0.fst - a1.fst) * IntKind.i64.wrap (a0.fst - a1.fst)) +
            IntKind.i64.wrap (IntKind.i64.wrap (a0.snd - a1.snd) * IntKind.i64.wrap (a0.snd - a1.snd))))),
    [])) := by kernel_rfl
noncomputable abbrev m59L := evFuncV Try.prog T2 noCuts Try.f59 (killA 0 []) (showA 0 [] ()).1 (showA 0 [] ()).2
theorem m59 : m59L = (some
  (PV.agg
      [PV.sc (Value.int IntKind.i64 1), PV.sc (Value.int IntKind.i64 0), PV.sc (Value.int IntKind.i64 0),
        PV.sc (Value.int IntKind.i64 5), PV.sc (Value.int IntKind.i64 1), PV.sc (Value.int IntKind.i64 1)],
    [])) := by kernel_rfl
noncomputable abbrev m129L (a0 : YtpndjpjpmcehbaaMo.St) (a1 : YtpndjpjpmcehbaaMo.St) := evFuncV Try.prog T2 noCuts Try.f129 (killA 0 [sSpot, bSt]) (showA 0 [sSpot, bSt] (a0, (a1, ()))).1 (showA 0 [sSpot, bSt] (a0, (a1, ()))).2
theorem m129 (a0 : YtpndjpjpmcehbaaMo.St) (a1 : YtpndjpjpmcehbaaMo.St) : m129L a0 a1 = (some
  (PV.sc (Value.bool (a0.fst == a1.fst)),
    [Blk.fix false
        [PV.sc (Value.int IntKind.i64 a1.fst), PV.sc (Value.int IntKind.i64 a1.snd.fst.fst),
          PV.sc (Value.int IntKind.i64 a1.snd.fst.snd), PV.sc (Value.int IntKind.i64 a1.snd.snd.fst),
          PV.sc (Value.int IntKind.i64 a1.snd.snd.snd.fst), PV.sc (Value.int IntKind.i64 a1.snd.snd.snd.snd)]])) := by kernel_rfl
noncomputable abbrev m149L (a0 : Int) (a1 : Int) := evFuncV Try.prog M0 noCuts Try.f149 (killA 0 [sI, sI]) (showA 0 [sI, sI] (a0, (a1, ()))).1 (showA 0 [sI, sI] (a0, (a1, ()))).2
theorem m149 (a0 : Int) (a1 : Int) : m149L a0 a1 = (some (PV.sc (Value.bool (decide (a0 < a1))), [])) := by kernel_rfl
noncomputable abbrev m101L (a0 : YtpndjpjpmcehbaaMo.St) (a1 : Pt) := evFuncV Try.prog M0 noCuts Try.f101 (killA 0 [sSpot, sP]) (showA 0 [sSpot, sP] (a0, (a1, ()))).1 (showA 0 [sSpot, sP] (a0, (a1, ()))).2
theorem m101 (a0 : YtpndjpjpmcehbaaMo.St) (a1 : Pt) : m101L a0 a1 = (bif sE a0 != 0 then some (PV.tup [PV.sc (Value.bool false), PV.sc (Value.int IntKind.i64 (sE a0))], [])
else
  bif !placedS a1.fst a1.snd then some (PV.tup [PV.sc (Value.bool false), PV.sc (Value.int IntKind.i64 4)], [])
  else
    some
      (PV.tup
          [PV.sc
              (Value.bool
                (decide
                  (far a0.snd.fst.fst a0.snd.fst.snd a1.fst a1.snd ≤
                    IntKind.i64.wrap (a0.snd.snd.fst * a0.snd.snd.fst)))),
            PV.sc (Value.int IntKind.i64 0)],
        [])) := by kernel_rfl
noncomputable abbrev m142lL (a0 : List (Int × (Int × Int) × Int × Int × Int)) (a1 : Bool) (a2 : YtpndjpjpmcehbaaMo.St) (a3 : Int) (a4 : Int) := evRound Try.prog M0 noCuts 19 (loopOf (codeAt 0 (bodyF Try.f142))) kFi muFi (killA 0 kFi) [0, 1, 7, 8] [4] cFi ((a0, a1), ((a2, ()), (a3, (a4, ()))))
theorem m142l (a0 : List (Int × (Int × Int) × Int × Int × Int)) (a1 : Bool) (a2 : YtpndjpjpmcehbaaMo.St) (a3 : Int) (a4 : Int) : m142lL a0 a1 a2 a3 a4 = (bif decide (a4 < a3) then
  guardB (decide (0 ≤ a4) && decide (a4 < (↑a0.length : Int)))
    (bindO a0[0 + a4.toNat]? fun x =>
      bif decide (x.fst = a2.fst) then
        some
          (Xt.ret, [PV.sc (Value.int IntKind.i64 a4)],
            [Blk.row false
                ((Kd.int IntKind.i64).pair
                  (((Kd.int IntKind.i64).pair (Kd.int IntKind.i64)).pair
                    ((Kd.int IntKind.i64).pair ((Kd.int IntKind.i64).pair (Kd.int IntKind.i64)))))
                a0,
              Blk.fix false
                [PV.sc (Value.int IntKind.i64 a2.fst), PV.sc (Value.int IntKind.i64 a2.snd.fst.fst),
                  PV.sc (Value.int IntKind.i64 a2.snd.fst.snd), PV.sc (Value.int IntKind.i64 a2.snd.snd.fst),
                  PV.sc (Value.int IntKind.i64 a2.snd.snd.snd.fst), PV.sc (Value.int IntKind.i64 a2.snd.snd.snd.snd)]])
      else
        guardB
          (decide
            (muFi ((List.take a0.length a0, a1), (a2, PUnit.unit), a3, IntKind.i64.wrap (a4 + 1), PUnit.unit) <
              muFi ((a0, a1), (a2, ()), a3, a4, ())))
          (guardB
            (bif decide (0 + a0.length ≤ a0.length) then preFi (List.take a0.length a0) a3 (IntKind.i64.wrap (a4 + 1))
            else false)
            (bif (fiV (qS a2) (List.take a0.length a0) (IntKind.i64.wrap (a4 + 1))).isNone then
              some
                (Xt.exit 0, [PV.undef],
                  [Blk.row false
                      ((Kd.int IntKind.i64).pair
                        (((Kd.int IntKind.i64).pair (Kd.int IntKind.i64)).pair
                          ((Kd.int IntKind.i64).pair ((Kd.int IntKind.i64).pair (Kd.int IntKind.i64)))))
                      a0,
                    Blk.fix false
                      [PV.sc (Value.int IntKind.i64 a2.fst), PV.sc (Value.int IntKind.i64 a2.snd.fst.fst),
                        PV.sc (Value.int IntKind.i64 a2.snd.fst.snd), PV.sc (Value.int IntKind.i64 a2.snd.snd.fst),
                        PV.sc (Value.int IntKind.i64 a2.snd.snd.snd.fst),
                        PV.sc (Value.int IntKind.i64 a2.snd.snd.snd.snd)]])
            else
              some
                (Xt.ret,
                  [PV.sc
                      (Value.int IntKind.i64
                        ((fiV (qS a2) (List.take a0.length a0) (IntKind.i64.wrap (a4 + 1))).getD 0))],
                  [Blk.row false
                      ((Kd.int IntKind.i64).pair
                        (((Kd.int IntKind.i64).pair (Kd.int IntKind.i64)).pair
                          ((Kd.int IntKind.i64).pair ((Kd.int IntKind.i64).pair (Kd.int IntKind.i64)))))
                      a0,
                    Blk.fix false
                      [PV.sc (Value.int IntKind.i64 a2.fst), PV.sc (Value.int IntKind.i64 a2.snd.fst.fst),
                        PV.sc (Value.int IntKind.i64 a2.snd.fst.snd), PV.sc (Value.int IntKind.i64 a2.snd.snd.fst),
                        PV.sc (Value.int IntKind.i64 a2.snd.snd.snd.fst),
                        PV.sc (Value.int IntKind.i64 a2.snd.snd.snd.snd)]]))))
else
  some
    (Xt.exit 0, [PV.undef],
      [Blk.row false
          ((Kd.int IntKind.i64).pair
            (((Kd.int IntKind.i64).pair (Kd.int IntKind.i64)).pair
              ((Kd.int IntKind.i64).pair ((Kd.int IntKind.i64).pair (Kd.int IntKind.i64)))))
          a0,
        Blk.fix false
          [PV.sc (Value.int IntKind.i64 a2.fst), PV.sc (Value.int IntKind.i64 a2.snd.fst.fst),
            PV.sc (Value.int IntKind.i64 a2.snd.fst.snd), PV.sc (Value.int IntKind.i64 a2.snd.snd.fst),
            PV.sc (Value.int IntKind.i64 a2.snd.snd.snd.fst), PV.sc (Value.int IntKind.i64 a2.snd.snd.snd.snd)]])) := by kernel_rfl
noncomputable abbrev m142L (a0 : List (Int × (Int × Int) × Int × Int × Int)) (a1 : Bool) (a2 : YtpndjpjpmcehbaaMo.St) := evFuncV Try.prog M0 (addCut 0 [0, 1, 7, 8] [4] (entC kFi cFi) noCuts) Try.f142 (killA 0 kAn) (showA 0 kAn ((a0, a1), ((a2, ()), ()))).1 (showA 0 kAn ((a0, a1), ((a2, ()), ()))).2
theorem m142 (a0 : List (Int × (Int × Int) × Int × Int × Int)) (a1 : Bool) (a2 : YtpndjpjpmcehbaaMo.St) : m142L a0 a1 a2 = (guardB (bif decide (0 + a0.length ≤ a0.length) then preFi (List.take a0.length a0) (↑a0.length : Int) 0 else false)
  (bif (fiV (qS a2) (List.take a0.length a0) 0).isNone then
    some
      (PV.sc (Value.int IntKind.i64 (-1)),
        [Blk.row false
            ((Kd.int IntKind.i64).pair
              (((Kd.int IntKind.i64).pair (Kd.int IntKind.i64)).pair
                ((Kd.int IntKind.i64).pair ((Kd.int IntKind.i64).pair (Kd.int IntKind.i64)))))
            a0,
          Blk.fix false
            [PV.sc (Value.int IntKind.i64 a2.fst), PV.sc (Value.int IntKind.i64 a2.snd.fst.fst),
              PV.sc (Value.int IntKind.i64 a2.snd.fst.snd), PV.sc (Value.int IntKind.i64 a2.snd.snd.fst),
              PV.sc (Value.int IntKind.i64 a2.snd.snd.snd.fst), PV.sc (Value.int IntKind.i64 a2.snd.snd.snd.snd)]])
  else
    some
      (PV.sc (Value.int IntKind.i64 ((fiV (qS a2) (List.take a0.length a0) 0).getD 0)),
        [Blk.row false
            ((Kd.int IntKind.i64).pair
              (((Kd.int IntKind.i64).pair (Kd.int IntKind.i64)).pair
                ((Kd.int IntKind.i64).pair ((Kd.int IntKind.i64).pair (Kd.int IntKind.i64)))))
            a0,
          Blk.fix false
            [PV.sc (Value.int IntKind.i64 a2.fst), PV.sc (Value.int IntKind.i64 a2.snd.fst.fst),
              PV.sc (Value.int IntKind.i64 a2.snd.fst.snd), PV.sc (Value.int IntKind.i64 a2.snd.snd.fst),
              PV.sc (Value.int IntKind.i64 a2.snd.snd.snd.fst), PV.sc (Value.int IntKind.i64 a2.snd.snd.snd.snd)]]))) := by kernel_rfl
noncomputable abbrev m128L (a0 : List (Int × (Int × Int) × Int × Int × Int)) (a1 : Bool) (a2 : YtpndjpjpmcehbaaMo.St) := evFuncV Try.prog M1 noCuts Try.f128 (killA 0 kAn) (showA 0 kAn ((a0, a1), ((a2, ()), ()))).1 (showA 0 kAn ((a0, a1), ((a2, ()), ()))).2
theorem m128 (a0 : List (Int × (Int × Int) × Int × Int × Int)) (a1 : Bool) (a2 : YtpndjpjpmcehbaaMo.St) : m128L a0 a1 a2 = (guardB (bif decide (0 + a0.length ≤ a0.length) then decide ((List.take a0.length a0).length ≤ 1000) else false)
  (some
    (PV.sc (Value.bool (decide (anyI (qS a2) (List.take a0.length a0) ≥ 0))),
      [Blk.row false
          ((Kd.int IntKind.i64).pair
            (((Kd.int IntKind.i64).pair (Kd.int IntKind.i64)).pair
              ((Kd.int IntKind.i64).pair ((Kd.int IntKind.i64).pair (Kd.int IntKind.i64)))))
          a0,
        Blk.fix false
          [PV.sc (Value.int IntKind.i64 a2.fst), PV.sc (Value.int IntKind.i64 a2.snd.fst.fst),
            PV.sc (Value.int IntKind.i64 a2.snd.fst.snd), PV.sc (Value.int IntKind.i64 a2.snd.snd.fst),
            PV.sc (Value.int IntKind.i64 a2.snd.snd.snd.fst), PV.sc (Value.int IntKind.i64 a2.snd.snd.snd.snd)]]))) := by kernel_rfl
noncomputable abbrev m143bL (a0 : List Int) (a1 : Bool) (a2 : Int) (a3 : Int) := evRound Try.prog M2 noCuts 49 (loopOf (codeAt 2 (bodyF Try.f143))) k143b mu143b (killA 0 k143b) [0, 1, 7] [] c143b ((a0, a1), (a2, (a3, ())))
theorem m143b (a0 : List Int) (a1 : Bool) (a2 : Int) (a3 : Int) : m143bL a0 a1 a2 a3 = (bif decide (a3 > a2) then
  guardB (decide (0 ≤ a3) && decide (a3 < (↑a0.length : Int)))
    (bindO a0[0 + a3.toNat]? fun x =>
      guardB (decide (0 ≤ IntKind.i64.wrap (a3 - 1)) && decide (IntKind.i64.wrap (a3 - 1) < (↑a0.length : Int)))
        (bindO a0[0 + (IntKind.i64.wrap (a3 - 1)).toNat]? fun x_1 =>
          bif less x x_1 then
            guardB (decide (0 ≤ IntKind.i64.wrap (a3 - 1)) && decide (IntKind.i64.wrap (a3 - 1) < (↑a0.length : Int)))
              (bindO a0[0 + (IntKind.i64.wrap (a3 - 1)).toNat]? fun x =>
                guardB (decide (0 ≤ a3) && decide (a3 < (↑a0.length : Int)))
                  (bindO a0[0 + a3.toNat]? fun x_2 =>
                    guardB (decide (0 ≤ a3) && decide (a3 < (↑a0.length : Int)))
                      (bindO a0[0 + a3.toNat]? fun x_3 =>
                        guardB
                          (decide (0 ≤ IntKind.i64.wrap (a3 - 1)) &&
                            decide (IntKind.i64.wrap (a3 - 1) < (↑a0.length : Int)))
                          (bindO (a0.set (0 + a3.toNat) x)[0 + (IntKind.i64.wrap (a3 - 1)).toNat]? fun x_4 =>
                            guardB
                              (decide
                                (mu143b
                                    (((a0.set (0 + a3.toNat) x).set (0 + (IntKind.i64.wrap (a3 - 1)).toNat) x_2, a1),
                                      a2, IntKind.i64.wrap (a3 - 1), PUnit.unit) <
                                  mu143b ((a0, a1), a2, a3, ())))
                              (guardB
                                (bif
                                    decide
                                      (a0.length =
                                        ((a0.set (0 + a3.toNat) x).set (0 + (IntKind.i64.wrap (a3 - 1)).toNat)
                                            x_2).length) then
                                  pre143b ((a0.set (0 + a3.toNat) x).set (0 + (IntKind.i64.wrap (a3 - 1)).toNat) x_2) a2
                                    (IntKind.i64.wrap (a3 - 1))
                                else false)
                                (some
                                  (Xt.exit 2, [],
                                    [Blk.row true (Kd.int IntKind.i64)
                                        (bub (IntKind.i64.wrap (a3 - 1)).toNat
                                          ((a0.set (0 + a3.toNat) x).set (0 + (IntKind.i64.wrap (a3 - 1)).toNat)
                                            x_2))])))))))
          else some (Xt.exit 2, [], [Blk.row true (Kd.int IntKind.i64) a0])))
else some (Xt.exit 2, [], [Blk.row true (Kd.int IntKind.i64) a0])) := by kernel_rfl
noncomputable abbrev m143aL (a0 : List Int) (a1 : Bool) (a2 : Int) (a3 : Int) (a4 : Int) := evRound Try.prog M2 (addCut 2 [0, 1, 7] [] (entC k143b c143b) noCuts) 49 (loopOf (codeAt 0 (bodyF Try.f143))) k143a mu143a (killA 0 k143a) [0, 1, 2, 6] [] c143a ((a0, a1), (a2, (a3, (a4, ()))))
theorem m143a (a0 : List Int) (a1 : Bool) (a2 : Int) (a3 : Int) (a4 : Int) : m143aL a0 a1 a2 a3 a4 = (bif decide (a4 < a3) then
  guardB (bif decide (a0.length = a0.length) then pre143b a0 a2 a4 else false)
    (guardB
      (decide
        (mu143a ((bub a4.toNat a0, a1), a2, a3, IntKind.i64.wrap (a4 + 1), PUnit.unit) <
          mu143a ((a0, a1), a2, a3, a4, ())))
      (guardB
        (bif decide (a0.length = (bub a4.toNat a0).length) then
          pre143a (bub a4.toNat a0) a2 a3 (IntKind.i64.wrap (a4 + 1))
        else false)
        (some
          (Xt.exit 0, [],
            [Blk.row true (Kd.int IntKind.i64)
                (outB ((bub a4.toNat a0).length - (IntKind.i64.wrap (a4 + 1)).toNat) (IntKind.i64.wrap (a4 + 1)).toNat
                  (bub a4.toNat a0))]))))
else some (Xt.exit 0, [], [Blk.row true (Kd.int IntKind.i64) a0])) := by kernel_rfl
noncomputable abbrev m143L (a0 : List Int) (a1 : Bool) (a2 : Int) (a3 : Int) := evFuncV Try.prog M2 (addCut 0 [0, 1, 2, 6] [] (entC k143a c143a) noCuts) Try.f143 (killA 0 k143) (showA 0 k143 ((a0, a1), (a2, (a3, ())))).1 (showA 0 k143 ((a0, a1), (a2, (a3, ())))).2
theorem m143 (a0 : List Int) (a1 : Bool) (a2 : Int) (a3 : Int) : m143L a0 a1 a2 a3 = (guardB (bif decide (a0.length = a0.length) then pre143a a0 a2 a3 (IntKind.i64.wrap (a2 + 1)) else false)
  (some
    (PV.tup [],
      [Blk.row true (Kd.int IntKind.i64)
          (outB (a0.length - (IntKind.i64.wrap (a2 + 1)).toNat) (IntKind.i64.wrap (a2 + 1)).toNat a0)]))) := by kernel_rfl
noncomputable abbrev m131L (a0 : List Int) (a1 : Bool) (a2 : Int) (a3 : Int) (a4 : Int) := evFuncV Try.prog M3 noCuts Try.f131 (killA 0 k131) (showA 0 k131 ((a0, a1), (a2, (a3, (a4, ()))))).1 (showA 0 k131 ((a0, a1), (a2, (a3, (a4, ()))))).2
theorem m131 (a0 : List Int) (a1 : Bool) (a2 : Int) (a3 : Int) (a4 : Int) : m131L a0 a1 a2 a3 a4 = (bif decide (IntKind.i64.wrap (a3 - a2) ≤ 12) then
  guardB (bif decide (a0.length = a0.length) then preSo a0 a2 a3 else false)
    (some (PV.tup [], [Blk.row true (Kd.int IntKind.i64) (isort a0)]))
else bif a4 == 0 then none else none) := by kernel_rfl
noncomputable abbrev m102L (a0 : List Int) (a1 : Bool) := evFuncV Try.prog M4 noCuts Try.f102 (killA 0 [iI]) (showA 0 [iI] ((a0, a1), ())).1 (showA 0 [iI] ((a0, a1), ())).2
theorem m102 (a0 : List Int) (a1 : Bool) : m102L a0 a1 = (guardB (decide (0 ≤ IntKind.u64.wrap (↑a0.length : Int) ∧ IntKind.u64.wrap (↑a0.length : Int) ≤ 1000))
  (guardB (bif decide (a0.length = a0.length) then preSo a0 0 (↑a0.length : Int) else false)
    (some (PV.tup [], [Blk.row true (Kd.int IntKind.i64) (isort a0)])))) := by kernel_rfl
noncomputable abbrev m100lL (a0 : List (Int × (Int × Int) × Int × Int × Int)) (a1 : Bool) (a2 : List (Int × (Int × Int) × Int × Int × Int)) (a3 : Bool) (a4 : Int) (a5 : Int) := evRound Try.prog M5 noCuts 27 (loopOf (codeAt 0 (bodyF Try.f100))) k100 mu100 (killA 0 k100) [0, 9, 10, 11] [2] c100 ((a0, a1), ((a2, a3), (a4, (a5, ()))))
theorem m100l (a0 : List (Int × (Int × Int) × Int × Int × Int)) (a1 : Bool) (a2 : List (Int × (Int × Int) × Int × Int × Int)) (a3 : Bool) (a4 : Int) (a5 : Int) : m100lL a0 a1 a2 a3 a4 a5 = (bif decide (a5 < a4) then
  guardB (decide (0 ≤ a5) && decide (a5 < (↑a2.length : Int)))
    (bindO a2[0 + a5.toNat]? fun x =>
      bif sE x != 0 then
        some
          (Xt.ret, [PV.sc (Value.int IntKind.i64 (sE x))],
            [Blk.row false
                ((Kd.int IntKind.i64).pair
                  (((Kd.int IntKind.i64).pair (Kd.int IntKind.i64)).pair
                    ((Kd.int IntKind.i64).pair ((Kd.int IntKind.i64).pair (Kd.int IntKind.i64)))))
                a0,
              Blk.row false
                ((Kd.int IntKind.i64).pair
                  (((Kd.int IntKind.i64).pair (Kd.int IntKind.i64)).pair
                    ((Kd.int IntKind.i64).pair ((Kd.int IntKind.i64).pair (Kd.int IntKind.i64)))))
                a2])
      else
        guardB (decide (0 ≤ a5) && decide (a5 ≤ (↑a0.length : Int)))
          (guardB
            (bif decide (0 + (a5.toNat - 0) ≤ a0.length) then decide ((List.take (a5.toNat - 0) a0).length ≤ 1000)
            else false)
            (bif (List.take (a5.toNat - 0) a0).any (qS x) then
              some
                (Xt.ret, [PV.sc (Value.int IntKind.i64 7)],
                  [Blk.row false
                      ((Kd.int IntKind.i64).pair
                        (((Kd.int IntKind.i64).pair (Kd.int IntKind.i64)).pair
                          ((Kd.int IntKind.i64).pair ((Kd.int IntKind.i64).pair (Kd.int IntKind.i64)))))
                      a0,
                    Blk.row false
                      ((Kd.int IntKind.i64).pair
                        (((Kd.int IntKind.i64).pair (Kd.int IntKind.i64)).pair
                          ((Kd.int IntKind.i64).pair ((Kd.int IntKind.i64).pair (Kd.int IntKind.i64)))))
                      a2])
            else
              guardB
                (decide
                  (mu100
                      ((List.take a0.length a0, a1), (List.take a2.length a2, a3), a4, IntKind.i64.wrap (a5 + 1),
                        PUnit.unit) <
                    mu100 ((a0, a1), (a2, a3), a4, a5, ())))
                (guardB
                  (bif decide (0 + a0.length ≤ a0.length) then
                    bif decide (0 + a2.length ≤ a2.length) then
                      pre100 (List.take a0.length a0) (List.take a2.length a2) a4 (IntKind.i64.wrap (a5 + 1))
                    else false
                  else false)
                  (bif decide (mV (List.take a0.length a0) (IntKind.i64.wrap (a5 + 1)) = 0) then
                    some
                      (Xt.exit 0, [PV.undef],
                        [Blk.row false
                            ((Kd.int IntKind.i64).pair
                              (((Kd.int IntKind.i64).pair (Kd.int IntKind.i64)).pair
                                ((Kd.int IntKind.i64).pair ((Kd.int IntKind.i64).pair (Kd.int IntKind.i64)))))
                            a0,
                          Blk.row false
                            ((Kd.int IntKind.i64).pair
                              (((Kd.int IntKind.i64).pair (Kd.int IntKind.i64)).pair
                                ((Kd.int IntKind.i64).pair ((Kd.int IntKind.i64).pair (Kd.int IntKind.i64)))))
                            a2])
                  else
                    some
                      (Xt.ret,
                        [PV.sc (Value.int IntKind.i64 (mV (List.take a0.length a0) (IntKind.i64.wrap (a5 + 1))))],
                        [Blk.row false
                            ((Kd.int IntKind.i64).pair
                              (((Kd.int IntKind.i64).pair (Kd.int IntKind.i64)).pair
                                ((Kd.int IntKind.i64).pair ((Kd.int IntKind.i64).pair (Kd.int IntKind.i64)))))
                            a0,
                          Blk.row false
                            ((Kd.int IntKind.i64).pair
                              (((Kd.int IntKind.i64).pair (Kd.int IntKind.i64)).pair
                                ((Kd.int IntKind.i64).pair ((Kd.int IntKind.i64).pair (Kd.int IntKind.i64)))))
                            a2]))))))
else
  some
    (Xt.exit 0, [PV.undef],
      [Blk.row false
          ((Kd.int IntKind.i64).pair
            (((Kd.int IntKind.i64).pair (Kd.int IntKind.i64)).pair
              ((Kd.int IntKind.i64).pair ((Kd.int IntKind.i64).pair (Kd.int IntKind.i64)))))
          a0,
        Blk.row false
          ((Kd.int IntKind.i64).pair
            (((Kd.int IntKind.i64).pair (Kd.int IntKind.i64)).pair
              ((Kd.int IntKind.i64).pair ((Kd.int IntKind.i64).pair (Kd.int IntKind.i64)))))
          a2])) := by kernel_rfl
noncomputable abbrev m100L (a0 : List (Int × (Int × Int) × Int × Int × Int)) (a1 : Bool) := evFuncV Try.prog M5 (addCut 0 [0, 9, 10, 11] [2] (entC k100 c100) noCuts) Try.f100 (killA 0 [rSt]) (showA 0 [rSt] ((a0, a1), ())).1 (showA 0 [rSt] ((a0, a1), ())).2
theorem m100 (a0 : List (Int × (Int × Int) × Int × Int × Int)) (a1 : Bool) : m100L a0 a1 = (bif decide ((↑a0.length : Int) > 4) then
  some
    (PV.sc (Value.int IntKind.i64 2),
      [Blk.row false
          ((Kd.int IntKind.i64).pair
            (((Kd.int IntKind.i64).pair (Kd.int IntKind.i64)).pair
              ((Kd.int IntKind.i64).pair ((Kd.int IntKind.i64).pair (Kd.int IntKind.i64)))))
          a0])
else
  guardB
    (bif decide (0 + a0.length ≤ a0.length) then
      bif decide (0 + a0.length ≤ a0.length) then
        pre100 (List.take a0.length a0) (List.take a0.length a0) (↑a0.length : Int) 0
      else false
    else false)
    (bif decide (mV (List.take a0.length a0) 0 = 0) then
      some
        (PV.sc (Value.int IntKind.i64 0),
          [Blk.row false
              ((Kd.int IntKind.i64).pair
                (((Kd.int IntKind.i64).pair (Kd.int IntKind.i64)).pair
                  ((Kd.int IntKind.i64).pair ((Kd.int IntKind.i64).pair (Kd.int IntKind.i64)))))
              a0])
    else
      some
        (PV.sc (Value.int IntKind.i64 (mV (List.take a0.length a0) 0)),
          [Blk.row false
              ((Kd.int IntKind.i64).pair
                (((Kd.int IntKind.i64).pair (Kd.int IntKind.i64)).pair
                  ((Kd.int IntKind.i64).pair ((Kd.int IntKind.i64).pair (Kd.int IntKind.i64)))))
              a0]))) := by kernel_rfl
noncomputable abbrev m58lL (a0 : Pt) (a1 : List Int) (a2 : Bool) (a3 : List (Int × (Int × Int) × Int × Int × Int)) (a4 : Bool) (a5 : Int) (a6 : Int) := evRound Try.prog M6 noCuts 42 (loopOf (codeAt 0 (bodyF Try.f58))) k58c mu58 (killA 0 k58c) [3, 7, 17, 18, 19] [4, 5, 7] c58 (a0, ((a1, a2), ((a3, a4), (a5, (a6, ())))))
theorem m58l (a0 : Pt) (a1 : List Int) (a2 : Bool) (a3 : List (Int × (Int × Int) × Int × Int × Int)) (a4 : Bool) (a5 : Int) (a6 : Int) : m58lL a0 a1 a2 a3 a4 a5 a6 = (bif decide (a6 < a5) then
  guardB (decide (0 ≤ a6) && decide (a6 < (↑a3.length : Int)))
    (bindO a3[0 + a6.toNat]? fun x =>
      bif (cov x a0).snd != 0 then
        some
          (Xt.ret,
            [PV.sc (Value.slice none 0 0), PV.sc (Value.int IntKind.i64 (cov x a0).snd),
              PV.sl 3 0 1 a1.length a1.length false a2],
            [Blk.fix false [PV.sc (Value.int IntKind.i64 a0.fst), PV.sc (Value.int IntKind.i64 a0.snd)], Blk.dead,
              Blk.row false
                ((Kd.int IntKind.i64).pair
                  (((Kd.int IntKind.i64).pair (Kd.int IntKind.i64)).pair
                    ((Kd.int IntKind.i64).pair ((Kd.int IntKind.i64).pair (Kd.int IntKind.i64)))))
                a3,
              Blk.row true (Kd.int IntKind.i64) a1])
      else
        bif (cov x a0).fst then
          guardB
            (decide (0 + a1.length ≤ a1.length) && true && decide ((a1.length + 1) * 8 ≤ 140737488355328) &&
              decide (a1.length + 1 ≤ 4611686018427387904))
            (guardB
              (decide
                (mu58
                    (a0, (List.take a1.length a1 ++ [x.fst], false), (List.take a3.length a3, a4), a5,
                      IntKind.i64.wrap (a6 + 1), PUnit.unit) <
                  mu58 (a0, (a1, a2), (a3, a4), a5, a6, ())))
              (guardB
                (bif decide (a1.length + 1 = (List.take a1.length a1 ++ [x.fst]).length) then
                  bif decide (0 + a3.length ≤ a3.length) then
                    pre58 (List.take a1.length a1 ++ [x.fst]) (List.take a3.length a3) a5 (IntKind.i64.wrap (a6 + 1))
                  else false
                else false)
                (bif plc a0 || decide (a5 ≤ IntKind.i64.wrap (a6 + 1)) then
                  some
                    (Xt.exit 0,
                      [PV.undef, PV.undef,
                        PV.sl 3 0 1
                          (List.take a1.length a1 ++ [x.fst] ++
                              visK (List.take a3.length a3) a0 (IntKind.i64.wrap (a6 + 1))).length
                          (List.take a1.length a1 ++ [x.fst] ++
                              visK (List.take a3.length a3) a0 (IntKind.i64.wrap (a6 + 1))).length
                          false false],
                      [Blk.fix false [PV.sc (Value.int IntKind.i64 a0.fst), PV.sc (Value.int IntKind.i64 a0.snd)],
                        Blk.dead,
                        Blk.row false
                          ((Kd.int IntKind.i64).pair
                            (((Kd.int IntKind.i64).pair (Kd.int IntKind.i64)).pair
                              ((Kd.int IntKind.i64).pair ((Kd.int IntKind.i64).pair (Kd.int IntKind.i64)))))
                          a3,
                        Blk.row true (Kd.int IntKind.i64)
                          (List.take a1.length a1 ++ [x.fst] ++
                            visK (List.take a3.length a3) a0 (IntKind.i64.wrap (a6 + 1)))])
                else
                  some
                    (Xt.ret,
                      [PV.sc (Value.slice none 0 0), PV.sc (Value.int IntKind.i64 4),
                        PV.sl 3 0 1 (List.take a1.length a1 ++ [x.fst]).length
                          (List.take a1.length a1 ++ [x.fst]).length false false],
                      [Blk.fix false [PV.sc (Value.int IntKind.i64 a0.fst), PV.sc (Value.int IntKind.i64 a0.snd)],
                        Blk.dead,
                        Blk.row false
                          ((Kd.int IntKind.i64).pair
                            (((Kd.int IntKind.i64).pair (Kd.int IntKind.i64)).pair
                              ((Kd.int IntKind.i64).pair ((Kd.int IntKind.i64).pair (Kd.int IntKind.i64)))))
                          a3,
                        Blk.row true (Kd.int IntKind.i64) (List.take a1.length a1 ++ [x.fst])]))))
        else
          guardB
            (decide
              (mu58 (a0, (a1, a2), (List.take a3.length a3, a4), a5, IntKind.i64.wrap (a6 + 1), PUnit.unit) <
                mu58 (a0, (a1, a2), (a3, a4), a5, a6, ())))
            (guardB
              (bif decide (a1.length = a1.length) then
                bif decide (0 + a3.length ≤ a3.length) then
                  pre58 a1 (List.take a3.length a3) a5 (IntKind.i64.wrap (a6 + 1))
                else false
              else false)
              (bif plc a0 || decide (a5 ≤ IntKind.i64.wrap (a6 + 1)) then
                some
                  (Xt.exit 0,
                    [PV.undef, PV.undef,
                      PV.sl 3 0 1 (a1 ++ visK (List.take a3.length a3) a0 (IntKind.i64.wrap (a6 + 1))).length
                        (a1 ++ visK (List.take a3.length a3) a0 (IntKind.i64.wrap (a6 + 1))).length false
                        (a2 && (visK (List.take a3.length a3) a0 (IntKind.i64.wrap (a6 + 1))).isEmpty)],
                    [Blk.fix false [PV.sc (Value.int IntKind.i64 a0.fst), PV.sc (Value.int IntKind.i64 a0.snd)],
                      Blk.dead,
                      Blk.row false
                        ((Kd.int IntKind.i64).pair
                          (((Kd.int IntKind.i64).pair (Kd.int IntKind.i64)).pair
                            ((Kd.int IntKind.i64).pair ((Kd.int IntKind.i64).pair (Kd.int IntKind.i64)))))
                        a3,
                      Blk.row true (Kd.int IntKind.i64)
                        (a1 ++ visK (List.take a3.length a3) a0 (IntKind.i64.wrap (a6 + 1)))])
              else
                some
                  (Xt.ret,
                    [PV.sc (Value.slice none 0 0), PV.sc (Value.int IntKind.i64 4),
                      PV.sl 3 0 1 a1.length a1.length false a2],
                    [Blk.fix false [PV.sc (Value.int IntKind.i64 a0.fst), PV.sc (Value.int IntKind.i64 a0.snd)],
                      Blk.dead,
                      Blk.row false
                        ((Kd.int IntKind.i64).pair
                          (((Kd.int IntKind.i64).pair (Kd.int IntKind.i64)).pair
                            ((Kd.int IntKind.i64).pair ((Kd.int IntKind.i64).pair (Kd.int IntKind.i64)))))
                        a3,
                      Blk.row true (Kd.int IntKind.i64) a1]))))
else
  some
    (Xt.exit 0, [PV.undef, PV.undef, PV.sl 3 0 1 a1.length a1.length false a2],
      [Blk.fix false [PV.sc (Value.int IntKind.i64 a0.fst), PV.sc (Value.int IntKind.i64 a0.snd)], Blk.dead,
        Blk.row false
          ((Kd.int IntKind.i64).pair
            (((Kd.int IntKind.i64).pair (Kd.int IntKind.i64)).pair
              ((Kd.int IntKind.i64).pair ((Kd.int IntKind.i64).pair (Kd.int IntKind.i64)))))
          a3,
        Blk.row true (Kd.int IntKind.i64) a1])) := by kernel_rfl
noncomputable abbrev m58L (a0 : List (Int × (Int × Int) × Int × Int × Int)) (a1 : Bool) (a2 : Pt) := evFuncV Try.prog M6 (addCut 0 [3, 7, 17, 18, 19] [4, 5, 7] (entC k58c c58) noCuts) Try.f58 (killA 0 k58) (showA 0 k58 ((a0, a1), (a2, ()))).1 (showA 0 k58 ((a0, a1), (a2, ()))).2
theorem m58 (a0 : List (Int × (Int × Int) × Int × Int × Int)) (a1 : Bool) (a2 : Pt) : m58L a0 a1 a2 = (guardB (bif decide (0 + a0.length ≤ a0.length) then true else false)
  (bif chkM (List.take a0.length a0) != 0 then
    some
      (PV.tup [PV.sc (Value.slice none 0 0), PV.sc (Value.int IntKind.i64 (chkM (List.take a0.length a0)))],
        [Blk.row false
            ((Kd.int IntKind.i64).pair
              (((Kd.int IntKind.i64).pair (Kd.int IntKind.i64)).pair
                ((Kd.int IntKind.i64).pair ((Kd.int IntKind.i64).pair (Kd.int IntKind.i64)))))
            a0])
  else
    guardB
      (bif decide (0 + a0.length ≤ a0.length) then pre58 [] (List.take a0.length a0) (↑a0.length : Int) 0 else false)
      (bif plc a2 || decide ((↑a0.length : Int) ≤ 0) then
        guardB
          (bif
              decide
                (([] ++ visK (List.take a0.length a0) a2 0).length = (visK (List.take a0.length a0) a2 0).length) then
            decide ((visK (List.take a0.length a0) a2 0).length ≤ 12)
          else false)
          (some
            (PV.tup
                [PV.sl 1 0 1 ([] ++ visK (List.take a0.length a0) a2 0).length
                    ([] ++ visK (List.take a0.length a0) a2 0).length false
                    (visK (List.take a0.length a0) a2 0).isEmpty,
                  PV.sc (Value.int IntKind.i64 0)],
              [Blk.row false
                  ((Kd.int IntKind.i64).pair
                    (((Kd.int IntKind.i64).pair (Kd.int IntKind.i64)).pair
                      ((Kd.int IntKind.i64).pair ((Kd.int IntKind.i64).pair (Kd.int IntKind.i64)))))
                  a0,
                Blk.row true (Kd.int IntKind.i64) (isort (visK (List.take a0.length a0) a2 0))]))
      else
        some
          (PV.tup [PV.sc (Value.slice none 0 0), PV.sc (Value.int IntKind.i64 4)],
            [Blk.row false
                ((Kd.int IntKind.i64).pair
                  (((Kd.int IntKind.i64).pair (Kd.int IntKind.i64)).pair
                    ((Kd.int IntKind.i64).pair ((Kd.int IntKind.i64).pair (Kd.int IntKind.i64)))))
                a0])))) := by kernel_rfl
noncomputable abbrev m61lL (a0 : List Int) (a1 : Bool) (a2 : List Int) (a3 : Bool) (a4 : Int) (a5 : Int) := evRound Try.prog M7 noCuts 26 (loopOf (codeAt 0 (bodyF Try.f61))) k61c mu61 (killA 0 k61c) [0, 1, 12, 13] [4] c61 ((a0, a1), ((a2, a3), (a4, (a5, ()))))
theorem m61l (a0 : List Int) (a1 : Bool) (a2 : List Int) (a3 : Bool) (a4 : Int) (a5 : Int) : m61lL a0 a1 a2 a3 a4 a5 = (bif decide (a5 < a4) then
  guardB (decide (0 ≤ a5) && decide (a5 < (↑a0.length : Int)))
    (bindO a0[0 + a5.toNat]? fun x =>
      guardB (decide (0 ≤ a5) && decide (a5 < (↑a2.length : Int)))
        (bindO a2[0 + a5.toNat]? fun x_1 =>
          bif x != x_1 then
            some
              (Xt.ret, [PV.sc (Value.bool false)],
                [Blk.row false (Kd.int IntKind.i64) a0, Blk.row false (Kd.int IntKind.i64) a2])
          else
            guardB
              (decide
                (mu61
                    ((List.take a0.length a0, a1), (List.take a2.length a2, a3), a4, IntKind.i64.wrap (a5 + 1),
                      PUnit.unit) <
                  mu61 ((a0, a1), (a2, a3), a4, a5, ())))
              (guardB
                (bif decide (0 + a0.length ≤ a0.length) then
                  bif decide (0 + a2.length ≤ a2.length) then
                    pre61 (List.take a0.length a0) (List.take a2.length a2) a4 (IntKind.i64.wrap (a5 + 1))
                  else false
                else false)
                (bif
                    decide
                      (List.drop (IntKind.i64.wrap (a5 + 1)).toNat (List.take a0.length a0) =
                        List.drop (IntKind.i64.wrap (a5 + 1)).toNat (List.take a2.length a2)) then
                  some
                    (Xt.exit 0, [PV.undef],
                      [Blk.row false (Kd.int IntKind.i64) a0, Blk.row false (Kd.int IntKind.i64) a2])
                else
                  some
                    (Xt.ret, [PV.sc (Value.bool false)],
                      [Blk.row false (Kd.int IntKind.i64) a0, Blk.row false (Kd.int IntKind.i64) a2])))))
else some (Xt.exit 0, [PV.undef], [Blk.row false (Kd.int IntKind.i64) a0, Blk.row false (Kd.int IntKind.i64) a2])) := by kernel_rfl
noncomputable abbrev m61L (a0 : List Int) (a1 : Bool) (a2 : List Int) (a3 : Bool) := evFuncV Try.prog M7 (addCut 0 [0, 1, 12, 13] [4] (entC k61c c61) noCuts) Try.f61 (killA 0 k61) (showA 0 k61 ((a0, a1), ((a2, a3), ()))).1 (showA 0 k61 ((a0, a1), ((a2, a3), ()))).2
theorem m61 (a0 : List Int) (a1 : Bool) (a2 : List Int) (a3 : Bool) : m61L a0 a1 a2 a3 = (bif (↑a0.length : Int) != (↑a2.length : Int) then
  some (PV.sc (Value.bool false), [Blk.row false (Kd.int IntKind.i64) a0, Blk.row false (Kd.int IntKind.i64) a2])
else
  guardB
    (bif decide (0 + a0.length ≤ a0.length) then
      bif decide (0 + a2.length ≤ a2.length) then
        pre61 (List.take a0.length a0) (List.take a2.length a2) (↑a0.length : Int) 0
      else false
    else false)
    (bif
        decide
          (List.drop (Int.toNat 0) (List.take a0.length a0) = List.drop (Int.toNat 0) (List.take a2.length a2)) then
      some (PV.sc (Value.bool true), [Blk.row false (Kd.int IntKind.i64) a0, Blk.row false (Kd.int IntKind.i64) a2])
    else
      some (PV.sc (Value.bool false), [Blk.row false (Kd.int IntKind.i64) a0, Blk.row false (Kd.int IntKind.i64) a2]))) := by kernel_rfl
theorem len_true {α : Type} {l : List α} : decide (l.length ≤ l.length) = true := decide_eq_true (Nat.le_refl _)
theorem len_same {α : Type} {l : List α} : decide (l.length = l.length) = true := decide_eq_true rfl
theorem get_ex {α : Type} {l : List α} {k : Nat} (h : k < l.length) : ∃ x, l[k]? = some x := ⟨_, List.getElem?_eq_getElem h⟩
theorem drop_cons {α : Type} {l : List α} {k : Nat} {x : α} (h : l[k]? = some x) : l.drop k = x :: l.drop (k + 1) := by
  obtain ⟨hk, rfl⟩ := List.getElem?_eq_some_iff.1 h
  exact List.drop_eq_getElem_cons hk
theorem bne_t {a b : Int} (h : a ≠ b) : (a != b) = true := by simpa using h
theorem bne_f {a b : Int} (h : a = b) : (a != b) = false := by simpa using h
abbrev pvSt (s : St) : List PV := [.sc (.int .i64 s.1), .sc (.int .i64 s.2.1.1), .sc (.int .i64 s.2.1.2), .sc (.int .i64 s.2.2.1), .sc (.int .i64 s.2.2.2.1), .sc (.int .i64 s.2.2.2.2)]
theorem h127 (i x y r e a : Int) (z4 z0 : Option (PV × List Blk)) : (bif decide (i < 0) then z4 else bif decide (i > 255) then z4 else bif !placedS x y then z4 else bif decide (r < 1) then z4 else bif decide (r > 1000000) then z4 else bif decide (e < 1) then z4 else bif decide (e > 10000) then z4 else bif decide (a < 1) then z4 else bif decide (a > 100) then z4 else z0) = bif decide (stN i x y r e a) then z0 else z4 := by
  unfold placedS
  rw [← decide_not]
  simp only [Bool.cond_decide]
  repeat' split
  all_goals first | rfl | (exfalso; omega)
theorem h60 (i x y r e a : Int) (z4 z0 : Option (PV × List Blk)) : (bif inS i 0 255 then bif placedS x y then bif inS r 1 1000000 then bif inS e 1 10000 then bif inS a 1 100 then z0 else z4 else z4 else z4 else z4 else z4) = bif decide (stN i x y r e a) then z0 else z4 := by
  unfold placedS inS
  simp only [Bool.cond_decide]
  repeat' split
  all_goals first | rfl | (exfalso; omega)
theorem q138 (a : Int) : m138L a = some (.sc (.bool false), []) := by
  rw [m138, bne_f rfl]
theorem q127 (s : St) : m127L s = some (.sc (.int .i64 (sE s)), []) := by
  rw [m127]
  refine (h127 s.1 s.2.1.1 s.2.1.2 s.2.2.1 s.2.2.2.1 s.2.2.2.2 _ _).trans ?_
  unfold sE stE
  cases decide (stN s.1 s.2.1.1 s.2.1.2 s.2.2.1 s.2.2.2.1 s.2.2.2.2) <;> rfl
theorem q60 (s : St) : m60L s = some (.sc (.int .i64 (sE s)), []) := by
  rw [m60]
  refine (h60 s.1 s.2.1.1 s.2.1.2 s.2.2.1 s.2.2.2.1 s.2.2.2.2 _ _).trans ?_
  unfold sE stE
  cases decide (stN s.1 s.2.1.1 s.2.1.2 s.2.2.1 s.2.2.2.1 s.2.2.2.2) <;> rfl
theorem q101 (s : St) (p : Pt) : m101L s p = some (.tup [.sc (.bool (cov s p).1), .sc (.int .i64 (cov s p).2)], []) := by
  rw [m101]
  unfold cov plc sees
  refine cond_split (fun h => ?_) (fun h => ?_)
  · have h : sE s ≠ 0 := by simpa using h
    rw [decide_eq_false h]; rfl
  have h : sE s = 0 := by simpa using h
  rw [decide_eq_true h]
  cases placedS p.1 p.2 <;> rfl
theorem e132 : EntOK Try.prog 132 (entV [sU] (specP [sU] [sI] (fun v => decide (0 ≤ v.1 ∧ v.1 ≤ 1000)) fun v => (len4 v.1, ()))) := by
  refine entV_ok Try.call132 ?_
  rintro ⟨x, ⟨⟩⟩ hv r H' hp
  have hv : @LE.le Int _ 0 x ∧ @LE.le Int _ x 1000 := of_decide_eq_true hv
  have hv2 := hv.2
  have hp : (some (PV.sc (.int .i64 (len4 x)), []) : Option (PV × List Blk)) = some (r, H') := hp
  obtain ⟨rfl, rfl⟩ := Prod.mk.inj (Option.some.inj hp)
  intro m w vs hm _ _ hvs
  have hvs : Rvs m [PV.sc (.int .u64 x)] vs := hvs
  obtain ⟨v, rfl, hv1⟩ := Rvs.of_one hvs
  obtain rfl := Rv_sc.1 hv1
  refine Calls.mono (bitsLen x w hv.1 (by omega)) ?_
  rintro e w' ⟨rfl, rfl⟩
  refine ⟨_, m, rfl, Rv_sc.2 rfl, fun i _ => rfl, fun i _ => hm i (Nat.zero_le i), fun i B h => by simp [getB] at h, Nat.zero_le _, fun i B h => absurd h (Nat.not_lt_zero i), fun i b base t B _ h => by simp [getB] at h, fun i j b base t b2 t2 B B2 _ _ h => by simp [getB] at h, Fr.refl _ _⟩
theorem M0_ok : TableOK Try.prog M0 :=
  ext_ok (entV_ok Try.call138 (liftV T2_ok mixed Try.func138 (show Try.f138.body = some (bodyF Try.f138) from rfl) (noCuts_ok _) (by decide) fun v h => q138 v.1))
  (ext_ok (entV_ok Try.call127 (liftV T2_ok mixed Try.func127 (show Try.f127.body = some (bodyF Try.f127) from rfl) (noCuts_ok _) (by decide) fun v h => q127 v.1))
  (ext_ok (entV_ok Try.call60 (liftV T2_ok mixed Try.func60 (show Try.f60.body = some (bodyF Try.f60) from rfl) (noCuts_ok _) (by decide) fun v h => q60 v.1))
  (ext_ok (entV_ok Try.call49 (liftV T2_ok mixed Try.func49 (show Try.f49.body = some (bodyF Try.f49) from rfl) (noCuts_ok _) (by decide) fun v h => m49 v.1 v.2.1))
  (ext_ok (entV_ok Try.call130 (liftV T2_ok mixed Try.func130 (show Try.f130.body = some (bodyF Try.f130) from rfl) (noCuts_ok _) (by decide) fun v h => m130 v.1 v.2.1))
  (ext_ok (entV_ok Try.call59 (liftV T2_ok mixed Try.func59 (show Try.f59.body = some (bodyF Try.f59) from rfl) (noCuts_ok _) (by decide) fun v h => m59))
  (ext_ok (entV_ok Try.call129 (liftV T2_ok mixed Try.func129 (show Try.f129.body = some (bodyF Try.f129) from rfl) (noCuts_ok _) (by decide) fun v h => m129 v.1 v.2.1))
  (ext_ok e132 T2_ok)))))))
/-! ### The first that fits -/
theorem fi_step {p : St → Bool} {l : List St} {k : Int} {x : St} (h : 0 ≤ k) (hx : l[k.toNat]? = some x) : fiV p l k = bif p x then some k else fiV p l (k + 1) := by
  unfold fiV
  rw [drop_cons hx, show (k + 1).toNat = k.toNat + 1 by omega]
  rfl
theorem fi_end {p : St → Bool} {l : List St} {k : Int} (h : (l.length : Int) ≤ k) : fiV p l k = none := by
  unfold fiV; rw [List.drop_eq_nil_of_le (by omega)]; rfl
abbrev BF (l : List St) (b : St) : List Blk := [.row false kSpot l, .fix false (pvSt b)]
theorem q142l (l : List St) (nl : Bool) (b : St) (n k : Int) (h : preFi l n k = true) : m142lL l nl b n k = cond (fiV (qS b) l k).isNone (some (.exit 0, [.undef], BF l b)) (some (.ret, [.sc (.int .i64 ((fiV (qS b) l k).getD 0))], BF l b)) := by
  obtain ⟨h1, h2, h3, h4⟩ := of_decide_eq_true h
  rw [m142l]
  simp only [List.take_length, Nat.zero_add, len_true, cond_true]
  refine cond_split (fun hk => ?_) (fun hk => ?_)
  · have hk := of_decide_eq_true hk
    obtain ⟨x, hx⟩ := get_ex (l := l) (k := k.toNat) (by omega)
    have hw : IntKind.i64.wrap (k + 1) = k + 1 := W_id _ (by omega) (by omega)
    rw [hx, fi_step h3 hx, hw]
    refine guard_split (by simp; omega) ?_
    simp only [bindO]
    refine cond_split (fun hc => ?_) (fun hc => ?_)
    · rw [show qS b x = true from hc]; rfl
    · rw [show qS b x = false from hc]
      refine guard_split (decide_eq_true ?_) (guard_split (decide_eq_true ⟨h1, h2, by omega, by omega⟩) rfl)
      show (n - (k + 1)).toNat < (n - k).toNat
      omega
  · have hk := of_decide_eq_false hk
    rw [fi_end (by omega)]; rfl
theorem q142 (l : List St) (nl : Bool) (b : St) (h : l.length ≤ 1000) : m142L l nl b = some (.sc (.int .i64 (anyI (qS b) l)), BF l b) := by
  rw [m142]
  simp only [List.take_length, Nat.zero_add, len_true, cond_true]
  refine guard_split (decide_eq_true ⟨h, rfl, by omega, by omega⟩) ?_
  unfold anyI
  cases fiV (qS b) l 0 <;> rfl
theorem fiK_any {p : St → Bool} : ∀ (l : List St) (k : Int), 0 ≤ k → (l.any p = false ∧ fiK p l k = none) ∨ (l.any p = true ∧ ∃ j, fiK p l k = some j ∧ 0 ≤ j)
  | [], k, _ => Or.inl ⟨rfl, rfl⟩
  | x :: r, k, h => by
    unfold fiK
    rw [List.any_cons]
    cases hx : p x with
    | true => exact Or.inr ⟨rfl, k, rfl, h⟩
    | false =>
      simp only [Bool.false_or, cond_false]
      exact fiK_any r (k + 1) (by omega)
theorem any_at {p : St → Bool} (l : List St) : decide (anyI p l ≥ 0) = l.any p := by
  unfold anyI fiV
  rw [show l.drop (Int.toNat 0) = l from rfl]
  rcases fiK_any (p := p) l 0 (by omega) with ⟨h1, h2⟩ | ⟨h1, j, h2, h3⟩
  · rw [h1, h2]; rfl
  · rw [h1, h2]; exact decide_eq_true h3
theorem q128 (l : List St) (nl : Bool) (b : St) (h : l.length ≤ 1000) : m128L l nl b = some (.sc (.bool (l.any (qS b))), BF l b) := by
  rw [m128]
  simp only [List.take_length, Nat.zero_add, len_true, cond_true]
  rw [any_at]
  exact guard_split (decide_eq_true h) rfl
theorem in142 : CutOK Try.prog Try.f142.ntmps (codeAt 0 (bodyF Try.f142)) [0, 1, 7, 8] [4] (entC kFi cFi) := loop_cutW (kill := killA 0 kFi) M0_ok mixed muFi (by kernel_rfl) (noCuts_ok _) fun v h => q142l v.1.1 v.1.2 v.2.1.1 v.2.2.1 v.2.2.2.1 h
theorem M1_ok : TableOK Try.prog M1 :=
  ext_ok (entV_ok Try.call149 (liftV M0_ok mixed Try.func149 (show Try.f149.body = some (bodyF Try.f149) from rfl) (noCuts_ok _) (by decide) fun v h => m149 v.1 v.2.1))
  (ext_ok (entV_ok Try.call101 (liftV M0_ok mixed Try.func101 (show Try.f101.body = some (bodyF Try.f101) from rfl) (noCuts_ok _) (by decide) fun v h => q101 v.1 v.2.1))
  (ext_ok (entV_ok Try.call142 (liftV M0_ok mixed Try.func142 (show Try.f142.body = some (bodyF Try.f142) from rfl) (cut_cons (by kernel_rfl) in142 (noCuts_ok _)) (by decide) fun v h => q142 v.1.1 v.1.2 v.2.1.1 (of_decide_eq_true h))) M0_ok))
theorem M2_ok : TableOK Try.prog M2 := ext_ok (entV_ok Try.call128 (liftV M1_ok mixed Try.func128 (show Try.f128.body = some (bodyF Try.f128) from rfl) (noCuts_ok _) (by decide) fun v h => q128 v.1.1 v.1.2 v.2.1.1 (of_decide_eq_true h))) M1_ok
/-! ### The sort -/
theorem swp_len (d : List Int) (j : Nat) : (swp d j).length = d.length := by unfold swp; rw [List.length_set, List.length_set]
theorem bub_len : ∀ (j : Nat) (d : List Int), (bub j d).length = d.length
  | 0, _ => rfl
  | j + 1, d => by
    unfold bub
    cases less (d.getD (j + 1) 0) (d.getD j 0) with
    | true => exact (bub_len j _).trans (swp_len _ _)
    | false => rfl
theorem outB_len : ∀ (f i : Nat) (d : List Int), (outB f i d).length = d.length
  | 0, _, _ => rfl
  | f + 1, i, d => (outB_len f (i + 1) _).trans (bub_len _ _)
theorem isort_len (d : List Int) : (isort d).length = d.length := outB_len _ _ _
theorem getD_of {d : List Int} {j : Nat} {x : Int} (h : d[j]? = some x) : d.getD j 0 = x := by rw [List.getD_eq_getElem?_getD, h]; rfl
theorem q143b (d : List Int) (nl : Bool) (a j : Int) (h : pre143b d a j = true) : m143bL d nl a j = some (.exit 2, [], [.row true I (bub j.toNat d)]) := by
  obtain ⟨rfl, h2, h3, h4⟩ := of_decide_eq_true h
  rw [m143b]
  simp only [Nat.zero_add]
  refine cond_split (fun hk => ?_) (fun hk => ?_)
  · have hk := of_decide_eq_true hk
    obtain ⟨x, hx⟩ := get_ex (l := d) (k := j.toNat) (by omega)
    obtain ⟨m, hm⟩ : ∃ m, j.toNat = m + 1 := ⟨j.toNat - 1, by omega⟩
    have hm1 : (j - 1).toNat = m := by omega
    obtain ⟨y, hy⟩ := get_ex (l := d) (k := m) (by omega)
    have hw : IntKind.i64.wrap (j - 1) = j - 1 := W_id _ (by omega) (by omega)
    have hy2 : (d.set (m + 1) y)[m]? = some y := by rw [List.getElem?_set_ne (by omega)]; exact hy
    rw [hm] at hx
    rw [hw, hm, hm1, hx, hy]
    have g1 : (decide (0 ≤ j) && decide (j < (d.length : Int))) = true := by simp; omega
    have g2 : (decide (0 ≤ j - 1) && decide (j - 1 < (d.length : Int))) = true := by simp; omega
    rw [g1, g2]
    simp only [bindO, hy2]
    refine guard_split rfl (guard_split rfl ?_)
    rw [show bub (m + 1) d = bif less (d.getD (m + 1) 0) (d.getD m 0) then bub m (swp d (m + 1)) else d from rfl]
    rw [getD_of hx, getD_of hy]
    refine cond_split (fun hc => ?_) (fun hc => by rw [hc]; rfl)
    rw [hc]
    refine guard_split rfl (guard_split rfl (guard_split rfl (guard_split rfl (guard_split (decide_eq_true ?_) (guard_split ?_ ?_)))))
    · show (j - 1).toNat < j.toNat
      omega
    · rw [decide_eq_true (show d.length = ((d.set (m + 1) y).set m x).length by rw [List.length_set, List.length_set])]
      refine decide_eq_true ⟨rfl, by omega, ?_, ?_⟩
      · rw [List.length_set, List.length_set]; omega
      · rw [List.length_set, List.length_set]; omega
    · simp only [cond_true]
      unfold swp
      rw [show m + 1 - 1 = m from rfl, getD_of hx, getD_of hy]
  · have hk := of_decide_eq_false hk
    rw [show j.toNat = 0 by omega]; rfl
theorem q143a (d : List Int) (nl : Bool) (a b i : Int) (h : pre143a d a b i = true) : m143aL d nl a b i = some (.exit 0, [], [.row true I (outB (d.length - i.toNat) i.toNat d)]) := by
  obtain ⟨rfl, h2, h3, h4, h5⟩ := of_decide_eq_true h
  rw [m143a]
  simp only [len_same, cond_true]
  refine cond_split (fun hk => ?_) (fun hk => ?_)
  · have hk := of_decide_eq_true hk
    have hw : IntKind.i64.wrap (i + 1) = i + 1 := W_id _ (by omega) (by omega)
    rw [hw, bub_len]
    refine guard_split (decide_eq_true ⟨rfl, by omega, by omega, h5⟩) (guard_split (decide_eq_true ?_) (guard_split ?_ ?_))
    · show (b - (i + 1)).toNat < (b - i).toNat
      omega
    · rw [len_same]
      exact decide_eq_true ⟨rfl, by rw [bub_len]; exact h2, by omega, by omega, by rw [bub_len]; exact h5⟩
    · obtain ⟨f, hf⟩ : ∃ f, d.length - i.toNat = f + 1 := ⟨d.length - i.toNat - 1, by omega⟩
      rw [hf, show d.length - (i + 1).toNat = f by omega, show (i + 1).toNat = i.toNat + 1 by omega]; rfl
  · have hk := of_decide_eq_false hk
    rw [show d.length - i.toNat = 0 by omega]; rfl
theorem q143 (d : List Int) (nl : Bool) (a b : Int) (h : preSo d a b = true) : m143L d nl a b = some (.tup [], [.row true I (isort d)]) := by
  obtain ⟨rfl, h2, h3⟩ := of_decide_eq_true h
  rw [m143]
  simp only [len_same, cond_true]
  have hw : IntKind.i64.wrap (0 + 1) = 1 := W_id 1 (by omega) (by omega)
  rw [hw]
  exact guard_split (decide_eq_true ⟨rfl, h2, by omega, by omega, h3⟩) rfl
theorem q131 (d : List Int) (nl : Bool) (a b c : Int) (h : preSo d a b = true) : m131L d nl a b c = some (.tup [], [.row true I (isort d)]) := by
  obtain ⟨rfl, h2, h3⟩ := of_decide_eq_true h
  rw [m131]
  simp only [len_same, cond_true]
  have hw : IntKind.i64.wrap (b - 0) = b := by rw [Int.sub_zero]; exact W_id _ (by omega) (by omega)
  rw [hw, decide_eq_true (show b ≤ 12 by omega)]
  exact guard_split h rfl
theorem q102 (d : List Int) (nl : Bool) (h : d.length ≤ 12) : m102L d nl = some (.tup [], [.row true I (isort d)]) := by
  rw [m102]
  simp only [len_same, cond_true]
  have hw : IntKind.u64.wrap (d.length : Int) = d.length := by
    unfold IntKind.wrap
    simp [IntKind.signed, IntKind.bits]
    omega
  rw [hw]
  exact guard_split (decide_eq_true ⟨by omega, by omega⟩) (guard_split (decide_eq_true ⟨rfl, rfl, h⟩) rfl)
theorem in143b : CutOK Try.prog Try.f143.ntmps (codeAt 2 (bodyF Try.f143)) [0, 1, 7] [] (entC k143b c143b) := loop_cutW (kill := killA 0 k143b) M2_ok mixed mu143b (by kernel_rfl) (noCuts_ok _) fun v h => q143b v.1.1 v.1.2 v.2.1 v.2.2.1 h
theorem in143a : CutOK Try.prog Try.f143.ntmps (codeAt 0 (bodyF Try.f143)) [0, 1, 2, 6] [] (entC k143a c143a) := loop_cutW (kill := killA 0 k143a) M2_ok mixed mu143a (by kernel_rfl) (cut_cons (by kernel_rfl) in143b (noCuts_ok _)) fun v h => q143a v.1.1 v.1.2 v.2.1 v.2.2.1 v.2.2.2.1 h
theorem M3_ok : TableOK Try.prog M3 := ext_ok (entV_ok Try.call143 (liftV M2_ok mixed Try.func143 (show Try.f143.body = some (bodyF Try.f143) from rfl) (cut_cons (by kernel_rfl) in143a (noCuts_ok _)) (by decide) fun v h => q143 v.1.1 v.1.2 v.2.1 v.2.2.1 h)) M2_ok
theorem M4_ok : TableOK Try.prog M4 := ext_ok (entV_ok Try.call131 (liftV M3_ok mixed Try.func131 (show Try.f131.body = some (bodyF Try.f131) from rfl) (noCuts_ok _) (by decide) fun v h => q131 v.1.1 v.1.2 v.2.1 v.2.2.1 v.2.2.2.1 h)) M3_ok
theorem M5_ok : TableOK Try.prog M5 := ext_ok (entV_ok Try.call102 (liftV M4_ok mixed Try.func102 (show Try.f102.body = some (bodyF Try.f102) from rfl) (noCuts_ok _) (by decide) fun v h => q102 v.1.1 v.1.2 (of_decide_eq_true h))) M4_ok
/-! ### Lists of radars -/
theorem mE_some {l : List St} {d k : Nat} {x : St} (hx : l[k]? = some x) : mE l (d + 1) k = bif decide (sE x = 0) then (bif (l.take k).any (qS x) then 7 else mE l d (k + 1)) else sE x := by
  show (match l[k]? with | none => 0 | some s => bif decide (sE s = 0) then (bif (l.take k).any (qS s) then 7 else mE l d (k + 1)) else sE s) = _
  rw [hx]
theorem mV_step {l : List St} {k : Int} {x : St} (h0 : 0 ≤ k) (hx : l[k.toNat]? = some x) : mV l k = bif decide (sE x = 0) then (bif (l.take k.toNat).any (qS x) then 7 else mV l (k + 1)) else sE x := by
  unfold mV
  have hl := (List.getElem?_eq_some_iff.1 hx).1
  rw [show l.length - k.toNat = (l.length - (k + 1).toNat) + 1 by omega, show (k + 1).toNat = k.toNat + 1 by omega]
  exact mE_some hx
theorem mV_end {l : List St} {k : Int} (h : (l.length : Int) ≤ k) : mV l k = 0 := by
  unfold mV
  rw [show l.length - k.toNat = 0 by omega]; rfl
abbrev R2 (l l2 : List St) : List Blk := [.row false kSpot l, .row false kSpot l2]
theorem q100l (l : List St) (nl : Bool) (l2 : List St) (nl2 : Bool) (n k : Int) (h : pre100 l l2 n k = true) : m100lL l nl l2 nl2 n k = cond (decide (mV l k = 0)) (some (.exit 0, [.undef], R2 l l2)) (some (.ret, [.sc (.int .i64 (mV l k))], R2 l l2)) := by
  obtain ⟨rfl, h2, h3, h4, h5⟩ := bp_true.1 h
  rw [m100l]
  simp only [List.take_length, Nat.zero_add, len_true, cond_true, Nat.sub_zero]
  refine cond_split (fun hk => ?_) (fun hk => ?_)
  · have hk := of_decide_eq_true hk
    obtain ⟨x, hx⟩ := get_ex (l := l2) (k := k.toNat) (by omega)
    have hw : IntKind.i64.wrap (k + 1) = k + 1 := W_id _ (by omega) (by omega)
    rw [hx, hw, mV_step h4 hx]
    refine guard_split (by simp; omega) ?_
    simp only [bindO]
    refine cond_split (fun hc => ?_) (fun hc => ?_)
    · have hc : sE x ≠ 0 := by simpa using hc
      rw [decide_eq_false hc]
      simp only [cond_false]
      rw [decide_eq_false hc]; rfl
    have hc : sE x = 0 := by simpa using hc
    rw [decide_eq_true hc]
    refine guard_split (by simp; omega) (guard_split ?_ ?_)
    · rw [decide_eq_true (show k.toNat ≤ l2.length by omega)]
      exact decide_eq_true (by rw [List.length_take]; omega)
    refine cond_split (fun hd => by rw [hd]; rfl) (fun hd => ?_)
    rw [hd]
    refine guard_split (decide_eq_true ?_) (guard_split (bp_mk ⟨rfl, h2, h3, by omega, by omega⟩) rfl)
    show (n - (k + 1)).toNat < (n - k).toNat
    omega
  · have hk := of_decide_eq_false hk
    rw [mV_end (by omega)]; rfl
theorem q100 (l : List St) (nl : Bool) : m100L l nl = some (.sc (.int .i64 (chkM l)), [.row false kSpot l]) := by
  rw [m100]
  unfold chkM
  simp only [List.take_length, Nat.zero_add, len_true, cond_true]
  refine cond_split (fun hk => ?_) (fun hk => ?_)
  · rw [decide_eq_true (show 4 < l.length by have := of_decide_eq_true hk; omega)]; rfl
  · have hk := of_decide_eq_false hk
    rw [decide_eq_false (show ¬ 4 < l.length by omega)]
    refine guard_split (bp_mk ⟨rfl, rfl, by omega, by omega, by omega⟩) ?_
    refine cond_split (fun hc => ?_) (fun hc => rfl)
    rw [show mV l 0 = 0 from of_decide_eq_true hc]; rfl
theorem in100 : CutOK Try.prog Try.f100.ntmps (codeAt 0 (bodyF Try.f100)) [0, 9, 10, 11] [2] (entC k100 c100) := loop_cutW (kill := killA 0 k100) M5_ok mixed mu100 (by kernel_rfl) (noCuts_ok _) fun v h => q100l v.1.1 v.1.2 v.2.1.1 v.2.1.2 v.2.2.1 v.2.2.2.1 h
theorem M6_ok : TableOK Try.prog M6 := ext_ok (entV_ok Try.call100 (liftV M5_ok mixed Try.func100 (show Try.f100.body = some (bodyF Try.f100) from rfl) (cut_cons (by kernel_rfl) in100 (noCuts_ok _)) (by decide) fun v h => q100 v.1.1 v.1.2)) M5_ok
theorem vis_step {l : List St} {p : Pt} {k : Int} {x : St} (h0 : 0 ≤ k) (hx : l[k.toNat]? = some x) : visK l p k = (bif sees x p then [x.1] else []) ++ visK l p (k + 1) := by
  unfold visK
  rw [drop_cons hx, show (k + 1).toNat = k.toNat + 1 by omega, List.filter_cons]
  cases sees x p <;> rfl
theorem vis_end {l : List St} {p : Pt} {k : Int} (h : (l.length : Int) ≤ k) : visK l p k = [] := by
  unfold visK; rw [List.drop_eq_nil_of_le (by omega)]; rfl
theorem vis_len (l : List St) (p : Pt) (k : Int) : (visK l p k).length ≤ l.length := by
  unfold visK
  rw [List.length_map]
  refine Nat.le_trans (List.length_filter_le _ _) ?_
  rw [List.length_drop]; omega
abbrev bP5 (p : Pt) : Blk := .fix false [.sc (.int .i64 p.1), .sc (.int .i64 p.2)]
abbrev slI (n : Nat) (l : List Int) (nl : Bool) : PV := .sl n 0 1 l.length l.length false nl
theorem q58l (p : Pt) (acc : List Int) (an : Bool) (l : List St) (nl : Bool) (n k : Int) (h : pre58 acc l n k = true) :
    m58lL p acc an l nl n k = cond (plc p || decide (n ≤ k)) (some (.exit 0, [.undef, .undef, slI 3 (acc ++ visK l p k) (an && (visK l p k).isEmpty)], [bP5 p, .dead, .row false kSpot l, .row true I (acc ++ visK l p k)]))
      (some (.ret, [.sc (.slice none 0 0), .sc (.int .i64 4), slI 3 acc an], [bP5 p, .dead, .row false kSpot l, .row true I acc])) := by
  obtain ⟨h1, h2, h3, h4, h5, h6⟩ := bp_true.1 h
  rw [m58l]
  simp only [List.take_length, Nat.zero_add, len_true, len_same, cond_true]
  refine cond_split (fun hk => ?_) (fun hk => ?_)
  · have hk := of_decide_eq_true hk
    obtain ⟨x, hx⟩ := get_ex (l := l) (k := k.toNat) (by omega)
    have hw : IntKind.i64.wrap (k + 1) = k + 1 := W_id _ (by omega) (by omega)
    rw [hx, hw, vis_step h4 hx]
    refine guard_split (by simp; omega) ?_
    simp only [bindO]
    have hs : sE x = 0 := h1 x (List.mem_of_getElem? hx)
    have hmu : ∀ (a b : List Int) (an bn : Bool), decide (mu58 (p, (a, an), (l, nl), n, k + 1, PUnit.unit) < mu58 (p, (b, bn), (l, nl), n, k, ())) = true := fun a b an bn => decide_eq_true (show (n - (k + 1)).toNat < (n - k).toNat by omega)
    have hcv : cov x p = bif plc p then (sees x p, 0) else (false, 4) := by unfold cov; rw [decide_eq_true hs]; rfl
    rw [hcv]
    cases hp : plc p with
    | false =>
      rw [decide_eq_false (show ¬ n ≤ k by omega)]; rfl
    | true =>
      simp only [cond_true, Bool.true_or, show ((0 : Int) != 0) = false from rfl, cond_false]
      cases hv : sees x p with
      | true =>
        simp only [cond_true, cond_false]
        refine guard_split (by simp; omega) (guard_split (hmu _ _ _ _) (guard_split ?_ ?_))
        · rw [decide_eq_true (show acc.length + 1 = (acc ++ [x.1]).length by simp)]
          exact bp_mk ⟨h1, h2, h3, by omega, by omega, by rw [List.length_append]; simp; omega⟩
        · simp only [List.singleton_append, List.isEmpty_cons, Bool.and_false, List.append_assoc]
      | false =>
        simp only [cond_false, List.nil_append]
        exact guard_split (hmu _ _ _ _) (guard_split (bp_mk ⟨h1, h2, h3, by omega, by omega, by omega⟩) rfl)
  · have hk := of_decide_eq_false hk
    rw [vis_end (by omega), List.append_nil, List.isEmpty_nil, Bool.and_true, decide_eq_true (show n ≤ k by omega), Bool.or_true]; rfl
theorem chk_ok {l : List St} (h : chkM l = 0) : l.length ≤ 4 ∧ mV l 0 = 0 := by
  unfold chkM at h
  by_cases k : 4 < l.length
  · rw [decide_eq_true k] at h; exact absurd (show (2 : Int) = 0 from h) (by decide)
  · rw [decide_eq_false k] at h; exact ⟨by omega, h⟩
theorem mE_all {l : List St} : ∀ (d k : Nat), l.length ≤ k + d → mE l d k = 0 → ∀ x ∈ l.drop k, sE x = 0
  | 0, k, h, _, x, hx => by rw [List.drop_eq_nil_of_le (by omega)] at hx; cases hx
  | d + 1, k, h, h0, x, hx => by
    cases hg : l[k]? with
    | none => rw [List.drop_eq_nil_of_le (by simpa using hg)] at hx; cases hx
    | some s =>
      rw [mE_some hg] at h0
      by_cases hs : sE s = 0
      · rw [show decide (sE s = 0) = true from decide_eq_true hs] at h0
        rw [drop_cons hg] at hx
        rcases List.mem_cons.1 hx with rfl | hx
        · exact hs
        · cases hq : (l.take k).any (qS s) with
          | true => rw [hq] at h0; exact absurd (show (7 : Int) = 0 from h0) (by decide)
          | false => rw [hq] at h0; exact mE_all d (k + 1) (by omega) h0 x hx
      · rw [show decide (sE s = 0) = false from decide_eq_false hs] at h0; exact absurd h0 hs
theorem mV_all {l : List St} (h : mV l 0 = 0) : ∀ x ∈ l, sE x = 0 := mE_all _ 0 (by simp) h
theorem q58 (l : List St) (nl : Bool) (p : Pt) : m58L l nl p = pickA (spec58 ((l, nl), p, ())).2 := by
  have key : ∀ (x : Option (PV × List Blk)), x = cond (decide (seeE l p = 0)) (some (.tup [slI 1 (seeL l p) (visK l p 0).isEmpty, .sc (.int .i64 0)], [.row false kSpot l, .row true I (seeL l p)])) (some (.tup [.sc (.slice none 0 0), .sc (.int .i64 (seeE l p))], [.row false kSpot l])) → x = pickA (spec58 ((l, nl), p, ())).2 := fun x h => h
  refine key _ ?_
  rw [m58]
  unfold seeE
  simp only [List.take_length, Nat.zero_add, len_true, len_same, cond_true, List.nil_append]
  refine guard_split rfl ?_
  refine cond_split (fun hc => ?_) (fun hc => ?_)
  · have hc : chkM l ≠ 0 := by simpa using hc
    rw [decide_eq_false hc]
    simp only [cond_false]
    rw [decide_eq_false hc]; rfl
  have hc : chkM l = 0 := by simpa using hc
  obtain ⟨h1, h2⟩ := chk_ok hc
  rw [decide_eq_true hc]
  refine guard_split (bp_mk ⟨mV_all h2, rfl, h1, by omega, by omega, by simp⟩) ?_
  rw [show decide ((l.length : Int) ≤ 0) = decide (l.length = 0) from decide_eq_decide.mpr ⟨fun h => by omega, fun h => by omega⟩]
  have := vis_len l p 0
  cases hp : (plc p || decide (l.length = 0)) with
  | true =>
    refine guard_split (decide_eq_true (by omega)) ?_
    unfold seeL
    rw [show slI 1 (isort (visK l p 0)) (visK l p 0).isEmpty = slI 1 (visK l p 0) (visK l p 0).isEmpty by unfold slI; rw [isort_len]]
    rfl
  | false => rfl
theorem in58 : CutOK Try.prog Try.f58.ntmps (codeAt 0 (bodyF Try.f58)) [3, 7, 17, 18, 19] [4, 5, 7] (entC k58c c58) := loop_cutW (kill := killA 0 k58c) M6_ok mixed mu58 (by kernel_rfl) (noCuts_ok _) fun v h => q58l v.1 v.2.1.1 v.2.1.2 v.2.2.1.1 v.2.2.1.2 v.2.2.2.1 v.2.2.2.2.1 h
theorem M7_ok : TableOK Try.prog M7 := ext_ok (entV_ok Try.call58 (liftV M6_ok mixed Try.func58 (show Try.f58.body = some (bodyF Try.f58) from rfl) (cut_cons (by kernel_rfl) in58 (noCuts_ok _)) (by decide) fun v h => q58 v.1.1 v.1.2 v.2.1)) M6_ok
abbrev RI (l l2 : List Int) : List Blk := [.row false I l, .row false I l2]
theorem q61l (l : List Int) (nl : Bool) (l2 : List Int) (nl2 : Bool) (n k : Int) (h : pre61 l l2 n k = true) : m61lL l nl l2 nl2 n k = cond (decide (l.drop k.toNat = l2.drop k.toNat)) (some (.exit 0, [.undef], RI l l2)) (some (.ret, [.sc (.bool false)], RI l l2)) := by
  obtain ⟨h1, h2, h3, h4, h5⟩ := of_decide_eq_true h
  rw [m61l]
  simp only [List.take_length, Nat.zero_add, len_true, cond_true]
  refine cond_split (fun hk => ?_) (fun hk => ?_)
  · have hk := of_decide_eq_true hk
    obtain ⟨x, hx⟩ := get_ex (l := l) (k := k.toNat) (by omega)
    obtain ⟨y, hy⟩ := get_ex (l := l2) (k := k.toNat) (by omega)
    have hw : IntKind.i64.wrap (k + 1) = k + 1 := W_id _ (by omega) (by omega)
    rw [hx, hy, hw, drop_cons hx, drop_cons hy]
    refine guard_split (by simp; omega) ?_
    simp only [bindO]
    refine guard_split (by simp; omega) ?_
    refine cond_split (fun hc => ?_) (fun hc => ?_)
    · have hc : x ≠ y := by simpa using hc
      rw [decide_eq_false (fun e => hc (List.cons.inj e).1)]; rfl
    · obtain rfl : x = y := by simpa using hc
      rw [show decide (x :: l.drop (k.toNat + 1) = x :: l2.drop (k.toNat + 1)) = decide (l.drop (k + 1).toNat = l2.drop (k + 1).toNat) from decide_eq_decide.mpr ⟨fun e => by rw [show (k + 1).toNat = k.toNat + 1 by omega]; exact (List.cons.inj e).2, fun e => by rw [show (k + 1).toNat = k.toNat + 1 by omega] at e; rw [e]⟩]
      refine guard_split (decide_eq_true ?_) (guard_split (decide_eq_true ⟨h1, h2, h3, by omega, by omega⟩) rfl)
      show (n - (k + 1)).toNat < (n - k).toNat
      omega
  · have hk := of_decide_eq_false hk
    rw [List.drop_eq_nil_of_le (by omega), List.drop_eq_nil_of_le (by omega)]; rfl
theorem q61 (l : List Int) (nl : Bool) (l2 : List Int) (nl2 : Bool) (h : l.length ≤ 1000) : m61L l nl l2 nl2 = some (.sc (.bool (decide (l = l2))), RI l l2) := by
  rw [m61]
  simp only [List.take_length, Nat.zero_add, len_true, cond_true]
  refine cond_split (fun hc => ?_) (fun hc => ?_)
  · have hc : (l.length : Int) ≠ l2.length := by simpa using hc
    rw [decide_eq_false (fun e : l = l2 => hc (by rw [e]))]
  · have hc : (l.length : Int) = l2.length := by simpa using hc
    refine guard_split (decide_eq_true ⟨by omega, rfl, h, by omega, by omega⟩) ?_
    change cond (decide (l = l2)) _ _ = _
    cases decide (l = l2) <;> rfl
theorem in61 : CutOK Try.prog Try.f61.ntmps (codeAt 0 (bodyF Try.f61)) [0, 1, 12, 13] [4] (entC k61c c61) := loop_cutW (kill := killA 0 k61c) M7_ok mixed mu61 (by kernel_rfl) (noCuts_ok _) fun v h => q61l v.1.1 v.1.2 v.2.1.1 v.2.1.2 v.2.2.1 v.2.2.2.1 h
theorem M8_ok : TableOK Try.prog M8 := ext_ok (entV_ok Try.call61 (liftV M7_ok mixed Try.func61 (show Try.f61.body = some (bodyF Try.f61) from rfl) (cut_cons (by kernel_rfl) in61 (noCuts_ok _)) (by decide) fun v h => q61 v.1.1 v.1.2 v.2.1.1 v.2.1.2 (of_decide_eq_true h))) M7_ok
end Go.Proofs.YtpndjpjpmcehbaaMo
