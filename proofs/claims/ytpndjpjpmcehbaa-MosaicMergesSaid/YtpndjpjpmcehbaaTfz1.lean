/- What is proved: the functions on spots that the law FuseSpots reaches answer what their plain functions say. No condition. -/
import Derived.Test.YtpndjpjpmcehbaaTfz0
import Derived.Test.YtpndjpjpmcehbaaTsf
namespace Go.Proofs.YtpndjpjpmcehbaaFz
open Go Go.Proofs Go.Sort Go.Proofs.YtpndjpjpmcehbaaEv Go.Proofs.YtpndjpjpmcehbaaTk
set_option maxRecDepth 100000
set_option linter.unusedSimpArgs false
set_option linter.unusedVariables false
noncomputable abbrev z138L (a0 : Int) := evFuncV Try.prog T3 noCuts Try.f138 (killA 0 [sI]) (showA 0 [sI] (a0, ())).1 (showA 0 [sI] (a0, ())).2
theorem z138 (a0 : Int) : z138L a0 = (some (PV.sc (Value.bool (a0 != a0)), [])) := by kernel_rfl
noncomputable abbrev z49L (a0 : Pt) (a1 : Pt) := evFuncV Try.prog T3 noCuts Try.f49 (killA 0 [sP, sP]) (showA 0 [sP, sP] (a0, (a1, ()))).1 (showA 0 [sP, sP] (a0, (a1, ()))).2
theorem z49 (a0 : Pt) (a1 : Pt) : z49L a0 a1 = (some
  (PV.sc
      (Value.int IntKind.i64
        (IntKind.i64.wrap
          (IntKind.i64.wrap (IntKind.i64.wrap (a0.fst - a1.fst) * IntKind.i64.wrap (a0.fst - a1.fst)) +
            IntKind.i64.wrap (IntKind.i64.wrap (a0.snd - a1.snd) * IntKind.i64.wrap (a0.snd - a1.snd))))),
    [])) := by kernel_rfl
noncomputable abbrev z50L (a0 : Int) (a1 : Int) := evFuncV Try.prog T3 noCuts Try.f50 (killA 0 [sI, sI]) (showA 0 [sI, sI] (a0, (a1, ()))).1 (showA 0 [sI, sI] (a0, (a1, ()))).2
theorem z50 (a0 : Int) (a1 : Int) : z50L a0 a1 = (bif decide (a0 < a1) then some (PV.sc (Value.int IntKind.i64 (IntKind.i64.wrap (a1 - a0))), [])
else some (PV.sc (Value.int IntKind.i64 (IntKind.i64.wrap (a0 - a1))), [])) := by kernel_rfl
noncomputable abbrev z136L (a0 : Pt) (a1 : Pt) := evFuncV Try.prog T3 noCuts Try.f136 (killA 0 [sP, sP]) (showA 0 [sP, sP] (a0, (a1, ()))).1 (showA 0 [sP, sP] (a0, (a1, ()))).2
theorem z136 (a0 : Pt) (a1 : Pt) : z136L a0 a1 = (some
  (PV.sc
      (Value.int IntKind.i64
        (IntKind.i64.wrap
          (IntKind.i64.wrap (IntKind.i64.wrap (a0.fst - a1.fst) * IntKind.i64.wrap (a0.fst - a1.fst)) +
            IntKind.i64.wrap (IntKind.i64.wrap (a0.snd - a1.snd) * IntKind.i64.wrap (a0.snd - a1.snd))))),
    [])) := by kernel_rfl
noncomputable abbrev z137L (a0 : Int) (a1 : Int) := evFuncV Try.prog T3 noCuts Try.f137 (killA 0 [sI, sI]) (showA 0 [sI, sI] (a0, (a1, ()))).1 (showA 0 [sI, sI] (a0, (a1, ()))).2
theorem z137 (a0 : Int) (a1 : Int) : z137L a0 a1 = (some (PV.sc (Value.int IntKind.i64 (max (IntKind.i64.wrap (a0 - a1)) (IntKind.i64.wrap (a1 - a0)))), [])) := by kernel_rfl
noncomputable abbrev z113L (a0 : Int) (a1 : Int) := evFuncV Try.prog Z1 noCuts Try.f113 (killA 0 [sI, sI]) (showA 0 [sI, sI] (a0, (a1, ()))).1 (showA 0 [sI, sI] (a0, (a1, ()))).2
theorem z113 (a0 : Int) (a1 : Int) : z113L a0 a1 = (bif decide (a0 < a1) then some (PV.sc (Value.int IntKind.i64 (-1)), [])
else
  bif decide (a0 > a1) then some (PV.sc (Value.int IntKind.i64 1), []) else some (PV.sc (Value.int IntKind.i64 0), [])) := by kernel_rfl
noncomputable abbrev z112lL (a0 : Int) (a1 : List Int) (a2 : Bool) (a3 : Int) (a4 : Int) := evRound Try.prog Z1 noCuts 18 (loopOf (codeAt 0 (bodyF Try.f112))) k112 mu112 (killA 0 k112) [3, 6, 7, 8] [2] c112 (a0, ((a1, a2), (a3, (a4, ()))))
theorem z112l (a0 : Int) (a1 : List Int) (a2 : Bool) (a3 : Int) (a4 : Int) : z112lL a0 a1 a2 a3 a4 = (bif decide (a4 < a3) then
  guardB (decide (0 ≤ a4) && decide (a4 < (↑a1.length : Int)))
    (bindO a1[0 + a4.toNat]? fun x =>
      bif x != a0 then some (Xt.ret, [PV.sc (Value.int IntKind.i64 x)], [Blk.row false (Kd.int IntKind.i64) a1])
      else
        guardB
          (decide
            (mu112 (a0, (List.take a1.length a1, a2), a3, IntKind.i64.wrap (a4 + 1), PUnit.unit) <
              mu112 (a0, (a1, a2), a3, a4, ())))
          (guardB
            (bif decide (0 + a1.length ≤ a1.length) then
              pre112 a0 (List.take a1.length a1) a3 (IntKind.i64.wrap (a4 + 1))
            else false)
            (bif decide (orL (List.drop (IntKind.i64.wrap (a4 + 1)).toNat (List.take a1.length a1)) = 0) then
              some (Xt.exit 0, [PV.undef], [Blk.row false (Kd.int IntKind.i64) a1])
            else
              some
                (Xt.ret,
                  [PV.sc
                      (Value.int IntKind.i64
                        (orL (List.drop (IntKind.i64.wrap (a4 + 1)).toNat (List.take a1.length a1))))],
                  [Blk.row false (Kd.int IntKind.i64) a1]))))
else some (Xt.exit 0, [PV.undef], [Blk.row false (Kd.int IntKind.i64) a1])) := by kernel_rfl
noncomputable abbrev z112L (a0 : List Int) (a1 : Bool) := evFuncV Try.prog Z1 (addCut 0 [3, 6, 7, 8] [2] (entC k112 c112) noCuts) Try.f112 (killA 0 [rI]) (showA 0 [rI] ((a0, a1), ())).1 (showA 0 [rI] ((a0, a1), ())).2
theorem z112 (a0 : List Int) (a1 : Bool) : z112L a0 a1 = (guardB (bif decide (0 + a0.length ≤ a0.length) then pre112 0 (List.take a0.length a0) (↑a0.length : Int) 0 else false)
  (bif decide (orL (List.drop (Int.toNat 0) (List.take a0.length a0)) = 0) then
    some (PV.sc (Value.int IntKind.i64 0), [Blk.row false (Kd.int IntKind.i64) a0])
  else
    some
      (PV.sc (Value.int IntKind.i64 (orL (List.drop (Int.toNat 0) (List.take a0.length a0)))),
        [Blk.row false (Kd.int IntKind.i64) a0]))) := by kernel_rfl
noncomputable abbrev z111L (a0 : Sp') (a1 : Sp') (a2 : Int) := evFuncV Try.prog Z1 noCuts Try.f111 (killA 0 [sSpot, sSpot, sI]) (showA 0 [sSpot, sSpot, sI] (a0, (a1, (a2, ())))).1 (showA 0 [sSpot, sSpot, sI] (a0, (a1, (a2, ())))).2
theorem z111 (a0 : Sp') (a1 : Sp') (a2 : Int) : z111L a0 a1 a2 = (bif spotE a0.fst a0.snd.fst.fst a0.snd.fst.snd a0.snd.snd.fst a0.snd.snd.snd.fst a0.snd.snd.snd.snd != 0 then
  some
    (PV.tup
        [PV.sc (Value.bool false),
          PV.sc
            (Value.int IntKind.i64
              (spotE a0.fst a0.snd.fst.fst a0.snd.fst.snd a0.snd.snd.fst a0.snd.snd.snd.fst a0.snd.snd.snd.snd))],
      [])
else
  bif spotE a1.fst a1.snd.fst.fst a1.snd.fst.snd a1.snd.snd.fst a1.snd.snd.snd.fst a1.snd.snd.snd.snd != 0 then
    some
      (PV.tup
          [PV.sc (Value.bool false),
            PV.sc
              (Value.int IntKind.i64
                (spotE a1.fst a1.snd.fst.fst a1.snd.fst.snd a1.snd.snd.fst a1.snd.snd.snd.fst a1.snd.snd.snd.snd))],
        [])
  else
    bif decide (a2 < 0) then some (PV.tup [PV.sc (Value.bool false), PV.sc (Value.int IntKind.i64 4)], [])
    else
      bif decide (a2 > 60000) then some (PV.tup [PV.sc (Value.bool false), PV.sc (Value.int IntKind.i64 4)], [])
      else
        bif a0.fst == a1.fst then
          bif decide (a0.snd.snd.snd.fst ≥ 0) then
            bif a0.snd.snd.snd.fst == a1.snd.snd.snd.fst then
              bif
                  decide
                    (far a0.snd.fst.fst a0.snd.fst.snd a1.snd.fst.fst a1.snd.fst.snd ≤
                      IntKind.i64.wrap
                        (IntKind.i64.wrap (a0.snd.snd.snd.snd + a1.snd.snd.snd.snd) *
                          IntKind.i64.wrap (a0.snd.snd.snd.snd + a1.snd.snd.snd.snd))) then
                some
                  (PV.tup
                      [PV.sc (Value.bool (decide (apt a0.snd.snd.fst a1.snd.snd.fst ≤ a2))),
                        PV.sc (Value.int IntKind.i64 0)],
                    [])
              else some (PV.tup [PV.sc (Value.bool false), PV.sc (Value.int IntKind.i64 0)], [])
            else some (PV.tup [PV.sc (Value.bool false), PV.sc (Value.int IntKind.i64 0)], [])
          else some (PV.tup [PV.sc (Value.bool false), PV.sc (Value.int IntKind.i64 0)], [])
        else some (PV.tup [PV.sc (Value.bool false), PV.sc (Value.int IntKind.i64 0)], [])) := by kernel_rfl
noncomputable abbrev z67L (a0 : Sp') (a1 : Sp') := evFuncV Try.prog Z2 noCuts Try.f67 (killA 0 [sSpot, sSpot]) (showA 0 [sSpot, sSpot] (a0, (a1, ()))).1 (showA 0 [sSpot, sSpot] (a0, (a1, ()))).2
theorem z67 (a0 : Sp') (a1 : Sp') : z67L a0 a1 = (some
  (PV.sc
      (Value.int IntKind.i64
        (orL
          [cmpI a0.fst a1.fst, cmpI a0.snd.snd.snd.snd a1.snd.snd.snd.snd, cmpI a0.snd.fst.fst a1.snd.fst.fst,
            cmpI a0.snd.fst.snd a1.snd.fst.snd, cmpI a0.snd.snd.fst a1.snd.snd.fst,
            cmpI a0.snd.snd.snd.fst a1.snd.snd.snd.fst])),
    [])) := by kernel_rfl
noncomputable abbrev z110L (a0 : Sp') (a1 : Sp') (a2 : Int) := evFuncV Try.prog Z2 noCuts Try.f110 (killA 0 [sSpot, bSp, bI]) (showA 0 [sSpot, bSp, bI] (a0, (a1, (a2, ())))).1 (showA 0 [sSpot, bSp, bI] (a0, (a1, (a2, ())))).2
theorem z110 (a0 : Sp') (a1 : Sp') (a2 : Int) : z110L a0 a1 a2 = (some
  (PV.sc (Value.bool (likeS a0 a1 a2).fst),
    [Blk.fix false
        [PV.sc (Value.int IntKind.i64 a1.fst), PV.sc (Value.int IntKind.i64 a1.snd.fst.fst),
          PV.sc (Value.int IntKind.i64 a1.snd.fst.snd), PV.sc (Value.int IntKind.i64 a1.snd.snd.fst),
          PV.sc (Value.int IntKind.i64 a1.snd.snd.snd.fst), PV.sc (Value.int IntKind.i64 a1.snd.snd.snd.snd)],
      Blk.fix false [PV.sc (Value.int IntKind.i64 a2)]])) := by kernel_rfl
noncomputable abbrev z135lL (a0 : List (Int × (Int × Int) × Int × Int × Int)) (a1 : Bool) (a2 : Sp') (a3 : Int) (a4 : Int) (a5 : Int) := evRound Try.prog Z3 noCuts 19 (loopOf (codeAt 0 (bodyF Try.f135))) kFi muFi (killA 0 kFi) [0, 1, 7, 8] [4] cFi ((a0, a1), ((a2, (a3, ())), (a4, (a5, ()))))
theorem z135l (a0 : List (Int × (Int × Int) × Int × Int × Int)) (a1 : Bool) (a2 : Sp') (a3 : Int) (a4 : Int) (a5 : Int) : z135lL a0 a1 a2 a3 a4 a5 = (bif decide (a5 < a4) then
  guardB (decide (0 ≤ a5) && decide (a5 < (↑a0.length : Int)))
    (bindO a0[0 + a5.toNat]? fun x =>
      bif (likeS x a2 a3).fst then
        some
          (Xt.ret, [PV.sc (Value.int IntKind.i64 a5)],
            [Blk.row false
                ((Kd.int IntKind.i64).pair
                  (((Kd.int IntKind.i64).pair (Kd.int IntKind.i64)).pair
                    ((Kd.int IntKind.i64).pair ((Kd.int IntKind.i64).pair (Kd.int IntKind.i64)))))
                a0,
              Blk.fix false
                [PV.sc (Value.int IntKind.i64 a2.fst), PV.sc (Value.int IntKind.i64 a2.snd.fst.fst),
                  PV.sc (Value.int IntKind.i64 a2.snd.fst.snd), PV.sc (Value.int IntKind.i64 a2.snd.snd.fst),
                  PV.sc (Value.int IntKind.i64 a2.snd.snd.snd.fst), PV.sc (Value.int IntKind.i64 a2.snd.snd.snd.snd)],
              Blk.fix false [PV.sc (Value.int IntKind.i64 a3)]])
      else
        guardB
          (decide
            (muFi ((List.take a0.length a0, a1), (a2, a3, PUnit.unit), a4, IntKind.i64.wrap (a5 + 1), PUnit.unit) <
              muFi ((a0, a1), (a2, a3, ()), a4, a5, ())))
          (guardB
            (bif decide (0 + a0.length ≤ a0.length) then preFi (List.take a0.length a0) a4 (IntKind.i64.wrap (a5 + 1))
            else false)
            (bif (fiV (qS a2 a3) (List.take a0.length a0) (IntKind.i64.wrap (a5 + 1))).isNone then
              some
                (Xt.exit 0, [PV.undef],
                  [Blk.row false
                      ((Kd.int IntKind.i64).pair
                        (((Kd.int IntKind.i64).pair (Kd.int IntKind.i64)).pair
                          ((Kd.int IntKind.i64).pair ((Kd.int IntKind.i64).pair (Kd.int IntKind.i64)))))
                      a0,
                    Blk.fix false
                      [PV.sc (Value.int IntKind.i64 a2.fst), PV.sc (Value.int IntKind.i64 a2.snd.fst.fst),
                        PV.sc (Value.int IntKind.i64 a2.snd.fst.snd), PV.sc (Value.int IntKind.i64 a2.snd.snd.fst),
                        PV.sc (Value.int IntKind.i64 a2.snd.snd.snd.fst),
                        PV.sc (Value.int IntKind.i64 a2.snd.snd.snd.snd)],
                    Blk.fix false [PV.sc (Value.int IntKind.i64 a3)]])
            else
              some
                (Xt.ret,
                  [PV.sc
                      (Value.int IntKind.i64
                        ((fiV (qS a2 a3) (List.take a0.length a0) (IntKind.i64.wrap (a5 + 1))).getD 0))],
                  [Blk.row false
                      ((Kd.int IntKind.i64).pair
                        (((Kd.int IntKind.i64).pair (Kd.int IntKind.i64)).pair
                          ((Kd.int IntKind.i64).pair ((Kd.int IntKind.i64).pair (Kd.int IntKind.i64)))))
                      a0,
                    Blk.fix false
                      [PV.sc (Value.int IntKind.i64 a2.fst), PV.sc (Value.int IntKind.i64 a2.snd.fst.fst),
                        PV.sc (Value.int IntKind.i64 a2.snd.fst.snd), PV.sc (Value.int IntKind.i64 a2.snd.snd.fst),
                        PV.sc (Value.int IntKind.i64 a2.snd.snd.snd.fst),
                        PV.sc (Value.int IntKind.i64 a2.snd.snd.snd.snd)],
                    Blk.fix false [PV.sc (Value.int IntKind.i64 a3)]]))))
else
  some
    (Xt.exit 0, [PV.undef],
      [Blk.row false
          ((Kd.int IntKind.i64).pair
            (((Kd.int IntKind.i64).pair (Kd.int IntKind.i64)).pair
              ((Kd.int IntKind.i64).pair ((Kd.int IntKind.i64).pair (Kd.int IntKind.i64)))))
          a0,
        Blk.fix false
          [PV.sc (Value.int IntKind.i64 a2.fst), PV.sc (Value.int IntKind.i64 a2.snd.fst.fst),
            PV.sc (Value.int IntKind.i64 a2.snd.fst.snd), PV.sc (Value.int IntKind.i64 a2.snd.snd.fst),
            PV.sc (Value.int IntKind.i64 a2.snd.snd.snd.fst), PV.sc (Value.int IntKind.i64 a2.snd.snd.snd.snd)],
        Blk.fix false [PV.sc (Value.int IntKind.i64 a3)]])) := by kernel_rfl
noncomputable abbrev z135L (a0 : List (Int × (Int × Int) × Int × Int × Int)) (a1 : Bool) (a2 : Sp') (a3 : Int) := evFuncV Try.prog Z3 (addCut 0 [0, 1, 7, 8] [4] (entC kFi cFi) noCuts) Try.f135 (killA 0 kAn) (showA 0 kAn ((a0, a1), ((a2, (a3, ())), ()))).1 (showA 0 kAn ((a0, a1), ((a2, (a3, ())), ()))).2
theorem z135 (a0 : List (Int × (Int × Int) × Int × Int × Int)) (a1 : Bool) (a2 : Sp') (a3 : Int) : z135L a0 a1 a2 a3 = (guardB (bif decide (0 + a0.length ≤ a0.length) then preFi (List.take a0.length a0) (↑a0.length : Int) 0 else false)
  (bif (fiV (qS a2 a3) (List.take a0.length a0) 0).isNone then
    some
      (PV.sc (Value.int IntKind.i64 (-1)),
        [Blk.row false
            ((Kd.int IntKind.i64).pair
              (((Kd.int IntKind.i64).pair (Kd.int IntKind.i64)).pair
                ((Kd.int IntKind.i64).pair ((Kd.int IntKind.i64).pair (Kd.int IntKind.i64)))))
            a0,
          Blk.fix false
            [PV.sc (Value.int IntKind.i64 a2.fst), PV.sc (Value.int IntKind.i64 a2.snd.fst.fst),
              PV.sc (Value.int IntKind.i64 a2.snd.fst.snd), PV.sc (Value.int IntKind.i64 a2.snd.snd.fst),
              PV.sc (Value.int IntKind.i64 a2.snd.snd.snd.fst), PV.sc (Value.int IntKind.i64 a2.snd.snd.snd.snd)],
          Blk.fix false [PV.sc (Value.int IntKind.i64 a3)]])
  else
    some
      (PV.sc (Value.int IntKind.i64 ((fiV (qS a2 a3) (List.take a0.length a0) 0).getD 0)),
        [Blk.row false
            ((Kd.int IntKind.i64).pair
              (((Kd.int IntKind.i64).pair (Kd.int IntKind.i64)).pair
                ((Kd.int IntKind.i64).pair ((Kd.int IntKind.i64).pair (Kd.int IntKind.i64)))))
            a0,
          Blk.fix false
            [PV.sc (Value.int IntKind.i64 a2.fst), PV.sc (Value.int IntKind.i64 a2.snd.fst.fst),
              PV.sc (Value.int IntKind.i64 a2.snd.fst.snd), PV.sc (Value.int IntKind.i64 a2.snd.snd.fst),
              PV.sc (Value.int IntKind.i64 a2.snd.snd.snd.fst), PV.sc (Value.int IntKind.i64 a2.snd.snd.snd.snd)],
          Blk.fix false [PV.sc (Value.int IntKind.i64 a3)]]))) := by kernel_rfl
noncomputable abbrev z107L (a0 : List (Int × (Int × Int) × Int × Int × Int)) (a1 : Bool) := evFuncV Try.prog Z3 noCuts Try.f107 (killA 0 [rSp]) (showA 0 [rSp] ((a0, a1), ())).1 (showA 0 [rSp] ((a0, a1), ())).2
theorem z107 (a0 : List (Int × (Int × Int) × Int × Int × Int)) (a1 : Bool) : z107L a0 a1 = (bif a1 then
  some
    (PV.sc (Value.slice none 0 0),
      [Blk.row false
          ((Kd.int IntKind.i64).pair
            (((Kd.int IntKind.i64).pair (Kd.int IntKind.i64)).pair
              ((Kd.int IntKind.i64).pair ((Kd.int IntKind.i64).pair (Kd.int IntKind.i64)))))
          a0])
else
  guardB
    (decide (0 + a0.length ≤ a0.length) && decide ((0 + a0.length) * 48 ≤ 140737488355328) &&
      decide (0 + a0.length ≤ 4611686018427387904))
    (bif decide (1 ≤ a0.length) then
      some
        (PV.sl 1 0 6 (0 + a0.length) (0 + a0.length) false false,
          [Blk.row false
              ((Kd.int IntKind.i64).pair
                (((Kd.int IntKind.i64).pair (Kd.int IntKind.i64)).pair
                  ((Kd.int IntKind.i64).pair ((Kd.int IntKind.i64).pair (Kd.int IntKind.i64)))))
              a0,
            Blk.row true
              ((Kd.int IntKind.i64).pair
                (((Kd.int IntKind.i64).pair (Kd.int IntKind.i64)).pair
                  ((Kd.int IntKind.i64).pair ((Kd.int IntKind.i64).pair (Kd.int IntKind.i64)))))
              (List.take a0.length a0)])
    else
      some
        (PV.sl 1 0 6 (0 + a0.length) (0 + a0.length) false (a0.length.beq 0 && false),
          [Blk.row false
              ((Kd.int IntKind.i64).pair
                (((Kd.int IntKind.i64).pair (Kd.int IntKind.i64)).pair
                  ((Kd.int IntKind.i64).pair ((Kd.int IntKind.i64).pair (Kd.int IntKind.i64)))))
              a0,
            Blk.row true
              ((Kd.int IntKind.i64).pair
                (((Kd.int IntKind.i64).pair (Kd.int IntKind.i64)).pair
                  ((Kd.int IntKind.i64).pair ((Kd.int IntKind.i64).pair (Kd.int IntKind.i64)))))
              (List.take a0.length a0)]))) := by kernel_rfl
noncomputable abbrev z109L (a0 : List (Int × (Int × Int) × Int × Int × Int)) (a1 : Bool) (a2 : Sp') (a3 : Int) := evFuncV Try.prog Z4 noCuts Try.f109 (killA 0 kAn) (showA 0 kAn ((a0, a1), ((a2, (a3, ())), ()))).1 (showA 0 kAn ((a0, a1), ((a2, (a3, ())), ()))).2
theorem z109 (a0 : List (Int × (Int × Int) × Int × Int × Int)) (a1 : Bool) (a2 : Sp') (a3 : Int) : z109L a0 a1 a2 a3 = (guardB (bif decide (0 + a0.length ≤ a0.length) then decide ((List.take a0.length a0).length ≤ 1000) else false)
  (some
    (PV.sc (Value.bool (decide (anyI (qS a2 a3) (List.take a0.length a0) ≥ 0))),
      [Blk.row false
          ((Kd.int IntKind.i64).pair
            (((Kd.int IntKind.i64).pair (Kd.int IntKind.i64)).pair
              ((Kd.int IntKind.i64).pair ((Kd.int IntKind.i64).pair (Kd.int IntKind.i64)))))
          a0,
        Blk.fix false
          [PV.sc (Value.int IntKind.i64 a2.fst), PV.sc (Value.int IntKind.i64 a2.snd.fst.fst),
            PV.sc (Value.int IntKind.i64 a2.snd.fst.snd), PV.sc (Value.int IntKind.i64 a2.snd.snd.fst),
            PV.sc (Value.int IntKind.i64 a2.snd.snd.snd.fst), PV.sc (Value.int IntKind.i64 a2.snd.snd.snd.snd)],
        Blk.fix false [PV.sc (Value.int IntKind.i64 a3)]]))) := by kernel_rfl
noncomputable abbrev z65aL (a0 : List (Int × (Int × Int) × Int × Int × Int)) (a1 : Bool) (a2 : Int) (a3 : Int) := evRound Try.prog Z5 noCuts 54 (loopOf (codeAt 0 (bodyF Try.f65))) k65a mu65a (killA 0 k65a) [16, 17, 18] [4, 5] c65a ((a0, a1), (a2, (a3, ())))
theorem z65a (a0 : List (Int × (Int × Int) × Int × Int × Int)) (a1 : Bool) (a2 : Int) (a3 : Int) : z65aL a0 a1 a2 a3 = (bif decide (a3 < a2) then
  guardB (decide (0 ≤ a3) && decide (a3 < (↑a0.length : Int)))
    (bindO a0[0 + a3.toNat]? fun x =>
      bif spotE x.fst x.snd.fst.fst x.snd.fst.snd x.snd.snd.fst x.snd.snd.snd.fst x.snd.snd.snd.snd != 0 then
        some
          (Xt.ret,
            [PV.sc (Value.slice none 0 0),
              PV.sc
                (Value.int IntKind.i64
                  (spotE x.fst x.snd.fst.fst x.snd.fst.snd x.snd.snd.fst x.snd.snd.snd.fst x.snd.snd.snd.snd))],
            [Blk.row false
                ((Kd.int IntKind.i64).pair
                  (((Kd.int IntKind.i64).pair (Kd.int IntKind.i64)).pair
                    ((Kd.int IntKind.i64).pair ((Kd.int IntKind.i64).pair (Kd.int IntKind.i64)))))
                a0])
      else
        guardB
          (decide
            (mu65a ((List.take a0.length a0, a1), a2, IntKind.i64.wrap (a3 + 1), PUnit.unit) <
              mu65a ((a0, a1), a2, a3, ())))
          (guardB
            (bif decide (0 + a0.length ≤ a0.length) then pre65a (List.take a0.length a0) a2 (IntKind.i64.wrap (a3 + 1))
            else false)
            (bif okS (List.drop (IntKind.i64.wrap (a3 + 1)).toNat (List.take a0.length a0)) then
              some
                (Xt.exit 0, [PV.undef, PV.undef],
                  [Blk.row false
                      ((Kd.int IntKind.i64).pair
                        (((Kd.int IntKind.i64).pair (Kd.int IntKind.i64)).pair
                          ((Kd.int IntKind.i64).pair ((Kd.int IntKind.i64).pair (Kd.int IntKind.i64)))))
                      a0])
            else
              some
                (Xt.ret, [PV.sc (Value.slice none 0 0), PV.sc (Value.int IntKind.i64 4)],
                  [Blk.row false
                      ((Kd.int IntKind.i64).pair
                        (((Kd.int IntKind.i64).pair (Kd.int IntKind.i64)).pair
                          ((Kd.int IntKind.i64).pair ((Kd.int IntKind.i64).pair (Kd.int IntKind.i64)))))
                      a0]))))
else
  some
    (Xt.exit 0, [PV.undef, PV.undef],
      [Blk.row false
          ((Kd.int IntKind.i64).pair
            (((Kd.int IntKind.i64).pair (Kd.int IntKind.i64)).pair
              ((Kd.int IntKind.i64).pair ((Kd.int IntKind.i64).pair (Kd.int IntKind.i64)))))
          a0])) := by kernel_rfl
noncomputable abbrev z65cL (a0 : Int) (a1 : List (Int × (Int × Int) × Int × Int × Int)) (a2 : Bool) (a3 : List (Int × (Int × Int) × Int × Int × Int)) (a4 : Bool) (a5 : Int) (a6 : Int) := evRound Try.prog Z5 noCuts 54 (loopOf (codeAt 2 (bodyF Try.f65))) k65c mu65c (killA 0 k65c) [3, 10, 38, 39, 40] [10] c65c (a0, ((a1, a2), ((a3, a4), (a5, (a6, ())))))
theorem z65c (a0 : Int) (a1 : List (Int × (Int × Int) × Int × Int × Int)) (a2 : Bool) (a3 : List (Int × (Int × Int) × Int × Int × Int)) (a4 : Bool) (a5 : Int) (a6 : Int) : z65cL a0 a1 a2 a3 a4 a5 a6 = (bif decide (a6 < a5) then
  guardB (decide (0 ≤ a6) && decide (a6 < (↑a3.length : Int)))
    (bindO a3[0 + a6.toNat]? fun x =>
      guardB (bif decide (0 + a1.length ≤ a1.length) then decide ((List.take a1.length a1).length ≤ 1000) else false)
        (bif !(List.take a1.length a1).any (qS x a0) then
          guardB
            (decide (0 + a1.length ≤ a1.length) && true && decide ((a1.length + 1) * 48 ≤ 140737488355328) &&
              decide (a1.length + 1 ≤ 4611686018427387904))
            (guardB
              (decide
                (mu65c
                    (a0, (List.take a1.length a1 ++ [x], false), (List.take a3.length a3, a4), a5,
                      IntKind.i64.wrap (a6 + 1), PUnit.unit) <
                  mu65c (a0, (a1, a2), (a3, a4), a5, a6, ())))
              (guardB
                (bif decide (a1.length + 1 = (List.take a1.length a1 ++ [x]).length) then
                  bif decide (0 + a3.length ≤ a3.length) then
                    pre65c (List.take a1.length a1 ++ [x]) (List.take a3.length a3) a5 (IntKind.i64.wrap (a6 + 1))
                  else false
                else false)
                (some
                  (Xt.exit 2,
                    [PV.sl 3 0 6
                        (ddK a0 (List.take a1.length a1 ++ [x]) (List.take a3.length a3)
                            (IntKind.i64.wrap (a6 + 1))).length
                        (ddK a0 (List.take a1.length a1 ++ [x]) (List.take a3.length a3)
                            (IntKind.i64.wrap (a6 + 1))).length
                        false false],
                    [Blk.fix false [PV.sc (Value.int IntKind.i64 a0)], Blk.dead,
                      Blk.row false
                        ((Kd.int IntKind.i64).pair
                          (((Kd.int IntKind.i64).pair (Kd.int IntKind.i64)).pair
                            ((Kd.int IntKind.i64).pair ((Kd.int IntKind.i64).pair (Kd.int IntKind.i64)))))
                        a3,
                      Blk.row true
                        ((Kd.int IntKind.i64).pair
                          (((Kd.int IntKind.i64).pair (Kd.int IntKind.i64)).pair
                            ((Kd.int IntKind.i64).pair ((Kd.int IntKind.i64).pair (Kd.int IntKind.i64)))))
                        (ddK a0 (List.take a1.length a1 ++ [x]) (List.take a3.length a3)
                          (IntKind.i64.wrap (a6 + 1)))]))))
        else
          guardB
            (decide
              (mu65c (a0, (a1, a2), (List.take a3.length a3, a4), a5, IntKind.i64.wrap (a6 + 1), PUnit.unit) <
                mu65c (a0, (a1, a2), (a3, a4), a5, a6, ())))
            (guardB
              (bif decide (a1.length = a1.length) then
                bif decide (0 + a3.length ≤ a3.length) then
                  pre65c a1 (List.take a3.length a3) a5 (IntKind.i64.wrap (a6 + 1))
                else false
              else false)
              (some
                (Xt.exit 2,
                  [PV.sl 3 0 6 (ddK a0 a1 (List.take a3.length a3) (IntKind.i64.wrap (a6 + 1))).length
                      (ddK a0 a1 (List.take a3.length a3) (IntKind.i64.wrap (a6 + 1))).length false
                      (a2 &&
                        decide ((ddK a0 a1 (List.take a3.length a3) (IntKind.i64.wrap (a6 + 1))).length = a1.length))],
                  [Blk.fix false [PV.sc (Value.int IntKind.i64 a0)], Blk.dead,
                    Blk.row false
                      ((Kd.int IntKind.i64).pair
                        (((Kd.int IntKind.i64).pair (Kd.int IntKind.i64)).pair
                          ((Kd.int IntKind.i64).pair ((Kd.int IntKind.i64).pair (Kd.int IntKind.i64)))))
                      a3,
                    Blk.row true
                      ((Kd.int IntKind.i64).pair
                        (((Kd.int IntKind.i64).pair (Kd.int IntKind.i64)).pair
                          ((Kd.int IntKind.i64).pair ((Kd.int IntKind.i64).pair (Kd.int IntKind.i64)))))
                      (ddK a0 a1 (List.take a3.length a3) (IntKind.i64.wrap (a6 + 1)))])))))
else
  some
    (Xt.exit 2, [PV.sl 3 0 6 a1.length a1.length false a2],
      [Blk.fix false [PV.sc (Value.int IntKind.i64 a0)], Blk.dead,
        Blk.row false
          ((Kd.int IntKind.i64).pair
            (((Kd.int IntKind.i64).pair (Kd.int IntKind.i64)).pair
              ((Kd.int IntKind.i64).pair ((Kd.int IntKind.i64).pair (Kd.int IntKind.i64)))))
          a3,
        Blk.row true
          ((Kd.int IntKind.i64).pair
            (((Kd.int IntKind.i64).pair (Kd.int IntKind.i64)).pair
              ((Kd.int IntKind.i64).pair ((Kd.int IntKind.i64).pair (Kd.int IntKind.i64)))))
          a1])) := by kernel_rfl
noncomputable abbrev z65L (a0 : List (Int × (Int × Int) × Int × Int × Int)) (a1 : Bool) (a2 : Int) := evFuncV Try.prog Z5 (addCut 0 [16, 17, 18] [4, 5] (entC k65a c65a) (addCut 2 [3, 10, 38, 39, 40] [10] (entC k65c c65c) noCuts)) Try.f65 (killA 0 k65) (showA 0 k65 ((a0, a1), (a2, ()))).1 (showA 0 k65 ((a0, a1), (a2, ()))).2
theorem z65 (a0 : List (Int × (Int × Int) × Int × Int × Int)) (a1 : Bool) (a2 : Int) : z65L a0 a1 a2 = (bif decide ((↑a0.length : Int) > 128) then
  some
    (PV.tup [PV.sc (Value.slice none 0 0), PV.sc (Value.int IntKind.i64 2)],
      [Blk.row false
          ((Kd.int IntKind.i64).pair
            (((Kd.int IntKind.i64).pair (Kd.int IntKind.i64)).pair
              ((Kd.int IntKind.i64).pair ((Kd.int IntKind.i64).pair (Kd.int IntKind.i64)))))
          a0])
else
  guardB (bif decide (0 + a0.length ≤ a0.length) then pre65a (List.take a0.length a0) (↑a0.length : Int) 0 else false)
    (bif okS (List.drop (Int.toNat 0) (List.take a0.length a0)) then
      bif decide (a2 < 0) then
        some
          (PV.tup [PV.sc (Value.slice none 0 0), PV.sc (Value.int IntKind.i64 4)],
            [Blk.row false
                ((Kd.int IntKind.i64).pair
                  (((Kd.int IntKind.i64).pair (Kd.int IntKind.i64)).pair
                    ((Kd.int IntKind.i64).pair ((Kd.int IntKind.i64).pair (Kd.int IntKind.i64)))))
                a0])
      else
        bif decide (a2 > 60000) then
          some
            (PV.tup [PV.sc (Value.slice none 0 0), PV.sc (Value.int IntKind.i64 4)],
              [Blk.row false
                  ((Kd.int IntKind.i64).pair
                    (((Kd.int IntKind.i64).pair (Kd.int IntKind.i64)).pair
                      ((Kd.int IntKind.i64).pair ((Kd.int IntKind.i64).pair (Kd.int IntKind.i64)))))
                  a0])
        else
          guardB
            (bif decide (0 + a0.length ≤ a0.length) then decide ((List.take a0.length a0).length ≤ 1000) else false)
            (bif a1 then
              some
                (PV.tup [PV.sl 1 0 6 0 0 false true, PV.sc (Value.int IntKind.i64 0)],
                  [Blk.row false
                      ((Kd.int IntKind.i64).pair
                        (((Kd.int IntKind.i64).pair (Kd.int IntKind.i64)).pair
                          ((Kd.int IntKind.i64).pair ((Kd.int IntKind.i64).pair (Kd.int IntKind.i64)))))
                      a0,
                    Blk.row true
                      ((Kd.int IntKind.i64).pair
                        (((Kd.int IntKind.i64).pair (Kd.int IntKind.i64)).pair
                          ((Kd.int IntKind.i64).pair ((Kd.int IntKind.i64).pair (Kd.int IntKind.i64)))))
                      []])
            else
              guardB
                (bif decide ((List.take a0.length a0).length = (List.take a0.length a0).length) then
                  decide ((List.take a0.length a0).length ≤ 1000)
                else false)
                (guardB
                  (bif decide (0 + (List.take a0.length a0).length ≤ (srtS (List.take a0.length a0)).length) then
                    pre65c [] (List.take (List.take a0.length a0).length (srtS (List.take a0.length a0)))
                      (↑(List.take a0.length a0).length : Int) 0
                  else false)
                  (some
                    (PV.tup
                        [PV.sl 1 0 6
                            (ddK a2 [] (List.take (List.take a0.length a0).length (srtS (List.take a0.length a0)))
                                0).length
                            (ddK a2 [] (List.take (List.take a0.length a0).length (srtS (List.take a0.length a0)))
                                0).length
                            false
                            (decide
                              ((ddK a2 [] (List.take (List.take a0.length a0).length (srtS (List.take a0.length a0)))
                                    0).length =
                                ([] : List Sp').length)),
                          PV.sc (Value.int IntKind.i64 0)],
                      [Blk.row false
                          ((Kd.int IntKind.i64).pair
                            (((Kd.int IntKind.i64).pair (Kd.int IntKind.i64)).pair
                              ((Kd.int IntKind.i64).pair ((Kd.int IntKind.i64).pair (Kd.int IntKind.i64)))))
                          a0,
                        Blk.row true
                          ((Kd.int IntKind.i64).pair
                            (((Kd.int IntKind.i64).pair (Kd.int IntKind.i64)).pair
                              ((Kd.int IntKind.i64).pair ((Kd.int IntKind.i64).pair (Kd.int IntKind.i64)))))
                          (ddK a2 [] (List.take (List.take a0.length a0).length (srtS (List.take a0.length a0))) 0)]))))
    else
      some
        (PV.tup [PV.sc (Value.slice none 0 0), PV.sc (Value.int IntKind.i64 4)],
          [Blk.row false
              ((Kd.int IntKind.i64).pair
                (((Kd.int IntKind.i64).pair (Kd.int IntKind.i64)).pair
                  ((Kd.int IntKind.i64).pair ((Kd.int IntKind.i64).pair (Kd.int IntKind.i64)))))
              a0]))) := by kernel_rfl
theorem len_true {α : Type} {l : List α} : decide (l.length ≤ l.length) = true := decide_eq_true (Nat.le_refl _)
theorem len_same {α : Type} {l : List α} : decide (l.length = l.length) = true := decide_eq_true rfl
theorem get_ex {α : Type} {l : List α} {k : Nat} (h : k < l.length) : ∃ x, l[k]? = some x := ⟨_, List.getElem?_eq_getElem h⟩
theorem drop_cons {α : Type} {l : List α} {k : Nat} {x : α} (h : l[k]? = some x) : l.drop k = x :: l.drop (k + 1) := by
  obtain ⟨hk, rfl⟩ := List.getElem?_eq_some_iff.1 h
  exact List.drop_eq_getElem_cons hk
theorem q138 (a : Int) : z138L a = some (.sc (.bool false), []) := by
  rw [z138, show (a != a) = false by simp]
theorem q50 (a b : Int) : z50L a b = some (.sc (.int .i64 (aptR a b)), []) := by
  rw [z50]; unfold aptR; cases decide (a < b) <;> rfl
theorem q113 (a b : Int) : z113L a b = some (.sc (.int .i64 (cmpI a b)), []) := by
  rw [z113]; unfold cmpI
  cases decide (a < b) <;> cases decide (a > b) <;> rfl
theorem Z1_ok : TableOK Try.prog Z1 :=
  ext_ok (entV_ok Try.call138 (liftV T3_ok mixed Try.func138 (show Try.f138.body = some (bodyF Try.f138) from rfl) (noCuts_ok _) (by decide) fun v h => q138 v.1))
  (ext_ok (entV_ok Try.call49 (liftV T3_ok mixed Try.func49 (show Try.f49.body = some (bodyF Try.f49) from rfl) (noCuts_ok _) (by decide) fun v h => z49 v.1 v.2.1))
  (ext_ok (entV_ok Try.call50 (liftV T3_ok mixed Try.func50 (show Try.f50.body = some (bodyF Try.f50) from rfl) (noCuts_ok _) (by decide) fun v h => q50 v.1 v.2.1))
  (ext_ok (entV_ok Try.call136 (liftV T3_ok mixed Try.func136 (show Try.f136.body = some (bodyF Try.f136) from rfl) (noCuts_ok _) (by decide) fun v h => z136 v.1 v.2.1))
  (ext_ok (entV_ok Try.call137 (liftV T3_ok mixed Try.func137 (show Try.f137.body = some (bodyF Try.f137) from rfl) (noCuts_ok _) (by decide) fun v h => z137 v.1 v.2.1)) T3_ok))))
theorem q112l (z : Int) (l : List Int) (nl : Bool) (n k : Int) (h : pre112 z l n k = true) : z112lL z l nl n k = cond (decide (orL (l.drop k.toNat) = 0)) (some (.exit 0, [.undef], [.row false I l])) (some (.ret, [.sc (.int .i64 (orL (l.drop k.toNat)))], [.row false I l])) := by
  obtain ⟨rfl, h2, h3, h4, h5⟩ := of_decide_eq_true h
  rw [z112l]
  simp only [List.take_length, Nat.zero_add, len_true, cond_true]
  refine cond_split (fun hk => ?_) (fun hk => ?_)
  · have hk := of_decide_eq_true hk
    obtain ⟨x, hx⟩ := get_ex (l := l) (k := k.toNat) (by omega)
    have hw : IntKind.i64.wrap (k + 1) = k + 1 := W_id _ (by omega) (by omega)
    rw [hx, hw, drop_cons hx, show orL (x :: l.drop (k.toNat + 1)) = bif decide (x = 0) then orL (l.drop (k.toNat + 1)) else x from rfl]
    refine guard_split (by simp; omega) ?_
    simp only [bindO]
    refine cond_split (fun hc => ?_) (fun hc => ?_)
    · have hc : x ≠ 0 := by simpa using hc
      rw [decide_eq_false hc]
      simp only [cond_false]
      rw [decide_eq_false hc]; rfl
    · have hc : x = 0 := by simpa using hc
      rw [decide_eq_true hc, show (k + 1).toNat = k.toNat + 1 by omega]
      refine guard_split (decide_eq_true ?_) (guard_split (decide_eq_true ⟨rfl, h2, h3, by omega, by omega⟩) rfl)
      show (n - (k + 1)).toNat < (n - k).toNat
      omega
  · have hk := of_decide_eq_false hk
    rw [List.drop_eq_nil_of_le (by omega)]; rfl
theorem q112 (l : List Int) (nl : Bool) (h : l.length ≤ 1000) : z112L l nl = some (.sc (.int .i64 (orL l)), [.row false I l]) := by
  rw [z112]
  simp only [List.take_length, Nat.zero_add, len_true, cond_true]
  refine guard_split (decide_eq_true ⟨rfl, h, rfl, by omega, by omega⟩) ?_
  rw [show l.drop (Int.toNat 0) = l from rfl]
  refine cond_split (fun hc => ?_) (fun hc => rfl)
  rw [show orL l = 0 from of_decide_eq_true hc]
theorem q111 (a b : Sp') (d : Int) : z111L a b d = some (.tup [.sc (.bool (likeS a b d).1), .sc (.int .i64 (likeS a b d).2)], []) := by
  rw [z111]
  unfold likeS
  refine cond_split (fun h => ?_) (fun h => ?_)
  · have h : sE a ≠ 0 := by simpa using h
    rw [decide_eq_false h]; rfl
  have h : sE a = 0 := by simpa using h
  rw [decide_eq_true h]
  refine cond_split (fun h => ?_) (fun h => ?_)
  · have h : sE b ≠ 0 := by simpa using h
    rw [decide_eq_false h]; rfl
  have h : sE b = 0 := by simpa using h
  rw [decide_eq_true h]
  unfold bandE
  refine cond_split (fun h => by rw [h]; rfl) (fun h => ?_)
  rw [h]
  refine cond_split (fun h => by rw [h]; rfl) (fun h => ?_)
  rw [h]
  unfold likeB
  rw [show (a.1 == b.1) = decide (a.1 = b.1) from rfl, show (a.2.2.2.1 == b.2.2.2.1) = decide (a.2.2.2.1 = b.2.2.2.1) from rfl]
  cases decide (a.1 = b.1) with
  | false => rfl
  | true =>
    cases decide (a.2.2.2.1 ≥ 0) with
    | false => rfl
    | true =>
      cases decide (a.2.2.2.1 = b.2.2.2.1) with
      | false => rfl
      | true => cases decide (far a.2.1.1 a.2.1.2 b.2.1.1 b.2.1.2 ≤ W (W (a.2.2.2.2 + b.2.2.2.2) * W (a.2.2.2.2 + b.2.2.2.2))) <;> rfl
theorem in112 : CutOK Try.prog Try.f112.ntmps (codeAt 0 (bodyF Try.f112)) [3, 6, 7, 8] [2] (entC k112 c112) := loop_cutW (kill := killA 0 k112) Z1_ok mixed mu112 (by kernel_rfl) (noCuts_ok _) fun v h => q112l v.1 v.2.1.1 v.2.1.2 v.2.2.1 v.2.2.2.1 h
theorem Z2_ok : TableOK Try.prog Z2 :=
  ext_ok (entV_ok Try.call113 (liftV Z1_ok mixed Try.func113 (show Try.f113.body = some (bodyF Try.f113) from rfl) (noCuts_ok _) (by decide) fun v h => q113 v.1 v.2.1))
  (ext_ok (entV_ok Try.call112 (liftV Z1_ok mixed Try.func112 (show Try.f112.body = some (bodyF Try.f112) from rfl) (cut_cons (by kernel_rfl) in112 (noCuts_ok _)) (by decide) fun v h => q112 v.1.1 v.1.2 (of_decide_eq_true h)))
  (ext_ok (entV_ok Try.call111 (liftV Z1_ok mixed Try.func111 (show Try.f111.body = some (bodyF Try.f111) from rfl) (noCuts_ok _) (by decide) fun v h => q111 v.1 v.2.1 v.2.2.1)) Z1_ok))
theorem Z3_ok : TableOK Try.prog Z3 :=
  ext_ok (entV_ok Try.call67 (liftV Z2_ok mixed Try.func67 (show Try.f67.body = some (bodyF Try.f67) from rfl) (noCuts_ok _) (by decide) fun v h => z67 v.1 v.2.1))
  (ext_ok (entV_ok Try.call110 (liftV Z2_ok mixed Try.func110 (show Try.f110.body = some (bodyF Try.f110) from rfl) (noCuts_ok _) (by decide) fun v h => z110 v.1 v.2.1 v.2.2.1)) Z2_ok)
/-! ### The order -/
def lexC (u v : List Int) : Int := orL (List.zipWith cmpI u v)
theorem lex_cons (a b : Int) (u v : List Int) : lexC (a :: u) (b :: v) = if a < b then -1 else if b < a then 1 else lexC u v := by
  show (bif decide (cmpI a b = 0) then lexC u v else cmpI a b) = _
  unfold cmpI
  by_cases h1 : a < b
  · rw [decide_eq_true h1, if_pos h1]; rfl
  · rw [decide_eq_false h1, if_neg h1]
    by_cases h2 : b < a
    · rw [decide_eq_true (show a > b from h2), if_pos h2]; rfl
    · rw [decide_eq_false (show ¬ a > b from h2), if_neg h2]; rfl
theorem lex_self : ∀ u : List Int, lexC u u = 0
  | [] => rfl
  | a :: u => by rw [lex_cons, if_neg (by omega), if_neg (by omega)]; exact lex_self u
theorem lex_flip : ∀ (u v : List Int), u.length = v.length → lexC v u = -lexC u v
  | [], [], _ => rfl
  | a :: u, b :: v, h => by
    have ih := lex_flip u v (by simpa using h)
    rw [lex_cons, lex_cons]
    by_cases h1 : a < b
    · rw [if_neg (by omega), if_pos h1, if_pos h1]; rfl
    · by_cases h2 : b < a
      · rw [if_pos h2, if_neg h1, if_pos h2]
      · rw [if_neg h2, if_neg h1, if_neg h1, if_neg h2]; exact ih
theorem lex_zero : ∀ (u v : List Int), u.length = v.length → lexC u v = 0 → u = v
  | [], [], _, _ => rfl
  | a :: u, b :: v, h, h0 => by
    rw [lex_cons] at h0
    by_cases h1 : a < b
    · rw [if_pos h1] at h0; omega
    · by_cases h2 : b < a
      · rw [if_neg h1, if_pos h2] at h0; omega
      · rw [if_neg h1, if_neg h2] at h0
        rw [lex_zero u v (by simpa using h) h0, show a = b by omega]
theorem lex_trans : ∀ (u v w : List Int), u.length = v.length → v.length = w.length → lexC u v ≤ 0 → lexC v w ≤ 0 → lexC u w ≤ 0 ∧ (lexC u v < 0 ∨ lexC v w < 0 → lexC u w < 0)
  | [], [], [], _, _, _, _ => ⟨by decide, fun h => by rcases h with h | h <;> exact absurd h (by decide)⟩
  | a :: u, b :: v, c :: w, h1, h2, h3, h4 => by
    rw [lex_cons] at h3 h4 ⊢
    rw [lex_cons, lex_cons]
    have ih := lex_trans u v w (by simpa using h1) (by simpa using h2)
    by_cases e1 : a < b
    · have hc : ¬ c < b := fun e => by rw [if_neg (by omega), if_pos e] at h4; omega
      rw [if_pos (show a < c by omega)]
      exact ⟨by omega, fun _ => by omega⟩
    · by_cases e2 : b < a
      · rw [if_neg e1, if_pos e2] at h3; omega
      · rw [if_neg e1, if_neg e2] at h3 ⊢
        obtain rfl : a = b := by omega
        by_cases e3 : a < c
        · rw [if_pos e3, if_pos e3]; exact ⟨by omega, fun _ => by omega⟩
        · by_cases e4 : c < a
          · rw [if_neg e3, if_pos e4] at h4; omega
          · rw [if_neg e3, if_neg e4] at h4
            rw [if_neg e3, if_neg e4, if_neg e3, if_neg e4]
            exact ih h3 h4
def key (s : Sp') : List Int := [s.1, s.2.2.2.2, s.2.1.1, s.2.1.2, s.2.2.1, s.2.2.2.1]
theorem cmp_lex (a b : Sp') : cmpS a b = lexC (key a) (key b) := rfl
theorem cmp_flip (a b : Sp') : cmpS b a = -cmpS a b := lex_flip (key a) (key b) rfl
theorem cmp_zero {a b : Sp'} (h : cmpS a b = 0) : a = b := by
  have h := lex_zero (key a) (key b) rfl h
  obtain ⟨a1, ⟨a2, a3⟩, a4, a5, a6⟩ := a
  obtain ⟨b1, ⟨b2, b3⟩, b4, b5, b6⟩ := b
  simp only [key, List.cons.injEq] at h
  obtain ⟨rfl, rfl, rfl, rfl, rfl, rfl, _⟩ := h
  rfl
theorem cmp_self (a : Sp') : cmpS a a = 0 := lex_self (key a)
theorem cmp_trans {a b c : Sp'} (h1 : cmpS a b ≤ 0) (h2 : cmpS b c ≤ 0) : cmpS a c ≤ 0 ∧ (cmpS a b < 0 ∨ cmpS b c < 0 → cmpS a c < 0) := lex_trans (key a) (key b) (key c) rfl rfl h1 h2
theorem swo : Go.Sort.SWO (Go.Proofs.ltOf cmpS) where
  irrefl x := decide_eq_false (by rw [cmp_self]; decide)
  trans x y z h1 h2 := by
    have h1 := of_decide_eq_true h1
    have h2 := of_decide_eq_true h2
    exact decide_eq_true ((cmp_trans (by omega) (by omega)).2 (Or.inl h1))
  ntrans x y z h1 h2 := by
    have h1 := of_decide_eq_false h1
    have h2 := of_decide_eq_false h2
    have e1 := cmp_flip x y
    have e2 := cmp_flip y z
    have e3 := cmp_flip x z
    have := (cmp_trans (a := z) (b := y) (c := x) (by omega) (by omega)).1
    exact decide_eq_false (by omega)
instance : Inhabited Sp' := ⟨(0, (0, 0), 0, 0, 0)⟩
theorem call67 (x y : Sp') : CallOK Try.prog 67 [.agg (scs (kSpot.vals x)), .agg (scs (kSpot.vals y))] [] (.sc (.int .i64 (cmpS x y))) [] :=
  have h : CallOK Try.prog 67 (showA 0 [sSpot, sSpot] (x, (y, ()))).1 (showA 0 [sSpot, sSpot] (x, (y, ()))).2 (.sc (.int .i64 (cmpS x y))) [] := evFuncV_sound Z2_ok mixed Try.func67 (show Try.f67.body = some (bodyF Try.f67) from rfl) (noCuts_ok _) (z67 x y) (by rw [showA_len]; decide)
  h
theorem sort_at (blk off cap : Nat) (zs : List Sp') (w : World) (hH : HoldsK kSpot.vals kSpot.sz w blk off zs.toArray) (hblk : blk < w.heap.size) (hsz : zs.length < 4611686018427387904) :
    Calls Try.prog 108 #[.slice (some ⟨blk, off, none⟩) zs.length cap, .func (.func 67) #[] #[]] w fun e w' => e = .returned (.tuple #[]) ∧ ∃ n os, w' = sortWorldK kSpot.vals kSpot.sz w blk off n (srtS zs).toArray os :=
  AnyQ.slices_SortFunc_total YtpndjpjpmcehbaaSf.laysSF 6 Try.isAgg49 Try.sizeOf49 kSpot.vals (Kd.len_vals kSpot) (fun x v hv => Kd.one_vals kSpot x v hv) cmpS swo 67 #[] blk off cap zs.toArray w (enters_of Try.func67 (by kernel_rfl) rfl)
    (fun m os dk hd x y => YtpndjpjpmcehbaaSf.grown_call call67 x y _) hH hblk (by simpa using hsz)
    (fun x y h1 h2 => cmp_zero (by
      have h1 := of_decide_eq_false h1
      have h2 := of_decide_eq_false h2
      have := cmp_flip x y
      omega))
theorem srtS_len (l : List Sp') : (srtS l).length = l.length := List.length_mergeSort _
theorem e108 : EntOK Try.prog 108 (entV k108 (spec1 k108 [] (fun v => decide (v.1.1.length ≤ 1000)) (fun _ => ()) fun v => (srtS v.1.1, (), ()))) := by
  refine entV_ok Try.call108 ?_
  rintro ⟨⟨zs, nl⟩, ⟨⟩, ⟨⟩⟩ hv r H' hp
  have hv : zs.length ≤ 1000 := of_decide_eq_true hv
  have hp : (some (PV.tup [], [Blk.row true kSpot (srtS zs)]) : Option (PV × List Blk)) = some (r, H') := hp
  obtain ⟨rfl, rfl⟩ := Prod.mk.inj (Option.some.inj hp)
  by_cases h0 : zs.length = 0
  · obtain rfl : zs = [] := List.length_eq_zero_iff.1 h0
    have e : srtS [] = [] := by unfold srtS; simp
    rw [e]
    exact YtpndjpjpmcehbaaSf.sortF_none (k := kSpot) (f := 108) (g := 67) (fun p cap w => AnyF.slices_SortFunc_none YtpndjpjpmcehbaaSf.laysSF p cap _ w) nl
  · exact YtpndjpjpmcehbaaSf.sortF_call srtS_len sort_at zs nl (by omega) (by omega)
/-! ### The first that fits -/
abbrev pvSp (s : Sp') : List PV := [.sc (.int .i64 s.1), .sc (.int .i64 s.2.1.1), .sc (.int .i64 s.2.1.2), .sc (.int .i64 s.2.2.1), .sc (.int .i64 s.2.2.2.1), .sc (.int .i64 s.2.2.2.2)]
theorem fi_step {p : Sp' → Bool} {l : List Sp'} {k : Int} {x : Sp'} (h : 0 ≤ k) (hx : l[k.toNat]? = some x) : fiV p l k = bif p x then some k else fiV p l (k + 1) := by
  unfold fiV
  rw [drop_cons hx, show (k + 1).toNat = k.toNat + 1 by omega]
  rfl
theorem fi_end {p : Sp' → Bool} {l : List Sp'} {k : Int} (h : (l.length : Int) ≤ k) : fiV p l k = none := by
  unfold fiV; rw [List.drop_eq_nil_of_le (by omega)]; rfl
abbrev BF (l : List Sp') (s : Sp') (b : Int) : List Blk := [.row false kSpot l, .fix false (pvSp s), .fix false [.sc (.int .i64 b)]]
theorem q135l (l : List Sp') (nl : Bool) (s : Sp') (b : Int) (n k : Int) (h : preFi l n k = true) : z135lL l nl s b n k = cond (fiV (qS s b) l k).isNone (some (.exit 0, [.undef], BF l s b)) (some (.ret, [.sc (.int .i64 ((fiV (qS s b) l k).getD 0))], BF l s b)) := by
  obtain ⟨h1, h2, h3, h4⟩ := of_decide_eq_true h
  rw [z135l]
  simp only [List.take_length, Nat.zero_add, len_true, cond_true]
  refine cond_split (fun hk => ?_) (fun hk => ?_)
  · have hk := of_decide_eq_true hk
    obtain ⟨x, hx⟩ := get_ex (l := l) (k := k.toNat) (by omega)
    have hw : IntKind.i64.wrap (k + 1) = k + 1 := W_id _ (by omega) (by omega)
    rw [hx, fi_step h3 hx, hw]
    refine guard_split (by simp; omega) ?_
    simp only [bindO]
    refine cond_split (fun hc => ?_) (fun hc => ?_)
    · rw [show qS s b x = true from hc]; rfl
    · rw [show qS s b x = false from hc]
      refine guard_split (decide_eq_true ?_) (guard_split (decide_eq_true ⟨h1, h2, by omega, by omega⟩) rfl)
      show (n - (k + 1)).toNat < (n - k).toNat
      omega
  · have hk := of_decide_eq_false hk
    rw [fi_end (by omega)]; rfl
theorem q135 (l : List Sp') (nl : Bool) (s : Sp') (b : Int) (h : l.length ≤ 1000) : z135L l nl s b = some (.sc (.int .i64 (anyI (qS s b) l)), BF l s b) := by
  rw [z135]
  simp only [List.take_length, Nat.zero_add, len_true, cond_true]
  refine guard_split (decide_eq_true ⟨h, rfl, by omega, by omega⟩) ?_
  unfold anyI
  cases fiV (qS s b) l 0 <;> rfl
theorem fiK_any {p : Sp' → Bool} : ∀ (l : List Sp') (k : Int), 0 ≤ k → (l.any p = false ∧ fiK p l k = none) ∨ (l.any p = true ∧ ∃ j, fiK p l k = some j ∧ 0 ≤ j)
  | [], k, _ => Or.inl ⟨rfl, rfl⟩
  | x :: r, k, h => by
    unfold fiK
    rw [List.any_cons]
    cases hx : p x with
    | true => exact Or.inr ⟨rfl, k, rfl, h⟩
    | false =>
      simp only [Bool.false_or, cond_false]
      exact fiK_any r (k + 1) (by omega)
theorem any_at {p : Sp' → Bool} (l : List Sp') : decide (anyI p l ≥ 0) = l.any p := by
  unfold anyI fiV
  rw [show l.drop (Int.toNat 0) = l from rfl]
  rcases fiK_any (p := p) l 0 (by omega) with ⟨h1, h2⟩ | ⟨h1, j, h2, h3⟩
  · rw [h1, h2]; rfl
  · rw [h1, h2]; exact decide_eq_true h3
theorem q109 (l : List Sp') (nl : Bool) (s : Sp') (b : Int) (h : l.length ≤ 1000) : z109L l nl s b = some (.sc (.bool (l.any (qS s b))), BF l s b) := by
  rw [z109]
  simp only [List.take_length, Nat.zero_add, len_true, cond_true]
  rw [any_at]
  exact guard_split (decide_eq_true h) rfl
theorem q107 (l : List Sp') (nl : Bool) (h : l.length ≤ 1000) : z107L l nl = pickA (spec107 ((l, nl), ())).2 := by
  have key : ∀ (x : Option (PV × List Blk)), x = cond nl (some (.sc (.slice none 0 0), [.row false kSpot l])) (some (.sl 1 0 6 l.length l.length false false, [.row false kSpot l, .row true kSpot l])) → x = pickA (spec107 ((l, nl), ())).2 := fun x h => h
  refine key _ ?_
  rw [z107]
  simp only [List.take_length, Nat.zero_add, len_true, cond_true, Bool.and_false]
  cases nl with
  | true => rfl
  | false =>
    refine guard_split (by simp; omega) ?_
    cases decide (1 ≤ l.length) <;> rfl
theorem in135 : CutOK Try.prog Try.f135.ntmps (codeAt 0 (bodyF Try.f135)) [0, 1, 7, 8] [4] (entC kFi cFi) := loop_cutW (kill := killA 0 kFi) Z3_ok mixed muFi (by kernel_rfl) (noCuts_ok _) fun v h => q135l v.1.1 v.1.2 v.2.1.1 v.2.1.2.1 v.2.2.1 v.2.2.2.1 h
theorem Z4_ok : TableOK Try.prog Z4 :=
  ext_ok (entV_ok Try.call135 (liftV Z3_ok mixed Try.func135 (show Try.f135.body = some (bodyF Try.f135) from rfl) (cut_cons (by kernel_rfl) in135 (noCuts_ok _)) (by decide) fun v h => q135 v.1.1 v.1.2 v.2.1.1 v.2.1.2.1 (of_decide_eq_true h)))
  (ext_ok (entV_ok Try.call107 (liftV Z3_ok mixed Try.func107 (show Try.f107.body = some (bodyF Try.f107) from rfl) (noCuts_ok _) (by decide) fun v h => q107 v.1.1 v.1.2 (of_decide_eq_true h)))
  (ext_ok e108 Z3_ok))
theorem Z5_ok : TableOK Try.prog Z5 := ext_ok (entV_ok Try.call109 (liftV Z4_ok mixed Try.func109 (show Try.f109.body = some (bodyF Try.f109) from rfl) (noCuts_ok _) (by decide) fun v h => q109 v.1.1 v.1.2 v.2.1.1 v.2.1.2.1 (of_decide_eq_true h))) Z4_ok
/-! ### Spots -/
theorem ok_cons (x : Sp') (r : List Sp') : okS (x :: r) = (decide (sE x = 0) && okS r) := rfl
theorem sp_no {s : Sp'} (h : sE s ≠ 0) : sE s = 4 := by
  unfold sE spotE at h ⊢
  by_cases k : spotOk s.1 s.2.1.1 s.2.1.2 s.2.2.1 s.2.2.2.1 s.2.2.2.2
  · rw [if_pos k] at h; exact absurd rfl h
  · rw [if_neg k]
theorem q65a (l : List Sp') (nl : Bool) (n k : Int) (h : pre65a l n k = true) : z65aL l nl n k = cond (okS (l.drop k.toNat)) (some (.exit 0, [.undef, .undef], [.row false kSpot l])) (some (.ret, [.sc (.slice none 0 0), .sc (.int .i64 4)], [.row false kSpot l])) := by
  obtain ⟨h1, h2, h3, h4⟩ := of_decide_eq_true h
  rw [z65a]
  simp only [List.take_length, Nat.zero_add, len_true, cond_true]
  refine cond_split (fun hk => ?_) (fun hk => ?_)
  · have hk := of_decide_eq_true hk
    obtain ⟨x, hx⟩ := get_ex (l := l) (k := k.toNat) (by omega)
    have hw : IntKind.i64.wrap (k + 1) = k + 1 := W_id _ (by omega) (by omega)
    rw [hx, hw, drop_cons hx, ok_cons]
    refine guard_split (by simp; omega) ?_
    simp only [bindO]
    refine cond_split (fun hc => ?_) (fun hc => ?_)
    · have hc : sE x ≠ 0 := by simpa using hc
      rw [decide_eq_false hc]
      change some (Xt.ret, [PV.sc (.slice none 0 0), PV.sc (.int .i64 (sE x))], _) = _
      rw [sp_no hc]; rfl
    have hc : sE x = 0 := by simpa using hc
    rw [decide_eq_true hc, Bool.true_and, show k.toNat + 1 = (k + 1).toNat by omega]
    refine guard_split (decide_eq_true ?_) (guard_split (decide_eq_true ⟨h1, h2, by omega, by omega⟩) rfl)
    show (n - (k + 1)).toNat < (n - k).toNat
    omega
  · have hk := of_decide_eq_false hk
    rw [List.drop_eq_nil_of_le (by omega)]; rfl
theorem dd_pre (b : Int) : ∀ (l acc : List Sp'), ∃ t, dd b acc l = acc ++ t
  | [], acc => ⟨[], by rw [List.append_nil]; rfl⟩
  | s :: r, acc => by
    show ∃ t, (bif acc.any (qS s b) then dd b acc r else dd b (acc ++ [s]) r) = acc ++ t
    cases acc.any (qS s b) with
    | true => exact dd_pre b r acc
    | false =>
      obtain ⟨t, ht⟩ := dd_pre b r (acc ++ [s])
      exact ⟨s :: t, by rw [cond_false, ht, List.append_assoc]; rfl⟩
theorem dd_ne (b : Int) (l acc : List Sp') (s : Sp') : (dd b (acc ++ [s]) l).length ≠ acc.length := by
  obtain ⟨t, ht⟩ := dd_pre b l (acc ++ [s])
  rw [ht, List.length_append, List.length_append, List.length_singleton]; omega
theorem dd_step {b : Int} {acc l : List Sp'} {k : Int} {x : Sp'} (h0 : 0 ≤ k) (hx : l[k.toNat]? = some x) : ddK b acc l k = bif acc.any (qS x b) then ddK b acc l (k + 1) else ddK b (acc ++ [x]) l (k + 1) := by
  unfold ddK
  rw [drop_cons hx, show (k + 1).toNat = k.toNat + 1 by omega]; rfl
theorem dd_end {b : Int} {acc l : List Sp'} {k : Int} (h : (l.length : Int) ≤ k) : ddK b acc l k = acc := by
  unfold ddK; rw [List.drop_eq_nil_of_le (by omega)]; rfl
abbrev slS (n : Nat) (l : List Sp') (nl : Bool) : PV := .sl n 0 6 l.length l.length false nl
theorem q65c (b : Int) (acc : List Sp') (an : Bool) (l : List Sp') (nl : Bool) (n k : Int) (h : pre65c acc l n k = true) :
    z65cL b acc an l nl n k = some (.exit 2, [slS 3 (ddK b acc l k) (an && decide ((ddK b acc l k).length = acc.length))], [.fix false [.sc (.int .i64 b)], .dead, .row false kSpot l, .row true kSpot (ddK b acc l k)]) := by
  obtain ⟨h1, h2, h3, h4, h5⟩ := of_decide_eq_true h
  rw [z65c]
  simp only [List.take_length, Nat.zero_add, len_true, len_same, cond_true]
  refine cond_split (fun hk => ?_) (fun hk => ?_)
  · have hk := of_decide_eq_true hk
    obtain ⟨x, hx⟩ := get_ex (l := l) (k := k.toNat) (by omega)
    have hw : IntKind.i64.wrap (k + 1) = k + 1 := W_id _ (by omega) (by omega)
    rw [hx, hw, dd_step h3 hx]
    refine guard_split (by simp; omega) ?_
    simp only [bindO]
    refine guard_split (decide_eq_true (by omega)) ?_
    have hmu : ∀ (a c : List Sp') (an cn : Bool), decide (mu65c (b, (a, an), (l, nl), n, k + 1, PUnit.unit) < mu65c (b, (c, cn), (l, nl), n, k, ())) = true := fun a c an cn => decide_eq_true (show (n - (k + 1)).toNat < (n - k).toNat by omega)
    cases acc.any (qS x b) with
    | false =>
      simp only [Bool.not_false, cond_true, cond_false]
      refine guard_split (by simp; omega) (guard_split (hmu _ _ _ _) (guard_split ?_ ?_))
      · rw [decide_eq_true (show acc.length + 1 = (acc ++ [x]).length by simp)]
        exact decide_eq_true ⟨h1, h2, by omega, by omega, by rw [List.length_append]; simp; omega⟩
      · have : decide ((ddK b (acc ++ [x]) l (k + 1)).length = acc.length) = false := decide_eq_false (dd_ne _ _ _ _)
        rw [this, Bool.and_false]
    | true =>
      simp only [Bool.not_true, cond_true, cond_false]
      exact guard_split (hmu _ _ _ _) (guard_split (decide_eq_true ⟨h1, h2, by omega, by omega, by omega⟩) rfl)
  · have hk := of_decide_eq_false hk
    rw [dd_end (by omega), len_same, Bool.and_true]
theorem q65 (l : List Sp') (nl : Bool) (b : Int) (h : (!nl || decide (l.length = 0)) = true) : z65L l nl b = pickA (spec65 ((l, nl), b, ())).2 := by
  have key : ∀ (x : Option (PV × List Blk)), x = cond (decide (spE l b = 0)) (some (.tup [slS 1 (spL l b) (decide ((spL l b).length = 0)), .sc (.int .i64 0)], [.row false kSpot l, .row true kSpot (spL l b)])) (some (.tup [.sc (.slice none 0 0), .sc (.int .i64 (spE l b))], [.row false kSpot l])) → x = pickA (spec65 ((l, nl), b, ())).2 := fun x h => h
  refine key _ ?_
  rw [z65]
  unfold spE
  simp only [List.take_length, Nat.zero_add, len_true, len_same, cond_true]
  refine cond_split (fun hk => ?_) (fun hk => ?_)
  · have hk := of_decide_eq_true hk
    rw [decide_eq_true (show 128 < l.length by omega)]; rfl
  have hk := of_decide_eq_false hk
  rw [decide_eq_false (show ¬ 128 < l.length by omega), show l.drop (Int.toNat 0) = l from rfl]
  refine guard_split (decide_eq_true ⟨by omega, rfl, by omega, by omega⟩) ?_
  simp only [cond_false]
  refine cond_split (fun ho => ?_) (fun ho => by rw [ho]; rfl)
  rw [ho]
  unfold bandE
  refine cond_split (fun hb => by rw [hb]; rfl) (fun hb => ?_)
  rw [hb]
  refine cond_split (fun hb => by rw [hb]; rfl) (fun hb => ?_)
  rw [hb]
  refine guard_split (decide_eq_true (by omega)) ?_
  cases nl with
  | true =>
    obtain rfl : l = [] := List.length_eq_zero_iff.1 (of_decide_eq_true h)
    have e : srtS [] = [] := by unfold srtS; simp
    unfold spL
    rw [e]; rfl
  | false =>
    simp only [cond_false]
    have ht : List.take l.length (srtS l) = srtS l := List.take_of_length_le (by rw [srtS_len]; exact Nat.le_refl _)
    rw [ht, srtS_len, len_true]
    refine guard_split (decide_eq_true (by omega)) (guard_split ?_ rfl)
    exact decide_eq_true ⟨by rw [srtS_len]; omega, by rw [srtS_len], by omega, by omega, by simp⟩
theorem in65a : CutOK Try.prog Try.f65.ntmps (codeAt 0 (bodyF Try.f65)) [16, 17, 18] [4, 5] (entC k65a c65a) := loop_cutW (kill := killA 0 k65a) Z5_ok mixed mu65a (by kernel_rfl) (noCuts_ok _) fun v h => q65a v.1.1 v.1.2 v.2.1 v.2.2.1 h
theorem in65c : CutOK Try.prog Try.f65.ntmps (codeAt 2 (bodyF Try.f65)) [3, 10, 38, 39, 40] [10] (entC k65c c65c) := loop_cutW (kill := killA 0 k65c) Z5_ok mixed mu65c (by kernel_rfl) (noCuts_ok _) fun v h => q65c v.1 v.2.1.1 v.2.1.2 v.2.2.1.1 v.2.2.1.2 v.2.2.2.1 v.2.2.2.2.1 h
theorem Z6_ok : TableOK Try.prog Z6 := ext_ok (entV_ok Try.call65 (liftV Z5_ok mixed Try.func65 (show Try.f65.body = some (bodyF Try.f65) from rfl) (cut_cons (by kernel_rfl) in65a (cut_cons (by kernel_rfl) in65c (noCuts_ok _))) (by decide) fun v h => q65 v.1.1 v.1.2 v.2.1 h)) Z5_ok
end Go.Proofs.YtpndjpjpmcehbaaFz
