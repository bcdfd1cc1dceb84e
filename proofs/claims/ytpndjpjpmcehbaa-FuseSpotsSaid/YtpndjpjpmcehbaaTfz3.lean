/- What is proved: the law FuseSpots answers true for all values. No condition. -/
import Derived.Test.YtpndjpjpmcehbaaTfz1
import Derived.Test.YtpndjpjpmcehbaaTfz2
import Derived.Test.YtpndjpjpmcehbaaEvZd
namespace Go.Proofs.YtpndjpjpmcehbaaFz
open Go Go.Proofs Go.Proofs.YtpndjpjpmcehbaaEv Go.Proofs.YtpndjpjpmcehbaaTk
set_option maxRecDepth 100000
set_option linter.unusedSimpArgs false
set_option linter.unusedVariables false
noncomputable abbrev z14aL (a0 : List (Int × (Int × Int) × Int × Int × Int)) (a1 : Bool) (a2 : Int) (a3 : List (Int × (Int × Int) × Int × Int × Int)) (a4 : Bool) (a5 : Int) (a6 : Int) := evRound Try.prog Z6 noCuts 200 (loopOf (codeAt 0 (bodyF Try.f14))) kLa muLa (killA 0 kLa) [7, 8, 52, 53, 54] [4] cLa ((a0, a1), (a2, ((a3, a4), (a5, (a6, ())))))
theorem z14a (a0 : List (Int × (Int × Int) × Int × Int × Int)) (a1 : Bool) (a2 : Int) (a3 : List (Int × (Int × Int) × Int × Int × Int)) (a4 : Bool) (a5 : Int) (a6 : Int) : z14aL a0 a1 a2 a3 a4 a5 a6 = (bif decide (a6 < a5) then
  guardB (decide (0 ≤ a6) && decide (a6 < (↑a3.length : Int)))
    (bindO a3[0 + a6.toNat]? fun x =>
      bif spotE x.fst x.snd.fst.fst x.snd.fst.snd x.snd.snd.fst x.snd.snd.snd.fst x.snd.snd.snd.snd != 0 then
        bif a2 == 4 then
          some
            (Xt.ret, [PV.sc (Value.bool ((↑a0.length : Int) == 0))],
              [Blk.row false
                  ((Kd.int IntKind.i64).pair
                    (((Kd.int IntKind.i64).pair (Kd.int IntKind.i64)).pair
                      ((Kd.int IntKind.i64).pair ((Kd.int IntKind.i64).pair (Kd.int IntKind.i64)))))
                  a0,
                Blk.row false
                  ((Kd.int IntKind.i64).pair
                    (((Kd.int IntKind.i64).pair (Kd.int IntKind.i64)).pair
                      ((Kd.int IntKind.i64).pair ((Kd.int IntKind.i64).pair (Kd.int IntKind.i64)))))
                  a3])
        else
          some
            (Xt.ret, [PV.sc (Value.bool false)],
              [Blk.row false
                  ((Kd.int IntKind.i64).pair
                    (((Kd.int IntKind.i64).pair (Kd.int IntKind.i64)).pair
                      ((Kd.int IntKind.i64).pair ((Kd.int IntKind.i64).pair (Kd.int IntKind.i64)))))
                  a0,
                Blk.row false
                  ((Kd.int IntKind.i64).pair
                    (((Kd.int IntKind.i64).pair (Kd.int IntKind.i64)).pair
                      ((Kd.int IntKind.i64).pair ((Kd.int IntKind.i64).pair (Kd.int IntKind.i64)))))
                  a3])
      else
        guardB
          (decide
            (muLa
                ((List.take a0.length a0, a1), a2, (List.take a3.length a3, a4), a5, IntKind.i64.wrap (a6 + 1),
                  PUnit.unit) <
              muLa ((a0, a1), a2, (a3, a4), a5, a6, ())))
          (guardB
            (bif decide (0 + a0.length ≤ a0.length) then
              bif decide (0 + a3.length ≤ a3.length) then pre65a (List.take a3.length a3) a5 (IntKind.i64.wrap (a6 + 1))
              else false
            else false)
            (bif okS (List.drop (IntKind.i64.wrap (a6 + 1)).toNat (List.take a3.length a3)) then
              some
                (Xt.exit 0, [PV.undef],
                  [Blk.row false
                      ((Kd.int IntKind.i64).pair
                        (((Kd.int IntKind.i64).pair (Kd.int IntKind.i64)).pair
                          ((Kd.int IntKind.i64).pair ((Kd.int IntKind.i64).pair (Kd.int IntKind.i64)))))
                      a0,
                    Blk.row false
                      ((Kd.int IntKind.i64).pair
                        (((Kd.int IntKind.i64).pair (Kd.int IntKind.i64)).pair
                          ((Kd.int IntKind.i64).pair ((Kd.int IntKind.i64).pair (Kd.int IntKind.i64)))))
                      a3])
            else
              some
                (Xt.ret, [PV.sc (Value.bool (lawR (List.take a0.length a0) a2 4))],
                  [Blk.row false
                      ((Kd.int IntKind.i64).pair
                        (((Kd.int IntKind.i64).pair (Kd.int IntKind.i64)).pair
                          ((Kd.int IntKind.i64).pair ((Kd.int IntKind.i64).pair (Kd.int IntKind.i64)))))
                      a0,
                    Blk.row false
                      ((Kd.int IntKind.i64).pair
                        (((Kd.int IntKind.i64).pair (Kd.int IntKind.i64)).pair
                          ((Kd.int IntKind.i64).pair ((Kd.int IntKind.i64).pair (Kd.int IntKind.i64)))))
                      a3]))))
else
  some
    (Xt.exit 0, [PV.undef],
      [Blk.row false
          ((Kd.int IntKind.i64).pair
            (((Kd.int IntKind.i64).pair (Kd.int IntKind.i64)).pair
              ((Kd.int IntKind.i64).pair ((Kd.int IntKind.i64).pair (Kd.int IntKind.i64)))))
          a0,
        Blk.row false
          ((Kd.int IntKind.i64).pair
            (((Kd.int IntKind.i64).pair (Kd.int IntKind.i64)).pair
              ((Kd.int IntKind.i64).pair ((Kd.int IntKind.i64).pair (Kd.int IntKind.i64)))))
          a3])) := by kernel_rfl
noncomputable abbrev z14eL (a0 : List (Int × (Int × Int) × Int × Int × Int)) (a1 : Bool) (a2 : Int) (a3 : Int) (a4 : Int) := evRound Try.prog Z6 noCuts 200 (loopOf (codeAt 4 (bodyF Try.f14))) kLe muLe (killA 0 kLe) [11, 13, 86, 87] [13] cLe ((a0, a1), (a2, (a3, (a4, ()))))
theorem z14e (a0 : List (Int × (Int × Int) × Int × Int × Int)) (a1 : Bool) (a2 : Int) (a3 : Int) (a4 : Int) : z14eL a0 a1 a2 a3 a4 = (bif decide (a4 < a3) then
  guardB (decide (0 ≤ a4) && decide (a4 < (↑a0.length : Int)))
    (bindO a0[0 + a4.toNat]? fun x =>
      guardB (decide (0 ≤ a2) && decide (a2 < (↑a0.length : Int)))
        (bindO a0[0 + a2.toNat]? fun x_1 =>
          bif decide (cmpS x x_1 < 0) then
            guardB
              (decide
                (muLe ((List.take a0.length a0, a1), a4, a3, IntKind.i64.wrap (a4 + 1), PUnit.unit) <
                  muLe ((a0, a1), a2, a3, a4, ())))
              (guardB
                (bif decide (0 + a0.length ≤ a0.length) then
                  preLe (List.take a0.length a0) a4 a3 (IntKind.i64.wrap (a4 + 1))
                else false)
                (some
                  (Xt.exit 4,
                    [PV.sc (Value.int IntKind.i64 (minV (List.take a0.length a0) a4 (IntKind.i64.wrap (a4 + 1))))],
                    [Blk.row false
                        ((Kd.int IntKind.i64).pair
                          (((Kd.int IntKind.i64).pair (Kd.int IntKind.i64)).pair
                            ((Kd.int IntKind.i64).pair ((Kd.int IntKind.i64).pair (Kd.int IntKind.i64)))))
                        a0])))
          else
            guardB
              (decide
                (muLe ((List.take a0.length a0, a1), a2, a3, IntKind.i64.wrap (a4 + 1), PUnit.unit) <
                  muLe ((a0, a1), a2, a3, a4, ())))
              (guardB
                (bif decide (0 + a0.length ≤ a0.length) then
                  preLe (List.take a0.length a0) a2 a3 (IntKind.i64.wrap (a4 + 1))
                else false)
                (some
                  (Xt.exit 4,
                    [PV.sc (Value.int IntKind.i64 (minV (List.take a0.length a0) a2 (IntKind.i64.wrap (a4 + 1))))],
                    [Blk.row false
                        ((Kd.int IntKind.i64).pair
                          (((Kd.int IntKind.i64).pair (Kd.int IntKind.i64)).pair
                            ((Kd.int IntKind.i64).pair ((Kd.int IntKind.i64).pair (Kd.int IntKind.i64)))))
                        a0])))))
else
  some
    (Xt.exit 4, [PV.sc (Value.int IntKind.i64 a2)],
      [Blk.row false
          ((Kd.int IntKind.i64).pair
            (((Kd.int IntKind.i64).pair (Kd.int IntKind.i64)).pair
              ((Kd.int IntKind.i64).pair ((Kd.int IntKind.i64).pair (Kd.int IntKind.i64)))))
          a0])) := by kernel_rfl
noncomputable abbrev z14gL (a0 : Int) (a1 : Sp') (a2 : Bool) (a3 : List (Int × (Int × Int) × Int × Int × Int)) (a4 : Bool) (a5 : Int) (a6 : Int) := evRound Try.prog Z6 noCuts 200 (loopOf (codeAt 6 (bodyF Try.f14))) kLg muLg (killA 0 kLg) [1, 15, 16, 115, 116, 117] [16] cLg (a0, (a1, (a2, ((a3, a4), (a5, (a6, ()))))))
theorem z14g (a0 : Int) (a1 : Sp') (a2 : Bool) (a3 : List (Int × (Int × Int) × Int × Int × Int)) (a4 : Bool) (a5 : Int) (a6 : Int) : z14gL a0 a1 a2 a3 a4 a5 a6 = (bif decide (a6 < a5) then
  guardB (decide (0 ≤ a6) && decide (a6 < (↑a3.length : Int)))
    (bindO a3[0 + a6.toNat]? fun x =>
      bif a2 then
        guardB
          (decide
            (muLg (a0, a1, true, (List.take a3.length a3, a4), a5, IntKind.i64.wrap (a6 + 1), PUnit.unit) <
              muLg (a0, a1, a2, (a3, a4), a5, a6, ())))
          (guardB
            (bif decide (0 + a3.length ≤ a3.length) then pre65a (List.take a3.length a3) a5 (IntKind.i64.wrap (a6 + 1))
            else false)
            (some
              (Xt.exit 6, [PV.sc (Value.bool true)],
                [Blk.fix false
                    [PV.sc (Value.int IntKind.i64 a1.fst), PV.sc (Value.int IntKind.i64 a1.snd.fst.fst),
                      PV.sc (Value.int IntKind.i64 a1.snd.fst.snd), PV.sc (Value.int IntKind.i64 a1.snd.snd.fst),
                      PV.sc (Value.int IntKind.i64 a1.snd.snd.snd.fst),
                      PV.sc (Value.int IntKind.i64 a1.snd.snd.snd.snd)],
                  Blk.row false
                    ((Kd.int IntKind.i64).pair
                      (((Kd.int IntKind.i64).pair (Kd.int IntKind.i64)).pair
                        ((Kd.int IntKind.i64).pair ((Kd.int IntKind.i64).pair (Kd.int IntKind.i64)))))
                    a3])))
      else
        bif x.fst == a1.fst then
          bif x.snd.snd.snd.fst == a1.snd.snd.snd.fst then
            bif a1.snd.snd.snd.fst != -1 then
              bif
                  decide
                    (far x.snd.fst.fst x.snd.fst.snd a1.snd.fst.fst a1.snd.fst.snd ≤
                      IntKind.i64.wrap
                        (IntKind.i64.wrap (x.snd.snd.snd.snd + a1.snd.snd.snd.snd) *
                          IntKind.i64.wrap (x.snd.snd.snd.snd + a1.snd.snd.snd.snd))) then
                guardB
                  (decide
                    (muLg
                        (a0, a1, decide (aptR x.snd.snd.fst a1.snd.snd.fst ≤ a0), (List.take a3.length a3, a4), a5,
                          IntKind.i64.wrap (a6 + 1), PUnit.unit) <
                      muLg (a0, a1, a2, (a3, a4), a5, a6, ())))
                  (guardB
                    (bif decide (0 + a3.length ≤ a3.length) then
                      pre65a (List.take a3.length a3) a5 (IntKind.i64.wrap (a6 + 1))
                    else false)
                    (some
                      (Xt.exit 6,
                        [PV.sc
                            (Value.bool
                              (decide (aptR x.snd.snd.fst a1.snd.snd.fst ≤ a0) ||
                                (List.drop (IntKind.i64.wrap (a6 + 1)).toNat (List.take a3.length a3)).any
                                  (lawQ a1 a0)))],
                        [Blk.fix false
                            [PV.sc (Value.int IntKind.i64 a1.fst), PV.sc (Value.int IntKind.i64 a1.snd.fst.fst),
                              PV.sc (Value.int IntKind.i64 a1.snd.fst.snd),
                              PV.sc (Value.int IntKind.i64 a1.snd.snd.fst),
                              PV.sc (Value.int IntKind.i64 a1.snd.snd.snd.fst),
                              PV.sc (Value.int IntKind.i64 a1.snd.snd.snd.snd)],
                          Blk.row false
                            ((Kd.int IntKind.i64).pair
                              (((Kd.int IntKind.i64).pair (Kd.int IntKind.i64)).pair
                                ((Kd.int IntKind.i64).pair ((Kd.int IntKind.i64).pair (Kd.int IntKind.i64)))))
                            a3])))
              else
                guardB
                  (decide
                    (muLg (a0, a1, false, (List.take a3.length a3, a4), a5, IntKind.i64.wrap (a6 + 1), PUnit.unit) <
                      muLg (a0, a1, a2, (a3, a4), a5, a6, ())))
                  (guardB
                    (bif decide (0 + a3.length ≤ a3.length) then
                      pre65a (List.take a3.length a3) a5 (IntKind.i64.wrap (a6 + 1))
                    else false)
                    (some
                      (Xt.exit 6,
                        [PV.sc
                            (Value.bool
                              ((List.drop (IntKind.i64.wrap (a6 + 1)).toNat (List.take a3.length a3)).any
                                (lawQ a1 a0)))],
                        [Blk.fix false
                            [PV.sc (Value.int IntKind.i64 a1.fst), PV.sc (Value.int IntKind.i64 a1.snd.fst.fst),
                              PV.sc (Value.int IntKind.i64 a1.snd.fst.snd),
                              PV.sc (Value.int IntKind.i64 a1.snd.snd.fst),
                              PV.sc (Value.int IntKind.i64 a1.snd.snd.snd.fst),
                              PV.sc (Value.int IntKind.i64 a1.snd.snd.snd.snd)],
                          Blk.row false
                            ((Kd.int IntKind.i64).pair
                              (((Kd.int IntKind.i64).pair (Kd.int IntKind.i64)).pair
                                ((Kd.int IntKind.i64).pair ((Kd.int IntKind.i64).pair (Kd.int IntKind.i64)))))
                            a3])))
            else
              guardB
                (decide
                  (muLg (a0, a1, false, (List.take a3.length a3, a4), a5, IntKind.i64.wrap (a6 + 1), PUnit.unit) <
                    muLg (a0, a1, a2, (a3, a4), a5, a6, ())))
                (guardB
                  (bif decide (0 + a3.length ≤ a3.length) then
                    pre65a (List.take a3.length a3) a5 (IntKind.i64.wrap (a6 + 1))
                  else false)
                  (some
                    (Xt.exit 6,
                      [PV.sc
                          (Value.bool
                            ((List.drop (IntKind.i64.wrap (a6 + 1)).toNat (List.take a3.length a3)).any (lawQ a1 a0)))],
                      [Blk.fix false
                          [PV.sc (Value.int IntKind.i64 a1.fst), PV.sc (Value.int IntKind.i64 a1.snd.fst.fst),
                            PV.sc (Value.int IntKind.i64 a1.snd.fst.snd), PV.sc (Value.int IntKind.i64 a1.snd.snd.fst),
                            PV.sc (Value.int IntKind.i64 a1.snd.snd.snd.fst),
                            PV.sc (Value.int IntKind.i64 a1.snd.snd.snd.snd)],
                        Blk.row false
                          ((Kd.int IntKind.i64).pair
                            (((Kd.int IntKind.i64).pair (Kd.int IntKind.i64)).pair
                              ((Kd.int IntKind.i64).pair ((Kd.int IntKind.i64).pair (Kd.int IntKind.i64)))))
                          a3])))
          else
            guardB
              (decide
                (muLg (a0, a1, false, (List.take a3.length a3, a4), a5, IntKind.i64.wrap (a6 + 1), PUnit.unit) <
                  muLg (a0, a1, a2, (a3, a4), a5, a6, ())))
              (guardB
                (bif decide (0 + a3.length ≤ a3.length) then
                  pre65a (List.take a3.length a3) a5 (IntKind.i64.wrap (a6 + 1))
                else false)
                (some
                  (Xt.exit 6,
                    [PV.sc
                        (Value.bool
                          ((List.drop (IntKind.i64.wrap (a6 + 1)).toNat (List.take a3.length a3)).any (lawQ a1 a0)))],
                    [Blk.fix false
                        [PV.sc (Value.int IntKind.i64 a1.fst), PV.sc (Value.int IntKind.i64 a1.snd.fst.fst),
                          PV.sc (Value.int IntKind.i64 a1.snd.fst.snd), PV.sc (Value.int IntKind.i64 a1.snd.snd.fst),
                          PV.sc (Value.int IntKind.i64 a1.snd.snd.snd.fst),
                          PV.sc (Value.int IntKind.i64 a1.snd.snd.snd.snd)],
                      Blk.row false
                        ((Kd.int IntKind.i64).pair
                          (((Kd.int IntKind.i64).pair (Kd.int IntKind.i64)).pair
                            ((Kd.int IntKind.i64).pair ((Kd.int IntKind.i64).pair (Kd.int IntKind.i64)))))
                        a3])))
        else
          guardB
            (decide
              (muLg (a0, a1, false, (List.take a3.length a3, a4), a5, IntKind.i64.wrap (a6 + 1), PUnit.unit) <
                muLg (a0, a1, a2, (a3, a4), a5, a6, ())))
            (guardB
              (bif decide (0 + a3.length ≤ a3.length) then
                pre65a (List.take a3.length a3) a5 (IntKind.i64.wrap (a6 + 1))
              else false)
              (some
                (Xt.exit 6,
                  [PV.sc
                      (Value.bool
                        ((List.drop (IntKind.i64.wrap (a6 + 1)).toNat (List.take a3.length a3)).any (lawQ a1 a0)))],
                  [Blk.fix false
                      [PV.sc (Value.int IntKind.i64 a1.fst), PV.sc (Value.int IntKind.i64 a1.snd.fst.fst),
                        PV.sc (Value.int IntKind.i64 a1.snd.fst.snd), PV.sc (Value.int IntKind.i64 a1.snd.snd.fst),
                        PV.sc (Value.int IntKind.i64 a1.snd.snd.snd.fst),
                        PV.sc (Value.int IntKind.i64 a1.snd.snd.snd.snd)],
                    Blk.row false
                      ((Kd.int IntKind.i64).pair
                        (((Kd.int IntKind.i64).pair (Kd.int IntKind.i64)).pair
                          ((Kd.int IntKind.i64).pair ((Kd.int IntKind.i64).pair (Kd.int IntKind.i64)))))
                      a3]))))
else
  some
    (Xt.exit 6, [PV.sc (Value.bool a2)],
      [Blk.fix false
          [PV.sc (Value.int IntKind.i64 a1.fst), PV.sc (Value.int IntKind.i64 a1.snd.fst.fst),
            PV.sc (Value.int IntKind.i64 a1.snd.fst.snd), PV.sc (Value.int IntKind.i64 a1.snd.snd.fst),
            PV.sc (Value.int IntKind.i64 a1.snd.snd.snd.fst), PV.sc (Value.int IntKind.i64 a1.snd.snd.snd.snd)],
        Blk.row false
          ((Kd.int IntKind.i64).pair
            (((Kd.int IntKind.i64).pair (Kd.int IntKind.i64)).pair
              ((Kd.int IntKind.i64).pair ((Kd.int IntKind.i64).pair (Kd.int IntKind.i64)))))
          a3])) := by kernel_rfl
noncomputable abbrev z14cL (a0 : Int) (a1 : List (Int × (Int × Int) × Int × Int × Int)) (a2 : Bool) (a3 : List (Int × (Int × Int) × Int × Int × Int)) (a4 : Bool) := evRound Try.prog Z6 (addCut 4 [11, 13, 86, 87] [13] (entC kLe cLe) (addCut 6 [1, 15, 16, 115, 116, 117] [16] (entC kLg cLg) noCuts)) 200 (loopOf (codeAt 2 (bodyF Try.f14))) kLc muLc (killA 0 kLc) [1, 11, 12] [12] cLc (a0, ((a1, a2), ((a3, a4), ())))
theorem z14c (a0 : Int) (a1 : List (Int × (Int × Int) × Int × Int × Int)) (a2 : Bool) (a3 : List (Int × (Int × Int) × Int × Int × Int)) (a4 : Bool) : z14cL a0 a1 a2 a3 a4 = (bif decide ((↑a1.length : Int) > 0) then
  guardB (bif decide (0 + a1.length ≤ a1.length) then preLe (List.take a1.length a1) 0 (↑a1.length : Int) 0 else false)
    (guardB
      (decide (0 ≤ minV (List.take a1.length a1) 0 0) &&
        decide (minV (List.take a1.length a1) 0 0 < (↑a1.length : Int)))
      (bindO a1[0 + (minV (List.take a1.length a1) 0 0).toNat]? fun x =>
        guardB
          (decide (minV (List.take a1.length a1) 0 0 ≤ minV (List.take a1.length a1) 0 0) &&
            decide (minV (List.take a1.length a1) 0 0 ≤ (↑a1.length : Int)))
          (guardB
            (decide (0 ≤ IntKind.i64.wrap (minV (List.take a1.length a1) 0 0 + 1)) &&
                decide (IntKind.i64.wrap (minV (List.take a1.length a1) 0 0 + 1) ≤ (↑a1.length : Int)) &&
              decide ((↑a1.length : Int) ≤ (↑a1.length : Int)))
            (guardB
              (decide (0 + ((minV (List.take a1.length a1) 0 0).toNat - 0) ≤ a1.length) &&
                    decide
                      (0 + (IntKind.i64.wrap (minV (List.take a1.length a1) 0 0 + 1)).toNat +
                          ((↑a1.length : Int).toNat -
                            (IntKind.i64.wrap (minV (List.take a1.length a1) 0 0 + 1)).toNat) ≤
                        a1.length) &&
                  decide
                    (((minV (List.take a1.length a1) 0 0).toNat - 0 +
                          ((↑a1.length : Int).toNat -
                            (IntKind.i64.wrap (minV (List.take a1.length a1) 0 0 + 1)).toNat)) *
                        48 ≤
                      140737488355328) &&
                decide
                  ((minV (List.take a1.length a1) 0 0).toNat - 0 +
                      ((↑a1.length : Int).toNat - (IntKind.i64.wrap (minV (List.take a1.length a1) 0 0 + 1)).toNat) ≤
                    4611686018427387904))
              (bif
                  decide (minV (List.take a1.length a1) 0 0 = minV (List.take a1.length a1) 0 0) &&
                    decide
                      (1 ≤
                        (↑a1.length : Int).toNat -
                          (IntKind.i64.wrap (minV (List.take a1.length a1) 0 0 + 1)).toNat) then
                guardB
                  (bif decide (0 + a3.length ≤ a3.length) then pre65a (List.take a3.length a3) (↑a3.length : Int) 0
                  else false)
                  (bif !(List.drop (Int.toNat 0) (List.take a3.length a3)).any (lawQ x a0) then
                    guardB
                      (decide (0 + a3.length ≤ a3.length) && true && decide ((a3.length + 1) * 48 ≤ 140737488355328) &&
                        decide (a3.length + 1 ≤ 4611686018427387904))
                      (guardB
                        (decide
                          (muLc
                              (a0,
                                (List.take ((minV (List.take a1.length a1) 0 0).toNat - 0) a1 ++
                                    List.take
                                      ((↑a1.length : Int).toNat -
                                        (IntKind.i64.wrap (minV (List.take a1.length a1) 0 0 + 1)).toNat)
                                      (List.drop (0 + (IntKind.i64.wrap (minV (List.take a1.length a1) 0 0 + 1)).toNat)
                                        a1),
                                  false),
                                (List.take a3.length a3 ++ [x], false), PUnit.unit) <
                            muLc (a0, (a1, a2), (a3, a4), ())))
                        (guardB
                          (bif
                              decide
                                ((minV (List.take a1.length a1) 0 0).toNat - 0 +
                                    ((↑a1.length : Int).toNat -
                                      (IntKind.i64.wrap (minV (List.take a1.length a1) 0 0 + 1)).toNat) =
                                  (List.take ((minV (List.take a1.length a1) 0 0).toNat - 0) a1 ++
                                      List.take
                                        ((↑a1.length : Int).toNat -
                                          (IntKind.i64.wrap (minV (List.take a1.length a1) 0 0 + 1)).toNat)
                                        (List.drop
                                          (0 + (IntKind.i64.wrap (minV (List.take a1.length a1) 0 0 + 1)).toNat)
                                          a1)).length) then
                            bif decide (a3.length + 1 = (List.take a3.length a3 ++ [x]).length) then
                              preLc a0
                                (List.take ((minV (List.take a1.length a1) 0 0).toNat - 0) a1 ++
                                  List.take
                                    ((↑a1.length : Int).toNat -
                                      (IntKind.i64.wrap (minV (List.take a1.length a1) 0 0 + 1)).toNat)
                                    (List.drop (0 + (IntKind.i64.wrap (minV (List.take a1.length a1) 0 0 + 1)).toNat)
                                      a1))
                                (List.take a3.length a3 ++ [x])
                            else false
                          else false)
                          (some
                            (Xt.exit 2,
                              [PV.sl 2 0 6
                                  (dd a0 (List.take a3.length a3 ++ [x])
                                      (srtS
                                        (List.take ((minV (List.take a1.length a1) 0 0).toNat - 0) a1 ++
                                          List.take
                                            ((↑a1.length : Int).toNat -
                                              (IntKind.i64.wrap (minV (List.take a1.length a1) 0 0 + 1)).toNat)
                                            (List.drop
                                              (0 + (IntKind.i64.wrap (minV (List.take a1.length a1) 0 0 + 1)).toNat)
                                              a1)))).length
                                  (dd a0 (List.take a3.length a3 ++ [x])
                                      (srtS
                                        (List.take ((minV (List.take a1.length a1) 0 0).toNat - 0) a1 ++
                                          List.take
                                            ((↑a1.length : Int).toNat -
                                              (IntKind.i64.wrap (minV (List.take a1.length a1) 0 0 + 1)).toNat)
                                            (List.drop
                                              (0 + (IntKind.i64.wrap (minV (List.take a1.length a1) 0 0 + 1)).toNat)
                                              a1)))).length
                                  false false],
                              [Blk.dead, Blk.dead,
                                Blk.row true
                                  ((Kd.int IntKind.i64).pair
                                    (((Kd.int IntKind.i64).pair (Kd.int IntKind.i64)).pair
                                      ((Kd.int IntKind.i64).pair ((Kd.int IntKind.i64).pair (Kd.int IntKind.i64)))))
                                  (dd a0 (List.take a3.length a3 ++ [x])
                                    (srtS
                                      (List.take ((minV (List.take a1.length a1) 0 0).toNat - 0) a1 ++
                                        List.take
                                          ((↑a1.length : Int).toNat -
                                            (IntKind.i64.wrap (minV (List.take a1.length a1) 0 0 + 1)).toNat)
                                          (List.drop
                                            (0 + (IntKind.i64.wrap (minV (List.take a1.length a1) 0 0 + 1)).toNat)
                                            a1))))]))))
                  else
                    guardB
                      (decide
                        (muLc
                            (a0,
                              (List.take ((minV (List.take a1.length a1) 0 0).toNat - 0) a1 ++
                                  List.take
                                    ((↑a1.length : Int).toNat -
                                      (IntKind.i64.wrap (minV (List.take a1.length a1) 0 0 + 1)).toNat)
                                    (List.drop (0 + (IntKind.i64.wrap (minV (List.take a1.length a1) 0 0 + 1)).toNat)
                                      a1),
                                false),
                              (a3, a4), PUnit.unit) <
                          muLc (a0, (a1, a2), (a3, a4), ())))
                      (guardB
                        (bif
                            decide
                              ((minV (List.take a1.length a1) 0 0).toNat - 0 +
                                  ((↑a1.length : Int).toNat -
                                    (IntKind.i64.wrap (minV (List.take a1.length a1) 0 0 + 1)).toNat) =
                                (List.take ((minV (List.take a1.length a1) 0 0).toNat - 0) a1 ++
                                    List.take
                                      ((↑a1.length : Int).toNat -
                                        (IntKind.i64.wrap (minV (List.take a1.length a1) 0 0 + 1)).toNat)
                                      (List.drop (0 + (IntKind.i64.wrap (minV (List.take a1.length a1) 0 0 + 1)).toNat)
                                        a1)).length) then
                          bif decide (a3.length = a3.length) then
                            preLc a0
                              (List.take ((minV (List.take a1.length a1) 0 0).toNat - 0) a1 ++
                                List.take
                                  ((↑a1.length : Int).toNat -
                                    (IntKind.i64.wrap (minV (List.take a1.length a1) 0 0 + 1)).toNat)
                                  (List.drop (0 + (IntKind.i64.wrap (minV (List.take a1.length a1) 0 0 + 1)).toNat) a1))
                              a3
                          else false
                        else false)
                        (some
                          (Xt.exit 2,
                            [PV.sl 2 0 6
                                (dd a0 a3
                                    (srtS
                                      (List.take ((minV (List.take a1.length a1) 0 0).toNat - 0) a1 ++
                                        List.take
                                          ((↑a1.length : Int).toNat -
                                            (IntKind.i64.wrap (minV (List.take a1.length a1) 0 0 + 1)).toNat)
                                          (List.drop
                                            (0 + (IntKind.i64.wrap (minV (List.take a1.length a1) 0 0 + 1)).toNat)
                                            a1)))).length
                                (dd a0 a3
                                    (srtS
                                      (List.take ((minV (List.take a1.length a1) 0 0).toNat - 0) a1 ++
                                        List.take
                                          ((↑a1.length : Int).toNat -
                                            (IntKind.i64.wrap (minV (List.take a1.length a1) 0 0 + 1)).toNat)
                                          (List.drop
                                            (0 + (IntKind.i64.wrap (minV (List.take a1.length a1) 0 0 + 1)).toNat)
                                            a1)))).length
                                false
                                (a4 &&
                                  decide
                                    ((dd a0 a3
                                          (srtS
                                            (List.take ((minV (List.take a1.length a1) 0 0).toNat - 0) a1 ++
                                              List.take
                                                ((↑a1.length : Int).toNat -
                                                  (IntKind.i64.wrap (minV (List.take a1.length a1) 0 0 + 1)).toNat)
                                                (List.drop
                                                  (0 + (IntKind.i64.wrap (minV (List.take a1.length a1) 0 0 + 1)).toNat)
                                                  a1)))).length =
                                      a3.length))],
                            [Blk.dead, Blk.dead,
                              Blk.row true
                                ((Kd.int IntKind.i64).pair
                                  (((Kd.int IntKind.i64).pair (Kd.int IntKind.i64)).pair
                                    ((Kd.int IntKind.i64).pair ((Kd.int IntKind.i64).pair (Kd.int IntKind.i64)))))
                                (dd a0 a3
                                  (srtS
                                    (List.take ((minV (List.take a1.length a1) 0 0).toNat - 0) a1 ++
                                      List.take
                                        ((↑a1.length : Int).toNat -
                                          (IntKind.i64.wrap (minV (List.take a1.length a1) 0 0 + 1)).toNat)
                                        (List.drop
                                          (0 + (IntKind.i64.wrap (minV (List.take a1.length a1) 0 0 + 1)).toNat)
                                          a1))))]))))
              else
                guardB
                  (bif decide (0 + a3.length ≤ a3.length) then pre65a (List.take a3.length a3) (↑a3.length : Int) 0
                  else false)
                  (bif !(List.drop (Int.toNat 0) (List.take a3.length a3)).any (lawQ x a0) then
                    guardB
                      (decide (0 + a3.length ≤ a3.length) && true && decide ((a3.length + 1) * 48 ≤ 140737488355328) &&
                        decide (a3.length + 1 ≤ 4611686018427387904))
                      (guardB
                        (decide
                          (muLc
                              (a0,
                                (List.take ((minV (List.take a1.length a1) 0 0).toNat - 0) a1 ++
                                    List.take
                                      ((↑a1.length : Int).toNat -
                                        (IntKind.i64.wrap (minV (List.take a1.length a1) 0 0 + 1)).toNat)
                                      (List.drop (0 + (IntKind.i64.wrap (minV (List.take a1.length a1) 0 0 + 1)).toNat)
                                        a1),
                                  ((↑a1.length : Int).toNat -
                                          (IntKind.i64.wrap (minV (List.take a1.length a1) 0 0 + 1)).toNat).beq
                                      0 &&
                                    a2),
                                (List.take a3.length a3 ++ [x], false), PUnit.unit) <
                            muLc (a0, (a1, a2), (a3, a4), ())))
                        (guardB
                          (bif
                              decide
                                ((minV (List.take a1.length a1) 0 0).toNat - 0 +
                                    ((↑a1.length : Int).toNat -
                                      (IntKind.i64.wrap (minV (List.take a1.length a1) 0 0 + 1)).toNat) =
                                  (List.take ((minV (List.take a1.length a1) 0 0).toNat - 0) a1 ++
                                      List.take
                                        ((↑a1.length : Int).toNat -
                                          (IntKind.i64.wrap (minV (List.take a1.length a1) 0 0 + 1)).toNat)
                                        (List.drop
                                          (0 + (IntKind.i64.wrap (minV (List.take a1.length a1) 0 0 + 1)).toNat)
                                          a1)).length) then
                            bif decide (a3.length + 1 = (List.take a3.length a3 ++ [x]).length) then
                              preLc a0
                                (List.take ((minV (List.take a1.length a1) 0 0).toNat - 0) a1 ++
                                  List.take
                                    ((↑a1.length : Int).toNat -
                                      (IntKind.i64.wrap (minV (List.take a1.length a1) 0 0 + 1)).toNat)
                                    (List.drop (0 + (IntKind.i64.wrap (minV (List.take a1.length a1) 0 0 + 1)).toNat)
                                      a1))
                                (List.take a3.length a3 ++ [x])
                            else false
                          else false)
                          (some
                            (Xt.exit 2,
                              [PV.sl 2 0 6
                                  (dd a0 (List.take a3.length a3 ++ [x])
                                      (srtS
                                        (List.take ((minV (List.take a1.length a1) 0 0).toNat - 0) a1 ++
                                          List.take
                                            ((↑a1.length : Int).toNat -
                                              (IntKind.i64.wrap (minV (List.take a1.length a1) 0 0 + 1)).toNat)
                                            (List.drop
                                              (0 + (IntKind.i64.wrap (minV (List.take a1.length a1) 0 0 + 1)).toNat)
                                              a1)))).length
                                  (dd a0 (List.take a3.length a3 ++ [x])
                                      (srtS
                                        (List.take ((minV (List.take a1.length a1) 0 0).toNat - 0) a1 ++
                                          List.take
                                            ((↑a1.length : Int).toNat -
                                              (IntKind.i64.wrap (minV (List.take a1.length a1) 0 0 + 1)).toNat)
                                            (List.drop
                                              (0 + (IntKind.i64.wrap (minV (List.take a1.length a1) 0 0 + 1)).toNat)
                                              a1)))).length
                                  false false],
                              [Blk.dead, Blk.dead,
                                Blk.row true
                                  ((Kd.int IntKind.i64).pair
                                    (((Kd.int IntKind.i64).pair (Kd.int IntKind.i64)).pair
                                      ((Kd.int IntKind.i64).pair ((Kd.int IntKind.i64).pair (Kd.int IntKind.i64)))))
                                  (dd a0 (List.take a3.length a3 ++ [x])
                                    (srtS
                                      (List.take ((minV (List.take a1.length a1) 0 0).toNat - 0) a1 ++
                                        List.take
                                          ((↑a1.length : Int).toNat -
                                            (IntKind.i64.wrap (minV (List.take a1.length a1) 0 0 + 1)).toNat)
                                          (List.drop
                                            (0 + (IntKind.i64.wrap (minV (List.take a1.length a1) 0 0 + 1)).toNat)
                                            a1))))]))))
                  else
                    guardB
                      (decide
                        (muLc
                            (a0,
                              (List.take ((minV (List.take a1.length a1) 0 0).toNat - 0) a1 ++
                                  List.take
                                    ((↑a1.length : Int).toNat -
                                      (IntKind.i64.wrap (minV (List.take a1.length a1) 0 0 + 1)).toNat)
                                    (List.drop (0 + (IntKind.i64.wrap (minV (List.take a1.length a1) 0 0 + 1)).toNat)
                                      a1),
                                ((↑a1.length : Int).toNat -
                                        (IntKind.i64.wrap (minV (List.take a1.length a1) 0 0 + 1)).toNat).beq
                                    0 &&
                                  a2),
                              (a3, a4), PUnit.unit) <
                          muLc (a0, (a1, a2), (a3, a4), ())))
                      (guardB
                        (bif
                            decide
                              ((minV (List.take a1.length a1) 0 0).toNat - 0 +
                                  ((↑a1.length : Int).toNat -
                                    (IntKind.i64.wrap (minV (List.take a1.length a1) 0 0 + 1)).toNat) =
                                (List.take ((minV (List.take a1.length a1) 0 0).toNat - 0) a1 ++
                                    List.take
                                      ((↑a1.length : Int).toNat -
                                        (IntKind.i64.wrap (minV (List.take a1.length a1) 0 0 + 1)).toNat)
                                      (List.drop (0 + (IntKind.i64.wrap (minV (List.take a1.length a1) 0 0 + 1)).toNat)
                                        a1)).length) then
                          bif decide (a3.length = a3.length) then
                            preLc a0
                              (List.take ((minV (List.take a1.length a1) 0 0).toNat - 0) a1 ++
                                List.take
                                  ((↑a1.length : Int).toNat -
                                    (IntKind.i64.wrap (minV (List.take a1.length a1) 0 0 + 1)).toNat)
                                  (List.drop (0 + (IntKind.i64.wrap (minV (List.take a1.length a1) 0 0 + 1)).toNat) a1))
                              a3
                          else false
                        else false)
                        (some
                          (Xt.exit 2,
                            [PV.sl 2 0 6
                                (dd a0 a3
                                    (srtS
                                      (List.take ((minV (List.take a1.length a1) 0 0).toNat - 0) a1 ++
                                        List.take
                                          ((↑a1.length : Int).toNat -
                                            (IntKind.i64.wrap (minV (List.take a1.length a1) 0 0 + 1)).toNat)
                                          (List.drop
                                            (0 + (IntKind.i64.wrap (minV (List.take a1.length a1) 0 0 + 1)).toNat)
                                            a1)))).length
                                (dd a0 a3
                                    (srtS
                                      (List.take ((minV (List.take a1.length a1) 0 0).toNat - 0) a1 ++
                                        List.take
                                          ((↑a1.length : Int).toNat -
                                            (IntKind.i64.wrap (minV (List.take a1.length a1) 0 0 + 1)).toNat)
                                          (List.drop
                                            (0 + (IntKind.i64.wrap (minV (List.take a1.length a1) 0 0 + 1)).toNat)
                                            a1)))).length
                                false
                                (a4 &&
                                  decide
                                    ((dd a0 a3
                                          (srtS
                                            (List.take ((minV (List.take a1.length a1) 0 0).toNat - 0) a1 ++
                                              List.take
                                                ((↑a1.length : Int).toNat -
                                                  (IntKind.i64.wrap (minV (List.take a1.length a1) 0 0 + 1)).toNat)
                                                (List.drop
                                                  (0 + (IntKind.i64.wrap (minV (List.take a1.length a1) 0 0 + 1)).toNat)
                                                  a1)))).length =
                                      a3.length))],
                            [Blk.dead, Blk.dead,
                              Blk.row true
                                ((Kd.int IntKind.i64).pair
                                  (((Kd.int IntKind.i64).pair (Kd.int IntKind.i64)).pair
                                    ((Kd.int IntKind.i64).pair ((Kd.int IntKind.i64).pair (Kd.int IntKind.i64)))))
                                (dd a0 a3
                                  (srtS
                                    (List.take ((minV (List.take a1.length a1) 0 0).toNat - 0) a1 ++
                                      List.take
                                        ((↑a1.length : Int).toNat -
                                          (IntKind.i64.wrap (minV (List.take a1.length a1) 0 0 + 1)).toNat)
                                        (List.drop
                                          (0 + (IntKind.i64.wrap (minV (List.take a1.length a1) 0 0 + 1)).toNat)
                                          a1))))])))))))))
else
  some
    (Xt.exit 2, [PV.sl 2 0 6 a3.length a3.length false a4],
      [Blk.dead, Blk.dead,
        Blk.row true
          ((Kd.int IntKind.i64).pair
            (((Kd.int IntKind.i64).pair (Kd.int IntKind.i64)).pair
              ((Kd.int IntKind.i64).pair ((Kd.int IntKind.i64).pair (Kd.int IntKind.i64)))))
          a3])) := by kernel_rfl
noncomputable abbrev z14iL (a0 : List (Int × (Int × Int) × Int × Int × Int)) (a1 : Bool) (a2 : List (Int × (Int × Int) × Int × Int × Int)) (a3 : Bool) (a4 : Int) (a5 : Int) := evRound Try.prog Z6 noCuts 200 (loopOf (codeAt 8 (bodyF Try.f14))) kLi muLi (killA 0 kLi) [7, 12, 186, 187] [4] cLi ((a0, a1), ((a2, a3), (a4, (a5, ()))))
theorem z14i (a0 : List (Int × (Int × Int) × Int × Int × Int)) (a1 : Bool) (a2 : List (Int × (Int × Int) × Int × Int × Int)) (a3 : Bool) (a4 : Int) (a5 : Int) : z14iL a0 a1 a2 a3 a4 a5 = (bif decide (a5 < a4) then
  guardB (decide (0 ≤ a5) && decide (a5 < (↑a0.length : Int)))
    (bindO a0[0 + a5.toNat]? fun x =>
      guardB (decide (0 ≤ a5) && decide (a5 < (↑a2.length : Int)))
        (bindO a2[0 + a5.toNat]? fun x_1 =>
          bif
              !(x.fst == x_1.fst &&
                  (x.snd.fst.fst == x_1.snd.fst.fst && (x.snd.fst.snd == x_1.snd.fst.snd && true) &&
                    (x.snd.snd.fst == x_1.snd.snd.fst &&
                      (x.snd.snd.snd.fst == x_1.snd.snd.snd.fst &&
                        (x.snd.snd.snd.snd == x_1.snd.snd.snd.snd && true))))) then
            some
              (Xt.ret, [PV.sc (Value.bool false)],
                [Blk.row false
                    ((Kd.int IntKind.i64).pair
                      (((Kd.int IntKind.i64).pair (Kd.int IntKind.i64)).pair
                        ((Kd.int IntKind.i64).pair ((Kd.int IntKind.i64).pair (Kd.int IntKind.i64)))))
                    a0,
                  Blk.row false
                    ((Kd.int IntKind.i64).pair
                      (((Kd.int IntKind.i64).pair (Kd.int IntKind.i64)).pair
                        ((Kd.int IntKind.i64).pair ((Kd.int IntKind.i64).pair (Kd.int IntKind.i64)))))
                    a2])
          else
            guardB
              (decide
                (muLi
                    ((List.take a0.length a0, a1), (List.take a2.length a2, a3), a4, IntKind.i64.wrap (a5 + 1),
                      PUnit.unit) <
                  muLi ((a0, a1), (a2, a3), a4, a5, ())))
              (guardB
                (bif decide (0 + a0.length ≤ a0.length) then
                  bif decide (0 + a2.length ≤ a2.length) then
                    preLi (List.take a0.length a0) (List.take a2.length a2) a4 (IntKind.i64.wrap (a5 + 1))
                  else false
                else false)
                (bif
                    bp
                      (List.drop (IntKind.i64.wrap (a5 + 1)).toNat (List.take a0.length a0) =
                        List.drop (IntKind.i64.wrap (a5 + 1)).toNat (List.take a2.length a2)) then
                  some
                    (Xt.exit 8, [PV.undef],
                      [Blk.row false
                          ((Kd.int IntKind.i64).pair
                            (((Kd.int IntKind.i64).pair (Kd.int IntKind.i64)).pair
                              ((Kd.int IntKind.i64).pair ((Kd.int IntKind.i64).pair (Kd.int IntKind.i64)))))
                          a0,
                        Blk.row false
                          ((Kd.int IntKind.i64).pair
                            (((Kd.int IntKind.i64).pair (Kd.int IntKind.i64)).pair
                              ((Kd.int IntKind.i64).pair ((Kd.int IntKind.i64).pair (Kd.int IntKind.i64)))))
                          a2])
                else
                  some
                    (Xt.ret, [PV.sc (Value.bool false)],
                      [Blk.row false
                          ((Kd.int IntKind.i64).pair
                            (((Kd.int IntKind.i64).pair (Kd.int IntKind.i64)).pair
                              ((Kd.int IntKind.i64).pair ((Kd.int IntKind.i64).pair (Kd.int IntKind.i64)))))
                          a0,
                        Blk.row false
                          ((Kd.int IntKind.i64).pair
                            (((Kd.int IntKind.i64).pair (Kd.int IntKind.i64)).pair
                              ((Kd.int IntKind.i64).pair ((Kd.int IntKind.i64).pair (Kd.int IntKind.i64)))))
                          a2])))))
else
  some
    (Xt.exit 8, [PV.undef],
      [Blk.row false
          ((Kd.int IntKind.i64).pair
            (((Kd.int IntKind.i64).pair (Kd.int IntKind.i64)).pair
              ((Kd.int IntKind.i64).pair ((Kd.int IntKind.i64).pair (Kd.int IntKind.i64)))))
          a0,
        Blk.row false
          ((Kd.int IntKind.i64).pair
            (((Kd.int IntKind.i64).pair (Kd.int IntKind.i64)).pair
              ((Kd.int IntKind.i64).pair ((Kd.int IntKind.i64).pair (Kd.int IntKind.i64)))))
          a2])) := by kernel_rfl
noncomputable abbrev z14L (a0 : List (Int × (Int × Int) × Int × Int × Int)) (a1 : Bool) (a2 : Int) := evFuncV Try.prog Z6 (addCut 0 [7, 8, 52, 53, 54] [4] (entC kLa cLa)
  (addCut 2 [1, 11, 12] [12] (entC kLc cLc) (addCut 8 [7, 12, 186, 187] [4] (entC kLi cLi) noCuts))) Try.f14 (killA 0 [rSp, sI]) (showA 0 [rSp, sI] ((a0, a1), (a2, ()))).1 (showA 0 [rSp, sI] ((a0, a1), (a2, ()))).2
theorem z14 (a0 : List (Int × (Int × Int) × Int × Int × Int)) (a1 : Bool) (a2 : Int) : z14L a0 a1 a2 = (bif (↑(spL [(0, (0, 0), 0, 5, 2), (0, (0, 0), 0, 5, 1)] 0).length : Int) != 1 then
  some
    (PV.sc (Value.bool false),
      [Blk.row false
          ((Kd.int IntKind.i64).pair
            (((Kd.int IntKind.i64).pair (Kd.int IntKind.i64)).pair
              ((Kd.int IntKind.i64).pair ((Kd.int IntKind.i64).pair (Kd.int IntKind.i64)))))
          a0])
else
  guardB (decide (0 < (↑(spL [(0, (0, 0), 0, 5, 2), (0, (0, 0), 0, 5, 1)] 0).length : Int)))
    (bindO (spL [(0, (0, 0), 0, 5, 2), (0, (0, 0), 0, 5, 1)] 0)[0]? fun x =>
      bif x.snd.snd.snd.snd != 1 then
        some
          (PV.sc (Value.bool false),
            [Blk.row false
                ((Kd.int IntKind.i64).pair
                  (((Kd.int IntKind.i64).pair (Kd.int IntKind.i64)).pair
                    ((Kd.int IntKind.i64).pair ((Kd.int IntKind.i64).pair (Kd.int IntKind.i64)))))
                a0])
      else
        bif decide ((↑a0.length : Int) > 20) then
          guardB (decide (20 ≤ (↑a0.length : Int)))
            (guardB (bif decide (20 ≤ a0.length) then !a1 || decide ((List.take 20 a0).length = 0) else false)
              (bif decide (spE (List.take 20 a0) a2 = 0) then
                guardB
                  (bif decide (0 + (spL (List.take 20 a0) a2).length ≤ (spL (List.take 20 a0) a2).length) then
                    bif decide (20 ≤ a0.length) then pre65a (List.take 20 a0) 20 0 else false
                  else false)
                  (bif okS (List.drop (Int.toNat 0) (List.take 20 a0)) then
                    bif !inS a2 0 60000 then
                      some
                        (PV.sc (Value.bool false),
                          [Blk.row false
                              ((Kd.int IntKind.i64).pair
                                (((Kd.int IntKind.i64).pair (Kd.int IntKind.i64)).pair
                                  ((Kd.int IntKind.i64).pair ((Kd.int IntKind.i64).pair (Kd.int IntKind.i64)))))
                              a0])
                    else
                      guardB (decide (20 ≤ a0.length) && true && true)
                        (guardB
                          (bif decide (20 = (List.take 20 a0).length) then preLc a2 (List.take 20 a0) [] else false)
                          (bif
                              (↑(spL (List.take 20 a0) a2).length : Int) !=
                                (↑(dd a2 [] (srtS (List.take 20 a0))).length : Int) then
                            some
                              (PV.sc (Value.bool false),
                                [Blk.row false
                                    ((Kd.int IntKind.i64).pair
                                      (((Kd.int IntKind.i64).pair (Kd.int IntKind.i64)).pair
                                        ((Kd.int IntKind.i64).pair ((Kd.int IntKind.i64).pair (Kd.int IntKind.i64)))))
                                    a0])
                          else
                            guardB
                              (bif
                                  decide
                                    (0 + (spL (List.take 20 a0) a2).length ≤ (spL (List.take 20 a0) a2).length) then
                                bif
                                    decide
                                      (0 + (dd a2 [] (srtS (List.take 20 a0))).length ≤
                                        (dd a2 [] (srtS (List.take 20 a0))).length) then
                                  preLi (List.take (spL (List.take 20 a0) a2).length (spL (List.take 20 a0) a2))
                                    (List.take (dd a2 [] (srtS (List.take 20 a0))).length
                                      (dd a2 [] (srtS (List.take 20 a0))))
                                    (↑(spL (List.take 20 a0) a2).length : Int) 0
                                else false
                              else false)
                              (bif
                                  bp
                                    (List.drop (Int.toNat 0)
                                        (List.take (spL (List.take 20 a0) a2).length (spL (List.take 20 a0) a2)) =
                                      List.drop (Int.toNat 0)
                                        (List.take (dd a2 [] (srtS (List.take 20 a0))).length
                                          (dd a2 [] (srtS (List.take 20 a0))))) then
                                some
                                  (PV.sc (Value.bool true),
                                    [Blk.row false
                                        ((Kd.int IntKind.i64).pair
                                          (((Kd.int IntKind.i64).pair (Kd.int IntKind.i64)).pair
                                            ((Kd.int IntKind.i64).pair
                                              ((Kd.int IntKind.i64).pair (Kd.int IntKind.i64)))))
                                        a0])
                              else
                                some
                                  (PV.sc (Value.bool false),
                                    [Blk.row false
                                        ((Kd.int IntKind.i64).pair
                                          (((Kd.int IntKind.i64).pair (Kd.int IntKind.i64)).pair
                                            ((Kd.int IntKind.i64).pair
                                              ((Kd.int IntKind.i64).pair (Kd.int IntKind.i64)))))
                                        a0]))))
                  else
                    some
                      (PV.sc (Value.bool false),
                        [Blk.row false
                            ((Kd.int IntKind.i64).pair
                              (((Kd.int IntKind.i64).pair (Kd.int IntKind.i64)).pair
                                ((Kd.int IntKind.i64).pair ((Kd.int IntKind.i64).pair (Kd.int IntKind.i64)))))
                            a0]))
              else
                guardB (bif decide (20 ≤ a0.length) then pre65a (List.take 20 a0) 20 0 else false)
                  (bif okS (List.drop (Int.toNat 0) (List.take 20 a0)) then
                    bif !inS a2 0 60000 then
                      bif spE (List.take 20 a0) a2 == 4 then
                        some
                          (PV.sc (Value.bool true),
                            [Blk.row false
                                ((Kd.int IntKind.i64).pair
                                  (((Kd.int IntKind.i64).pair (Kd.int IntKind.i64)).pair
                                    ((Kd.int IntKind.i64).pair ((Kd.int IntKind.i64).pair (Kd.int IntKind.i64)))))
                                a0])
                      else
                        some
                          (PV.sc (Value.bool false),
                            [Blk.row false
                                ((Kd.int IntKind.i64).pair
                                  (((Kd.int IntKind.i64).pair (Kd.int IntKind.i64)).pair
                                    ((Kd.int IntKind.i64).pair ((Kd.int IntKind.i64).pair (Kd.int IntKind.i64)))))
                                a0])
                    else
                      guardB (decide (20 ≤ a0.length) && true && true)
                        (guardB
                          (bif decide (20 = (List.take 20 a0).length) then preLc a2 (List.take 20 a0) [] else false)
                          (bif spE (List.take 20 a0) a2 != 0 then
                            some
                              (PV.sc (Value.bool false),
                                [Blk.row false
                                    ((Kd.int IntKind.i64).pair
                                      (((Kd.int IntKind.i64).pair (Kd.int IntKind.i64)).pair
                                        ((Kd.int IntKind.i64).pair ((Kd.int IntKind.i64).pair (Kd.int IntKind.i64)))))
                                    a0])
                          else
                            bif 0 != (↑(dd a2 [] (srtS (List.take 20 a0))).length : Int) then
                              some
                                (PV.sc (Value.bool false),
                                  [Blk.row false
                                      ((Kd.int IntKind.i64).pair
                                        (((Kd.int IntKind.i64).pair (Kd.int IntKind.i64)).pair
                                          ((Kd.int IntKind.i64).pair ((Kd.int IntKind.i64).pair (Kd.int IntKind.i64)))))
                                      a0])
                            else
                              guardB
                                (bif
                                    decide
                                      (0 + (dd a2 [] (srtS (List.take 20 a0))).length ≤
                                        (dd a2 [] (srtS (List.take 20 a0))).length) then
                                  preLi []
                                    (List.take (dd a2 [] (srtS (List.take 20 a0))).length
                                      (dd a2 [] (srtS (List.take 20 a0))))
                                    0 0
                                else false)
                                (bif
                                    bp
                                      (List.drop (Int.toNat 0) [] =
                                        List.drop (Int.toNat 0)
                                          (List.take (dd a2 [] (srtS (List.take 20 a0))).length
                                            (dd a2 [] (srtS (List.take 20 a0))))) then
                                  some
                                    (PV.sc (Value.bool true),
                                      [Blk.row false
                                          ((Kd.int IntKind.i64).pair
                                            (((Kd.int IntKind.i64).pair (Kd.int IntKind.i64)).pair
                                              ((Kd.int IntKind.i64).pair
                                                ((Kd.int IntKind.i64).pair (Kd.int IntKind.i64)))))
                                          a0])
                                else
                                  some
                                    (PV.sc (Value.bool false),
                                      [Blk.row false
                                          ((Kd.int IntKind.i64).pair
                                            (((Kd.int IntKind.i64).pair (Kd.int IntKind.i64)).pair
                                              ((Kd.int IntKind.i64).pair
                                                ((Kd.int IntKind.i64).pair (Kd.int IntKind.i64)))))
                                          a0]))))
                  else
                    some
                      (PV.sc (Value.bool (lawR [] (spE (List.take 20 a0) a2) 4)),
                        [Blk.row false
                            ((Kd.int IntKind.i64).pair
                              (((Kd.int IntKind.i64).pair (Kd.int IntKind.i64)).pair
                                ((Kd.int IntKind.i64).pair ((Kd.int IntKind.i64).pair (Kd.int IntKind.i64)))))
                            a0]))))
        else
          guardB
            (bif decide (0 + a0.length ≤ a0.length) then !a1 || decide ((List.take a0.length a0).length = 0) else false)
            (bif decide (spE (List.take a0.length a0) a2 = 0) then
              guardB
                (bif
                    decide
                      (0 + (spL (List.take a0.length a0) a2).length ≤ (spL (List.take a0.length a0) a2).length) then
                  bif decide (0 + a0.length ≤ a0.length) then pre65a (List.take a0.length a0) (↑a0.length : Int) 0
                  else false
                else false)
                (bif okS (List.drop (Int.toNat 0) (List.take a0.length a0)) then
                  bif !inS a2 0 60000 then
                    some
                      (PV.sc (Value.bool false),
                        [Blk.row false
                            ((Kd.int IntKind.i64).pair
                              (((Kd.int IntKind.i64).pair (Kd.int IntKind.i64)).pair
                                ((Kd.int IntKind.i64).pair ((Kd.int IntKind.i64).pair (Kd.int IntKind.i64)))))
                            a0])
                  else
                    guardB
                      (decide (0 + a0.length ≤ a0.length) && decide ((0 + a0.length) * 48 ≤ 140737488355328) &&
                        decide (0 + a0.length ≤ 4611686018427387904))
                      (bif decide (1 ≤ a0.length) then
                        guardB
                          (bif decide (0 + a0.length = (List.take a0.length a0).length) then
                            preLc a2 (List.take a0.length a0) []
                          else false)
                          (bif
                              (↑(spL (List.take a0.length a0) a2).length : Int) !=
                                (↑(dd a2 [] (srtS (List.take a0.length a0))).length : Int) then
                            some
                              (PV.sc (Value.bool false),
                                [Blk.row false
                                    ((Kd.int IntKind.i64).pair
                                      (((Kd.int IntKind.i64).pair (Kd.int IntKind.i64)).pair
                                        ((Kd.int IntKind.i64).pair ((Kd.int IntKind.i64).pair (Kd.int IntKind.i64)))))
                                    a0])
                          else
                            guardB
                              (bif
                                  decide
                                    (0 + (spL (List.take a0.length a0) a2).length ≤
                                      (spL (List.take a0.length a0) a2).length) then
                                bif
                                    decide
                                      (0 + (dd a2 [] (srtS (List.take a0.length a0))).length ≤
                                        (dd a2 [] (srtS (List.take a0.length a0))).length) then
                                  preLi
                                    (List.take (spL (List.take a0.length a0) a2).length
                                      (spL (List.take a0.length a0) a2))
                                    (List.take (dd a2 [] (srtS (List.take a0.length a0))).length
                                      (dd a2 [] (srtS (List.take a0.length a0))))
                                    (↑(spL (List.take a0.length a0) a2).length : Int) 0
                                else false
                              else false)
                              (bif
                                  bp
                                    (List.drop (Int.toNat 0)
                                        (List.take (spL (List.take a0.length a0) a2).length
                                          (spL (List.take a0.length a0) a2)) =
                                      List.drop (Int.toNat 0)
                                        (List.take (dd a2 [] (srtS (List.take a0.length a0))).length
                                          (dd a2 [] (srtS (List.take a0.length a0))))) then
                                some
                                  (PV.sc (Value.bool true),
                                    [Blk.row false
                                        ((Kd.int IntKind.i64).pair
                                          (((Kd.int IntKind.i64).pair (Kd.int IntKind.i64)).pair
                                            ((Kd.int IntKind.i64).pair
                                              ((Kd.int IntKind.i64).pair (Kd.int IntKind.i64)))))
                                        a0])
                              else
                                some
                                  (PV.sc (Value.bool false),
                                    [Blk.row false
                                        ((Kd.int IntKind.i64).pair
                                          (((Kd.int IntKind.i64).pair (Kd.int IntKind.i64)).pair
                                            ((Kd.int IntKind.i64).pair
                                              ((Kd.int IntKind.i64).pair (Kd.int IntKind.i64)))))
                                        a0])))
                      else
                        guardB
                          (bif decide (0 + a0.length = (List.take a0.length a0).length) then
                            preLc a2 (List.take a0.length a0) []
                          else false)
                          (bif
                              (↑(spL (List.take a0.length a0) a2).length : Int) !=
                                (↑(dd a2 [] (srtS (List.take a0.length a0))).length : Int) then
                            some
                              (PV.sc (Value.bool false),
                                [Blk.row false
                                    ((Kd.int IntKind.i64).pair
                                      (((Kd.int IntKind.i64).pair (Kd.int IntKind.i64)).pair
                                        ((Kd.int IntKind.i64).pair ((Kd.int IntKind.i64).pair (Kd.int IntKind.i64)))))
                                    a0])
                          else
                            guardB
                              (bif
                                  decide
                                    (0 + (spL (List.take a0.length a0) a2).length ≤
                                      (spL (List.take a0.length a0) a2).length) then
                                bif
                                    decide
                                      (0 + (dd a2 [] (srtS (List.take a0.length a0))).length ≤
                                        (dd a2 [] (srtS (List.take a0.length a0))).length) then
                                  preLi
                                    (List.take (spL (List.take a0.length a0) a2).length
                                      (spL (List.take a0.length a0) a2))
                                    (List.take (dd a2 [] (srtS (List.take a0.length a0))).length
                                      (dd a2 [] (srtS (List.take a0.length a0))))
                                    (↑(spL (List.take a0.length a0) a2).length : Int) 0
                                else false
                              else false)
                              (bif
                                  bp
                                    (List.drop (Int.toNat 0)
                                        (List.take (spL (List.take a0.length a0) a2).length
                                          (spL (List.take a0.length a0) a2)) =
                                      List.drop (Int.toNat 0)
                                        (List.take (dd a2 [] (srtS (List.take a0.length a0))).length
                                          (dd a2 [] (srtS (List.take a0.length a0))))) then
                                some
                                  (PV.sc (Value.bool true),
                                    [Blk.row false
                                        ((Kd.int IntKind.i64).pair
                                          (((Kd.int IntKind.i64).pair (Kd.int IntKind.i64)).pair
                                            ((Kd.int IntKind.i64).pair
                                              ((Kd.int IntKind.i64).pair (Kd.int IntKind.i64)))))
                                        a0])
                              else
                                some
                                  (PV.sc (Value.bool false),
                                    [Blk.row false
                                        ((Kd.int IntKind.i64).pair
                                          (((Kd.int IntKind.i64).pair (Kd.int IntKind.i64)).pair
                                            ((Kd.int IntKind.i64).pair
                                              ((Kd.int IntKind.i64).pair (Kd.int IntKind.i64)))))
                                        a0]))))
                else
                  some
                    (PV.sc (Value.bool false),
                      [Blk.row false
                          ((Kd.int IntKind.i64).pair
                            (((Kd.int IntKind.i64).pair (Kd.int IntKind.i64)).pair
                              ((Kd.int IntKind.i64).pair ((Kd.int IntKind.i64).pair (Kd.int IntKind.i64)))))
                          a0]))
            else
              guardB
                (bif decide (0 + a0.length ≤ a0.length) then pre65a (List.take a0.length a0) (↑a0.length : Int) 0
                else false)
                (bif okS (List.drop (Int.toNat 0) (List.take a0.length a0)) then
                  bif !inS a2 0 60000 then
                    bif spE (List.take a0.length a0) a2 == 4 then
                      some
                        (PV.sc (Value.bool true),
                          [Blk.row false
                              ((Kd.int IntKind.i64).pair
                                (((Kd.int IntKind.i64).pair (Kd.int IntKind.i64)).pair
                                  ((Kd.int IntKind.i64).pair ((Kd.int IntKind.i64).pair (Kd.int IntKind.i64)))))
                              a0])
                    else
                      some
                        (PV.sc (Value.bool false),
                          [Blk.row false
                              ((Kd.int IntKind.i64).pair
                                (((Kd.int IntKind.i64).pair (Kd.int IntKind.i64)).pair
                                  ((Kd.int IntKind.i64).pair ((Kd.int IntKind.i64).pair (Kd.int IntKind.i64)))))
                              a0])
                  else
                    guardB
                      (decide (0 + a0.length ≤ a0.length) && decide ((0 + a0.length) * 48 ≤ 140737488355328) &&
                        decide (0 + a0.length ≤ 4611686018427387904))
                      (bif decide (1 ≤ a0.length) then
                        guardB
                          (bif decide (0 + a0.length = (List.take a0.length a0).length) then
                            preLc a2 (List.take a0.length a0) []
                          else false)
                          (bif spE (List.take a0.length a0) a2 != 0 then
                            some
                              (PV.sc (Value.bool false),
                                [Blk.row false
                                    ((Kd.int IntKind.i64).pair
                                      (((Kd.int IntKind.i64).pair (Kd.int IntKind.i64)).pair
                                        ((Kd.int IntKind.i64).pair ((Kd.int IntKind.i64).pair (Kd.int IntKind.i64)))))
                                    a0])
                          else
                            bif 0 != (↑(dd a2 [] (srtS (List.take a0.length a0))).length : Int) then
                              some
                                (PV.sc (Value.bool false),
                                  [Blk.row false
                                      ((Kd.int IntKind.i64).pair
                                        (((Kd.int IntKind.i64).pair (Kd.int IntKind.i64)).pair
                                          ((Kd.int IntKind.i64).pair ((Kd.int IntKind.i64).pair (Kd.int IntKind.i64)))))
                                      a0])
                            else
                              guardB
                                (bif
                                    decide
                                      (0 + (dd a2 [] (srtS (List.take a0.length a0))).length ≤
                                        (dd a2 [] (srtS (List.take a0.length a0))).length) then
                                  preLi []
                                    (List.take (dd a2 [] (srtS (List.take a0.length a0))).length
                                      (dd a2 [] (srtS (List.take a0.length a0))))
                                    0 0
                                else false)
                                (bif
                                    bp
                                      (List.drop (Int.toNat 0) [] =
                                        List.drop (Int.toNat 0)
                                          (List.take (dd a2 [] (srtS (List.take a0.length a0))).length
                                            (dd a2 [] (srtS (List.take a0.length a0))))) then
                                  some
                                    (PV.sc (Value.bool true),
                                      [Blk.row false
                                          ((Kd.int IntKind.i64).pair
                                            (((Kd.int IntKind.i64).pair (Kd.int IntKind.i64)).pair
                                              ((Kd.int IntKind.i64).pair
                                                ((Kd.int IntKind.i64).pair (Kd.int IntKind.i64)))))
                                          a0])
                                else
                                  some
                                    (PV.sc (Value.bool false),
                                      [Blk.row false
                                          ((Kd.int IntKind.i64).pair
                                            (((Kd.int IntKind.i64).pair (Kd.int IntKind.i64)).pair
                                              ((Kd.int IntKind.i64).pair
                                                ((Kd.int IntKind.i64).pair (Kd.int IntKind.i64)))))
                                          a0])))
                      else
                        guardB
                          (bif decide (0 + a0.length = (List.take a0.length a0).length) then
                            preLc a2 (List.take a0.length a0) []
                          else false)
                          (bif spE (List.take a0.length a0) a2 != 0 then
                            some
                              (PV.sc (Value.bool false),
                                [Blk.row false
                                    ((Kd.int IntKind.i64).pair
                                      (((Kd.int IntKind.i64).pair (Kd.int IntKind.i64)).pair
                                        ((Kd.int IntKind.i64).pair ((Kd.int IntKind.i64).pair (Kd.int IntKind.i64)))))
                                    a0])
                          else
                            bif 0 != (↑(dd a2 [] (srtS (List.take a0.length a0))).length : Int) then
                              some
                                (PV.sc (Value.bool false),
                                  [Blk.row false
                                      ((Kd.int IntKind.i64).pair
                                        (((Kd.int IntKind.i64).pair (Kd.int IntKind.i64)).pair
                                          ((Kd.int IntKind.i64).pair ((Kd.int IntKind.i64).pair (Kd.int IntKind.i64)))))
                                      a0])
                            else
                              guardB
                                (bif
                                    decide
                                      (0 + (dd a2 [] (srtS (List.take a0.length a0))).length ≤
                                        (dd a2 [] (srtS (List.take a0.length a0))).length) then
                                  preLi []
                                    (List.take (dd a2 [] (srtS (List.take a0.length a0))).length
                                      (dd a2 [] (srtS (List.take a0.length a0))))
                                    0 0
                                else false)
                                (bif
                                    bp
                                      (List.drop (Int.toNat 0) [] =
                                        List.drop (Int.toNat 0)
                                          (List.take (dd a2 [] (srtS (List.take a0.length a0))).length
                                            (dd a2 [] (srtS (List.take a0.length a0))))) then
                                  some
                                    (PV.sc (Value.bool true),
                                      [Blk.row false
                                          ((Kd.int IntKind.i64).pair
                                            (((Kd.int IntKind.i64).pair (Kd.int IntKind.i64)).pair
                                              ((Kd.int IntKind.i64).pair
                                                ((Kd.int IntKind.i64).pair (Kd.int IntKind.i64)))))
                                          a0])
                                else
                                  some
                                    (PV.sc (Value.bool false),
                                      [Blk.row false
                                          ((Kd.int IntKind.i64).pair
                                            (((Kd.int IntKind.i64).pair (Kd.int IntKind.i64)).pair
                                              ((Kd.int IntKind.i64).pair
                                                ((Kd.int IntKind.i64).pair (Kd.int IntKind.i64)))))
                                          a0]))))
                else
                  some
                    (PV.sc (Value.bool (lawR [] (spE (List.take a0.length a0) a2) 4)),
                      [Blk.row false
                          ((Kd.int IntKind.i64).pair
                            (((Kd.int IntKind.i64).pair (Kd.int IntKind.i64)).pair
                              ((Kd.int IntKind.i64).pair ((Kd.int IntKind.i64).pair (Kd.int IntKind.i64)))))
                          a0]))))) := by kernel_rfl
theorem lawR_at (out : List Sp') (e c : Int) {X : List Blk} : (bif e == c then some (Xt.ret, [PV.sc (.bool ((out.length : Int) == 0))], X) else some (Xt.ret, [PV.sc (.bool false)], X)) = some (Xt.ret, [PV.sc (.bool (lawR out e c))], X) := by
  unfold lawR
  rw [show (e == c) = decide (e = c) from rfl]
  cases decide (e = c) <;> rfl
abbrev R2 (l l2 : List Sp') : List Blk := [.row false kSpot l, .row false kSpot l2]
theorem q14a (out : List Sp') (on : Bool) (e : Int) (l : List Sp') (nl : Bool) (n k : Int) (h : pre65a l n k = true) :
    z14aL out on e l nl n k = cond (okS (l.drop k.toNat)) (some (.exit 0, [.undef], R2 out l)) (some (.ret, [.sc (.bool (lawR out e 4))], R2 out l)) := by
  obtain ⟨h1, h2, h3, h4⟩ := of_decide_eq_true h
  rw [z14a]
  simp only [List.take_length, Nat.zero_add, len_true, cond_true]
  refine cond_split (fun hk => ?_) (fun hk => ?_)
  · have hk := of_decide_eq_true hk
    obtain ⟨x, hx⟩ := get_ex (l := l) (k := k.toNat) (by omega)
    have hw : IntKind.i64.wrap (k + 1) = k + 1 := W_id _ (by omega) (by omega)
    rw [hx, hw, drop_cons hx, ok_cons]
    refine guard_split (by simp; omega) ?_
    simp only [bindO]
    refine cond_split (fun hc => ?_) (fun hc => ?_)
    · have hc : sE x ≠ 0 := by simpa using hc
      rw [decide_eq_false hc]
      exact lawR_at out e 4
    have hc : sE x = 0 := by simpa using hc
    rw [decide_eq_true hc, Bool.true_and, show k.toNat + 1 = (k + 1).toNat by omega]
    refine guard_split (decide_eq_true ?_) (guard_split (decide_eq_true ⟨h1, h2, by omega, by omega⟩) rfl)
    show (n - (k + 1)).toNat < (n - k).toNat
    omega
  · have hk := of_decide_eq_false hk
    rw [List.drop_eq_nil_of_le (by omega)]; rfl
theorem getD_of {l : List Sp'} {j : Nat} {x : Sp'} (h : l[j]? = some x) : l.getD j zSp = x := by rw [List.getD_eq_getElem?_getD, h]; rfl
theorem min_step {l : List Sp'} {k i : Int} {x y : Sp'} (h0 : 0 ≤ i) (hx : l[i.toNat]? = some x) (hy : l[k.toNat]? = some y) : minV l k i = bif decide (cmpS x y < 0) then minV l i (i + 1) else minV l k (i + 1) := by
  unfold minV
  have hl := (List.getElem?_eq_some_iff.1 hx).1
  rw [show l.length - i.toNat = (l.length - (i + 1).toNat) + 1 by omega, show (i + 1).toNat = i.toNat + 1 by omega]
  show ((minF l (l.length - (i.toNat + 1)) (i.toNat + 1) (bif decide (cmpS (l.getD i.toNat zSp) (l.getD k.toNat zSp) < 0) then i.toNat else k.toNat) : Nat) : Int) = _
  rw [getD_of hx, getD_of hy]
  cases decide (cmpS x y < 0) <;> rfl
theorem q14e (l : List Sp') (nl : Bool) (k n i : Int) (h : preLe l k n i = true) : z14eL l nl k n i = some (.exit 4, [.sc (.int .i64 (minV l k i))], [.row false kSpot l]) := by
  obtain ⟨h1, h2, h3, h4, h5, h6⟩ := of_decide_eq_true h
  rw [z14e]
  simp only [List.take_length, Nat.zero_add, len_true, cond_true]
  refine cond_split (fun hk => ?_) (fun hk => ?_)
  · have hk := of_decide_eq_true hk
    obtain ⟨x, hx⟩ := get_ex (l := l) (k := i.toNat) (by omega)
    obtain ⟨y, hy⟩ := get_ex (l := l) (k := k.toNat) (by omega)
    have hw : IntKind.i64.wrap (i + 1) = i + 1 := W_id _ (by omega) (by omega)
    rw [hx, hy, hw, min_step h5 hx hy]
    refine guard_split (by simp; omega) ?_
    simp only [bindO]
    refine guard_split (by simp; omega) ?_
    have hmu : ∀ a b : Int, decide (muLe ((l, nl), a, n, i + 1, PUnit.unit) < muLe ((l, nl), b, n, i, ())) = true := fun a b => decide_eq_true (show (n - (i + 1)).toNat < (n - i).toNat by omega)
    cases decide (cmpS x y < 0) with
    | true => exact guard_split (hmu _ _) (guard_split (decide_eq_true ⟨h1, h2, by omega, by omega, by omega, by omega⟩) rfl)
    | false => exact guard_split (hmu _ _) (guard_split (decide_eq_true ⟨h1, h2, by omega, by omega, by omega, by omega⟩) rfl)
  · have hk := of_decide_eq_false hk
    have : minV l k i = k := by unfold minV; rw [show l.length - i.toNat = 0 by omega]; show ((k.toNat : Nat) : Int) = k; omega
    rw [this]
abbrev BG (s : Sp') (l : List Sp') : List Blk := [.fix false (pvSp s), .row false kSpot l]
theorem q14g (b : Int) (s : Sp') (ag : Bool) (l : List Sp') (nl : Bool) (n k : Int) (h : pre65a l n k = true) :
    z14gL b s ag l nl n k = some (.exit 6, [.sc (.bool (ag || (l.drop k.toNat).any (lawQ s b)))], BG s l) := by
  obtain ⟨h1, h2, h3, h4⟩ := of_decide_eq_true h
  rw [z14g]
  simp only [List.take_length, Nat.zero_add, len_true, cond_true]
  refine cond_split (fun hk => ?_) (fun hk => ?_)
  · have hk := of_decide_eq_true hk
    obtain ⟨x, hx⟩ := get_ex (l := l) (k := k.toNat) (by omega)
    have hw : IntKind.i64.wrap (k + 1) = k + 1 := W_id _ (by omega) (by omega)
    rw [hx, hw, drop_cons hx, List.any_cons, show k.toNat + 1 = (k + 1).toNat by omega]
    refine guard_split (by simp; omega) ?_
    simp only [bindO]
    have hst : ∀ (a c : Bool) (Y : Option (Xt × List PV × List Blk)), (guardB (decide (muLg (b, s, a, (l, nl), n, k + 1, PUnit.unit) < muLg (b, s, c, (l, nl), n, k, ()))) (guardB (pre65a l n (k + 1)) Y)) = Y := fun a c Y => by
      rw [show decide (muLg (b, s, a, (l, nl), n, k + 1, PUnit.unit) < muLg (b, s, c, (l, nl), n, k, ())) = true from decide_eq_true (show (n - (k + 1)).toNat < (n - k).toNat by omega), show pre65a l n (k + 1) = true from decide_eq_true ⟨h1, h2, by omega, by omega⟩]; rfl
    simp only [hst]
    cases ag with
    | true => rfl
    | false =>
      simp only [cond_false, Bool.false_or]
      unfold lawQ
      rw [show (x.1 == s.1) = decide (x.1 = s.1) from rfl, show (x.2.2.2.1 == s.2.2.2.1) = decide (x.2.2.2.1 = s.2.2.2.1) from rfl]
      have hne : (s.2.2.2.1 != -1) = decide (s.2.2.2.1 ≠ -1) := by
        by_cases e : @Eq Int s.2.2.2.1 (-1)
        · rw [decide_eq_false (fun f => f e)]; simpa using e
        · rw [decide_eq_true e]; simpa using e
      rw [hne]
      cases decide (x.1 = s.1) with
      | false => rfl
      | true =>
        cases decide (x.2.2.2.1 = s.2.2.2.1) with
        | false => rfl
        | true =>
          cases decide (s.2.2.2.1 ≠ -1) with
          | false => rfl
          | true => cases decide (far x.2.1.1 x.2.1.2 s.2.1.1 s.2.1.2 ≤ W (W (x.2.2.2.2 + s.2.2.2.2) * W (x.2.2.2.2 + s.2.2.2.2))) <;> rfl
  · have hk := of_decide_eq_false hk
    rw [List.drop_eq_nil_of_le (by omega)]
    show _ = some (Xt.exit 6, [PV.sc (.bool (ag || false))], _)
    rw [Bool.or_false]
theorem eq6 (a1 a2 a3 a4 a5 a6 b1 b2 b3 b4 b5 b6 : Int) : (a1 == b1 && (a2 == b2 && (a3 == b3 && true) && (a4 == b4 && (a5 == b5 && (a6 == b6 && true))))) = true ↔ ((a1, (a2, a3), a4, a5, a6) : Int × (Int × Int) × Int × Int × Int) = (b1, (b2, b3), b4, b5, b6) := by
  simp [and_assoc]
theorem eq_at (x y : Sp') : (x.1 == y.1 && (x.2.1.1 == y.2.1.1 && (x.2.1.2 == y.2.1.2 && true) && (x.2.2.1 == y.2.2.1 && (x.2.2.2.1 == y.2.2.2.1 && (x.2.2.2.2 == y.2.2.2.2 && true))))) = bp (x = y) :=
  Bool.eq_iff_iff.2 ((eq6 x.1 x.2.1.1 x.2.1.2 x.2.2.1 x.2.2.2.1 x.2.2.2.2 y.1 y.2.1.1 y.2.1.2 y.2.2.1 y.2.2.2.1 y.2.2.2.2).trans bp_true.symm)
theorem bp_no {p : Prop} (h : ¬ p) : bp p = false := by
  cases hb : bp p with
  | false => rfl
  | true => exact absurd (bp_true.1 hb) h
theorem q14i (l : List Sp') (nl : Bool) (l2 : List Sp') (nl2 : Bool) (n k : Int) (h : preLi l l2 n k = true) : z14iL l nl l2 nl2 n k = cond (bp (l.drop k.toNat = l2.drop k.toNat)) (some (.exit 8, [.undef], R2 l l2)) (some (.ret, [.sc (.bool false)], R2 l l2)) := by
  obtain ⟨h1, h2, h3, h4, h5⟩ := of_decide_eq_true h
  rw [z14i]
  simp only [List.take_length, Nat.zero_add, len_true, cond_true]
  refine cond_split (fun hk => ?_) (fun hk => ?_)
  · have hk := of_decide_eq_true hk
    obtain ⟨x, hx⟩ := get_ex (l := l) (k := k.toNat) (by omega)
    obtain ⟨y, hy⟩ := get_ex (l := l2) (k := k.toNat) (by omega)
    have hw : IntKind.i64.wrap (k + 1) = k + 1 := W_id _ (by omega) (by omega)
    rw [hx, hy, hw, drop_cons hx, drop_cons hy, show k.toNat + 1 = (k + 1).toNat by omega]
    refine guard_split (by simp; omega) ?_
    simp only [bindO]
    refine guard_split (by simp; omega) ?_
    rw [eq_at x y]
    by_cases e : x = y
    · subst e
      rw [show bp (x = x) = true from bp_mk rfl, show bp (x :: l.drop (k + 1).toNat = x :: l2.drop (k + 1).toNat) = bp (l.drop (k + 1).toNat = l2.drop (k + 1).toNat) from Bool.eq_iff_iff.2 (by rw [bp_true, bp_true]; simp)]
      refine guard_split (decide_eq_true ?_) (guard_split (decide_eq_true ⟨h1, h2, h3, by omega, by omega⟩) rfl)
      show (n - (k + 1)).toNat < (n - k).toNat
      omega
    · rw [bp_no e, bp_no (fun f : x :: l.drop (k + 1).toNat = y :: l2.drop (k + 1).toNat => e (List.cons.inj f).1)]; rfl
  · have hk := of_decide_eq_false hk
    rw [List.drop_eq_nil_of_le (show l.length ≤ k.toNat by omega), List.drop_eq_nil_of_le (show l2.length ≤ k.toNat by omega), show bp (([] : List Sp') = []) = true from bp_mk rfl]; rfl
/-! ### The least one first -/
theorem min_at (l : List Sp') : ∀ (d i k : Nat), i + d = l.length → k < l.length → (∀ j, j < i → ∀ y, l[j]? = some y → cmpS (l.getD k zSp) y ≤ 0) → minF l d i k < l.length ∧ ∀ (j : Nat) (y : Sp'), l[j]? = some y → cmpS (l.getD (minF l d i k) zSp) y ≤ 0
  | 0, i, k, h, hk, hm => ⟨hk, fun j y hy => hm j (by have := (List.getElem?_eq_some_iff.1 hy).1; omega) y hy⟩
  | d + 1, i, k, h, hk, hm => by
    obtain ⟨x, hx⟩ := get_ex (l := l) (k := i) (by omega)
    rw [show minF l (d + 1) i k = minF l d (i + 1) (bif decide (cmpS (l.getD i zSp) (l.getD k zSp) < 0) then i else k) from rfl]
    cases hc : decide (cmpS (l.getD i zSp) (l.getD k zSp) < 0) with
    | true =>
      have hc := of_decide_eq_true hc
      have := min_at l d (i + 1) i (by omega) (by omega) (fun j hj y hy => by
        by_cases e : j = i
        · subst e; rw [getD_of hy, cmp_self]; decide
        · exact (cmp_trans (b := l.getD k zSp) (by omega) (hm j (by omega) y hy)).1)
      exact this
    | false =>
      have hc' := of_decide_eq_false hc
      have := min_at l d (i + 1) k (by omega) hk (fun j hj y hy => by
        by_cases e : j = i
        · subst e
          rw [getD_of hy] at hc'
          have := cmp_flip (l.getD k zSp) y
          omega
        · exact hm j (by omega) y hy)
      exact this
theorem srt_min {l : List Sp'} {m : Nat} {x : Sp'} (hx : l[m]? = some x) (hm : ∀ y ∈ l, cmpS x y ≤ 0) : srtS l = x :: srtS (l.take m ++ l.drop (m + 1)) := by
  have le_tr : ∀ a b c : Sp', (!decide (cmpS b a < 0)) = true → (!decide (cmpS c b < 0)) = true → (!decide (cmpS c a < 0)) = true := fun a b c h1 h2 => by
    have h1 : ¬ cmpS b a < 0 := by simpa using h1
    have h2 : ¬ cmpS c b < 0 := by simpa using h2
    have e1 := cmp_flip a b; have e2 := cmp_flip b c; have e3 := cmp_flip a c
    have := (cmp_trans (a := a) (b := b) (c := c) (by omega) (by omega)).1
    simp; omega
  have le_to : ∀ a b : Sp', (!decide (cmpS b a < 0) || !decide (cmpS a b < 0)) = true := fun a b => by
    have := cmp_flip a b
    simp; omega
  have p1 : (srtS l).Perm l := List.mergeSort_perm _ _
  have p2 : (srtS (l.take m ++ l.drop (m + 1))).Perm (l.take m ++ l.drop (m + 1)) := List.mergeSort_perm _ _
  have s1 : (srtS l).Pairwise (fun a b => (!decide (cmpS b a < 0)) = true) := List.pairwise_mergeSort le_tr le_to l
  have s2 : (srtS (l.take m ++ l.drop (m + 1))).Pairwise (fun a b => (!decide (cmpS b a < 0)) = true) := List.pairwise_mergeSort le_tr le_to _
  have hsp : l.Perm (x :: (l.take m ++ l.drop (m + 1))) := by
    have : l = l.take m ++ x :: l.drop (m + 1) := by rw [← drop_cons hx, List.take_append_drop]
    exact (List.Perm.of_eq this).trans List.perm_middle
  refine List.Perm.eq_of_pairwise (le := fun a b => (!decide (cmpS b a < 0)) = true) ?_ s1 ?_ (p1.trans (hsp.trans (List.Perm.cons x p2.symm)))
  · intro a b _ _ h1 h2
    have h1 : ¬ cmpS b a < 0 := by simpa using h1
    have h2 : ¬ cmpS a b < 0 := by simpa using h2
    have := cmp_flip a b
    exact cmp_zero (by omega)
  · refine List.pairwise_cons.2 ⟨fun y hy => ?_, s2⟩
    have hy2 : y ∈ l := hsp.mem_iff.2 (List.mem_cons_of_mem x (p2.mem_iff.1 hy))
    have h1 := hm y hy2
    have := cmp_flip x y
    simp; omega
theorem code_of {s : Sp'} (h : sE s = 0) : @LE.le Int _ (-1) s.2.2.2.1 ∧ @LE.le Int _ 0 s.2.2.1 ∧ @LE.le Int _ s.2.2.1 60000 := by
  unfold sE spotE at h
  by_cases k : spotOk s.1 s.2.1.1 s.2.1.2 s.2.2.1 s.2.2.2.1 s.2.2.2.2
  · obtain ⟨_, _, _, _, _, _, h1, h2, h3, _⟩ := k
    exact ⟨h3, h1, h2⟩
  · rw [if_neg k] at h; exact absurd h (by decide)
theorem apt_at (a b : Int) (h : 0 ≤ a ∧ a ≤ 60000 ∧ 0 ≤ b ∧ b ≤ 60000) : apt a b = aptR a b := by
  unfold apt aptR
  rw [W_id (a - b) (by omega) (by omega), W_id (b - a) (by omega) (by omega)]
  by_cases k : a < b
  · rw [decide_eq_true k]; simp only [cond_true]; omega
  · rw [decide_eq_false k]; simp only [cond_false]; omega
theorem and4 (c cs : Int) (p f g : Bool) (h : -1 ≤ c) : (p && (decide (c = cs) && (decide (cs ≠ -1) && (f && g)))) = (p && (decide (c ≥ 0) && (decide (c = cs) && (f && g)))) := by
  by_cases e : c = cs
  · subst e
    by_cases k : c = -1
    · rw [decide_eq_false (show ¬ c ≠ -1 from fun f => f k), decide_eq_false (show ¬ c ≥ 0 by omega)]; simp
    · rw [decide_eq_true (show c ≠ -1 from k), decide_eq_true (show c ≥ 0 by omega)]; simp
  · rw [decide_eq_false e]; simp
theorem like_law {s x : Sp'} {b : Int} (hs : sE s = 0) (hx : sE x = 0) (hb : bandE b = 0) : lawQ s b x = qS s b x := by
  unfold qS likeS
  rw [decide_eq_true hs, decide_eq_true hx, decide_eq_true hb]
  simp only [cond_true]
  obtain ⟨c1, c2, c3⟩ := code_of hx
  obtain ⟨d1, d2, d3⟩ := code_of hs
  unfold lawQ likeB
  rw [apt_at x.2.2.1 s.2.2.1 ⟨c2, c3, d2, d3⟩]
  exact and4 x.2.2.2.1 s.2.2.2.1 _ _ _ c1
theorem dT {i : Decidable True} : @decide True i = true := by
  cases i with
  | isTrue _ => rfl
  | isFalse h => exact absurd trivial h
theorem any_law {s : Sp'} {b : Int} (hs : sE s = 0) (hb : bandE b = 0) : ∀ (l : List Sp'), okS l = true → l.any (lawQ s b) = l.any (qS s b)
  | [], _ => rfl
  | x :: r, h => by
    rw [ok_cons, Bool.and_eq_true] at h
    rw [List.any_cons, List.any_cons, like_law hs (of_decide_eq_true h.1) hb, any_law hs hb r h.2]
theorem ok_mem {l : List Sp'} (h : okS l = true) {x : Sp'} (hx : x ∈ l) : sE x = 0 := of_decide_eq_true (List.all_eq_true.1 h x hx)
theorem ok_of {l : List Sp'} (h : ∀ x ∈ l, sE x = 0) : okS l = true := List.all_eq_true.2 fun x hx => decide_eq_true (h x hx)
theorem q14c (b : Int) (l : List Sp') (ln : Bool) (acc : List Sp') (an : Bool) (h : preLc b l acc = true) :
    z14cL b l ln acc an = some (.exit 2, [slS 2 (dd b acc (srtS l)) (an && decide ((dd b acc (srtS l)).length = acc.length))], [.dead, .dead, .row true kSpot (dd b acc (srtS l))]) := by
  obtain ⟨h1, h2, h3, h4⟩ := bp_true.1 h
  rw [z14c]
  simp only [List.take_length, Nat.zero_add, len_true, len_same, cond_true, Nat.sub_zero]
  refine cond_split (fun hk => ?_) (fun hk => ?_)
  · have hk : ((l.length : Nat) : Int) > 0 := of_decide_eq_true hk
    obtain ⟨m, hm0, hml, hmin⟩ : ∃ m : Nat, minV l 0 0 = (m : Int) ∧ m < l.length ∧ ∀ (j : Nat) (y : Sp'), l[j]? = some y → cmpS (l.getD m zSp) y ≤ 0 := ⟨_, rfl, min_at l l.length 0 0 (by omega) (by omega) (fun j hj => absurd hj (by omega))⟩
    obtain ⟨x, hx⟩ := get_ex (l := l) (k := m) hml
    rw [getD_of hx] at hmin
    have hw : IntKind.i64.wrap ((m : Int) + 1) = (m : Int) + 1 := W_id _ (by omega) (by omega)
    have hr : List.take (l.length - (m + 1)) (List.drop (m + 1) l) = List.drop (m + 1) l := List.take_of_length_le (by simp)
    rw [hm0, hw, show ((m : Int)).toNat = m from rfl, show ((m : Int) + 1).toNat = m + 1 from rfl, show ((l.length : Nat) : Int).toNat = l.length from rfl, hr, hx]
    have hs := srt_min hx (fun y hy => by obtain ⟨j, hj⟩ := List.getElem?_of_mem hy; exact hmin j y hj)
    have hRl : (List.take m l ++ List.drop (m + 1) l).length = l.length - 1 := by rw [List.length_append, List.length_take, List.length_drop]; omega
    have hRo : okS (List.take m l ++ List.drop (m + 1) l) = true := ok_of (fun y hy => ok_mem h2 (by
      rcases List.mem_append.1 hy with hy | hy
      · exact List.mem_of_mem_take hy
      · exact List.mem_of_mem_drop hy))
    have hxo : sE x = 0 := ok_mem h2 (List.mem_of_getElem? hx)
    generalize List.take m l ++ List.drop (m + 1) l = R at hs hRl hRo ⊢
    have hdd : dd b acc (srtS l) = bif acc.any (qS x b) then dd b acc (srtS R) else dd b (acc ++ [x]) (srtS R) := by rw [hs]; rfl
    rw [hdd, show acc.drop (Int.toNat 0) = acc from rfl]
    refine guard_split (decide_eq_true ⟨by omega, rfl, by omega, by omega, by omega, by omega⟩) (guard_split (by simp; omega) ?_)
    simp only [bindO]
    rw [any_law hxo h1 acc h3]
    refine guard_split (by simp; omega) (guard_split (by simp; omega) (guard_split (by simp; omega) ?_))
    have hal : decide (m + (l.length - (m + 1)) = R.length) = true := decide_eq_true (by omega)
    have hox : okS (acc ++ [x]) = true := ok_of (fun y hy => by
      rcases List.mem_append.1 hy with hy | hy
      · exact ok_mem h3 hy
      · rw [List.mem_singleton.1 hy]; exact hxo)
    have hst : ∀ (rn : Bool) (acc' : List Sp') (an' : Bool) (Y : Option (Xt × List PV × List Blk)), okS acc' = true → R.length + acc'.length ≤ 20 → (guardB (decide (muLc (b, (R, rn), (acc', an'), PUnit.unit) < muLc (b, (l, ln), (acc, an), ()))) (guardB (bif decide (m + (l.length - (m + 1)) = R.length) then preLc b R acc' else false) Y)) = Y := fun rn acc' an' Y g1 g2 => by
      rw [show decide (muLc (b, (R, rn), (acc', an'), PUnit.unit) < muLc (b, (l, ln), (acc, an), ())) = true from decide_eq_true (show R.length < l.length by omega), hal, show preLc b R acc' = true from bp_mk ⟨h1, hRo, g1, g2⟩]; rfl
    have hle : R.length + (acc ++ [x]).length ≤ 20 := by rw [List.length_append]; simp; omega
    have hpre : pre65a acc (acc.length : Int) 0 = true := decide_eq_true ⟨by omega, rfl, by omega, by omega⟩
    have hax : decide (acc.length + 1 = (acc ++ [x]).length) = true := decide_eq_true (by simp)
    rw [hax]
    simp only [cond_true]
    cases hq : acc.any (qS x b) with
    | true =>
      simp only [Bool.not_true, cond_false, cond_true]
      refine cond_split (fun _ => guard_split hpre ?_) (fun _ => guard_split hpre ?_)
      · simp only [dT, cond_true]
        rw [hst _ _ _ _ h3 (by omega)]
      · simp only [dT, cond_true]
        rw [hst _ _ _ _ h3 (by omega)]
    | false =>
      simp only [Bool.not_false, cond_false, cond_true]
      have hfl : decide ((dd b (acc ++ [x]) (srtS R)).length = acc.length) = false := decide_eq_false (dd_ne _ _ _ _)
      rw [hfl, Bool.and_false]
      refine cond_split (fun _ => guard_split hpre (guard_split (by simp; omega) ?_)) (fun _ => guard_split hpre (guard_split (by simp; omega) ?_))
      · rw [hst _ _ _ _ hox hle]
      · rw [hst _ _ _ _ hox hle]
  · have hk : ¬ ((l.length : Nat) : Int) > 0 := of_decide_eq_false hk
    obtain rfl : l = [] := List.length_eq_zero_iff.1 (by omega)
    have e : srtS [] = [] := by unfold srtS; simp
    rw [e]
    show _ = some (Xt.exit 2, [slS 2 acc (an && decide (acc.length = acc.length))], _)
    rw [len_same, Bool.and_true]; rfl
/-! ### Putting it together -/
theorem srt_nil : srtS [] = [] := by unfold srtS; simp
theorem first_at : spL [(0, (0, 0), 0, 5, 2), (0, (0, 0), 0, 5, 1)] 0 = [(0, (0, 0), 0, 5, 1)] := by
  unfold spL
  have e1 : srtS [((0, (0, 0), 0, 5, 2) : Sp'), (0, (0, 0), 0, 5, 1)] = (0, (0, 0), 0, 5, 1) :: srtS [(0, (0, 0), 0, 5, 2)] := srt_min (m := 1) rfl (fun y hy => by
    rcases List.mem_cons.1 hy with rfl | hy
    · decide
    · rw [List.mem_singleton.1 hy]; decide)
  have e2 : srtS [((0, (0, 0), 0, 5, 2) : Sp')] = (0, (0, 0), 0, 5, 2) :: srtS [] := srt_min (m := 0) rfl (fun y hy => by rw [List.mem_singleton.1 hy]; decide)
  rw [e1, e2, srt_nil]
  rfl
theorem bne_ff (n : Int) : (n != n) = false := by simp
theorem sp_zero {A : List Sp'} {b : Int} (hA : A.length ≤ 20) : spE A b = bif okS A then bandE b else 4 := by
  unfold spE; rw [decide_eq_false (show ¬ 128 < A.length by omega)]; rfl
theorem band_in (b : Int) : bandE b = bif inS b 0 60000 then 0 else 4 := by
  unfold bandE inS
  by_cases h1 : b < 0
  · rw [decide_eq_true h1, decide_eq_false (show ¬ (0 ≤ b ∧ b ≤ 60000) by omega)]; rfl
  · by_cases h2 : b > 60000
    · rw [decide_eq_true h2, Bool.or_true, decide_eq_false (show ¬ (0 ≤ b ∧ b ≤ 60000) by omega)]; rfl
    · rw [decide_eq_false h1, decide_eq_false h2, decide_eq_true (show 0 ≤ b ∧ b ≤ 60000 by omega)]; rfl
theorem q14 (l : List Sp') (nl : Bool) (b : Int) (h : nl = true → l = []) : z14L l nl b = some (.sc (.bool true), [.row false kSpot l]) := by
  rw [z14, first_at]
  simp only [List.take_length, Nat.zero_add, len_true, len_same, cond_true, List.getElem?_cons_zero, bindO]
  refine cond_split (fun h => absurd h (by decide)) (fun _ => ?_)
  refine guard_split (by decide) ?_
  refine cond_split (fun h => absurd h (by decide)) (fun _ => ?_)
  have main : ∀ A : List Sp', A.length ≤ 20 → ∀ Z : List Blk, (spE A b = 0 → okS A = true ∧ inS b 0 60000 = true ∧ preLc b A [] = true) ∧ (spE A b ≠ 0 → okS A = true → inS b 0 60000 = false ∧ (spE A b == 4) = true) ∧ (okS A = false → (lawR [] (spE A b) 4) = true) := fun A hA Z => by
    have e := sp_zero (b := b) hA
    rw [band_in] at e
    refine ⟨fun h0 => ?_, fun h0 ho => ?_, fun ho => ?_⟩
    · cases ho : okS A with
      | false => rw [ho] at e; rw [e] at h0; exact absurd (show (4 : Int) = 0 from h0) (by decide)
      | true =>
        cases hi : inS b 0 60000 with
        | false => rw [ho, hi] at e; rw [e] at h0; exact absurd (show (4 : Int) = 0 from h0) (by decide)
        | true => exact ⟨rfl, rfl, bp_mk ⟨by rw [band_in, hi]; rfl, ho, rfl, by simpa using hA⟩⟩
    · cases hi : inS b 0 60000 with
      | true => rw [ho, hi] at e; exact absurd e h0
      | false => rw [ho, hi] at e; rw [e]; exact ⟨rfl, rfl⟩
    · rw [ho] at e; rw [e]; rfl
  have fin : ∀ A : List Sp', A.length ≤ 20 → ∀ Z : List Blk, (cond ((((spL A b).length : Nat) : Int) != (((dd b [] (srtS A)).length : Nat) : Int)) (some (PV.sc (.bool false), Z)) (guardB (preLi (spL A b) (dd b [] (srtS A)) (((spL A b).length : Nat) : Int) 0) (cond (bp ((spL A b).drop (Int.toNat 0) = (dd b [] (srtS A)).drop (Int.toNat 0))) (some (PV.sc (.bool true), Z)) (some (PV.sc (.bool false), Z))))) = some (PV.sc (.bool true), Z) := fun A hA Z => by
    show (cond ((((dd b [] (srtS A)).length : Nat) : Int) != (((dd b [] (srtS A)).length : Nat) : Int)) _ (guardB (preLi (dd b [] (srtS A)) (dd b [] (srtS A)) (((dd b [] (srtS A)).length : Nat) : Int) 0) (cond (bp ((dd b [] (srtS A)).drop (Int.toNat 0) = (dd b [] (srtS A)).drop (Int.toNat 0))) _ _))) = _
    rw [bne_ff, show bp ((dd b [] (srtS A)).drop (Int.toNat 0) = (dd b [] (srtS A)).drop (Int.toNat 0)) = true from bp_mk rfl]
    have hl : (dd b [] (srtS A)).length ≤ 1000 := by
      have : ∀ (l acc : List Sp'), (dd b acc l).length ≤ acc.length + l.length := fun l => by
        induction l with
        | nil => intro acc; exact Nat.le_refl _
        | cons s r ih =>
          intro acc
          show (bif acc.any (qS s b) then dd b acc r else dd b (acc ++ [s]) r).length ≤ _
          cases acc.any (qS s b) with
          | true => have := ih acc; rw [List.length_cons]; simp only [cond_true]; omega
          | false => have := ih (acc ++ [s]); rw [List.length_append, List.length_singleton] at this; rw [List.length_cons]; simp only [cond_false]; omega
      have := this (srtS A) []
      rw [srtS_len] at this
      simp at this; omega
    exact guard_split (decide_eq_true ⟨rfl, rfl, hl, by omega, by omega⟩) rfl
  refine cond_split (fun hk => ?_) (fun hk => ?_)
  · have hk : ((l.length : Nat) : Int) > 20 := of_decide_eq_true hk
    have hnl : nl = false := by
      cases nl with
      | false => rfl
      | true => have := h rfl; subst this; exact absurd hk (by decide)
    subst hnl
    have hAl : (List.take 20 l).length = 20 := by rw [List.length_take]; omega
    rw [decide_eq_true (show 20 ≤ ((l.length : Nat) : Int) by omega), decide_eq_true (show 20 ≤ l.length by omega)]
    generalize List.take 20 l = A at hAl ⊢
    obtain ⟨m1, m2, m3⟩ := main A (by omega) []
    rw [hAl, show A.drop (Int.toNat 0) = A from rfl]
    have hpa : pre65a A 20 0 = true := decide_eq_true ⟨by omega, by omega, by omega, by omega⟩
    refine guard_split rfl (guard_split rfl ?_)
    refine cond_split (fun h0 => ?_) (fun h0 => ?_)
    · obtain ⟨g1, g2, g3⟩ := m1 (of_decide_eq_true h0)
      refine guard_split hpa ?_
      rw [g1, g2]
      exact guard_split g3 (fin A (by omega) _)
    · have h0 := of_decide_eq_false h0
      refine guard_split hpa ?_
      refine cond_split (fun ho => ?_) (fun ho => by rw [m3 ho])
      obtain ⟨g1, g2⟩ := m2 h0 ho
      rw [g1, g2]; rfl
  · have hk : ¬ ((l.length : Nat) : Int) > 20 := of_decide_eq_false hk
    obtain ⟨m1, m2, m3⟩ := main l (by omega) []
    rw [show l.drop (Int.toNat 0) = l from rfl]
    have hpa : pre65a l (l.length : Int) 0 = true := decide_eq_true ⟨by omega, by omega, by omega, by omega⟩
    refine guard_split (by cases nl with | false => rfl | true => rw [h rfl]; rfl) ?_
    refine cond_split (fun h0 => ?_) (fun h0 => ?_)
    · obtain ⟨g1, g2, g3⟩ := m1 (of_decide_eq_true h0)
      refine guard_split hpa ?_
      rw [g1, g2]
      refine guard_split (by simp; omega) ?_
      refine cond_split (fun _ => guard_split g3 (fin l (by omega) _)) (fun _ => guard_split g3 (fin l (by omega) _))
    · have h0 := of_decide_eq_false h0
      refine guard_split hpa ?_
      refine cond_split (fun ho => ?_) (fun ho => by rw [m3 ho])
      obtain ⟨g1, g2⟩ := m2 h0 ho
      rw [g1, g2]; rfl
theorem in14a : CutOK Try.prog Try.f14.ntmps (codeAt 0 (bodyF Try.f14)) [7, 8, 52, 53, 54] [4] (entC kLa cLa) := loop_cutW (kill := killA 0 kLa) Z6_ok mixed muLa (by kernel_rfl) (noCuts_ok _) fun v h => q14a v.1.1 v.1.2 v.2.1 v.2.2.1.1 v.2.2.1.2 v.2.2.2.1 v.2.2.2.2.1 h
theorem in14e : CutOK Try.prog Try.f14.ntmps (codeAt 4 (bodyF Try.f14)) [11, 13, 86, 87] [13] (entC kLe cLe) := loop_cutW (kill := killA 0 kLe) Z6_ok mixed muLe (by kernel_rfl) (noCuts_ok _) fun v h => q14e v.1.1 v.1.2 v.2.1 v.2.2.1 v.2.2.2.1 h
theorem in14g : CutOK Try.prog Try.f14.ntmps (codeAt 6 (bodyF Try.f14)) [1, 15, 16, 115, 116, 117] [16] (entC kLg cLg) := loop_cutW (kill := killA 0 kLg) Z6_ok mixed muLg (by kernel_rfl) (noCuts_ok _) fun v h => q14g v.1 v.2.1 v.2.2.1 v.2.2.2.1.1 v.2.2.2.1.2 v.2.2.2.2.1 v.2.2.2.2.2.1 h
theorem in14c : CutOK Try.prog Try.f14.ntmps (codeAt 2 (bodyF Try.f14)) [1, 11, 12] [12] (entC kLc cLc) := loop_cutW (kill := killA 0 kLc) Z6_ok mixed muLc (by kernel_rfl) (cut_cons (by kernel_rfl) in14e (cut_cons (by kernel_rfl) in14g (noCuts_ok _))) fun v h => q14c v.1 v.2.1.1 v.2.1.2 v.2.2.1.1 v.2.2.1.2 h
theorem in14i : CutOK Try.prog Try.f14.ntmps (codeAt 8 (bodyF Try.f14)) [7, 12, 186, 187] [4] (entC kLi cLi) := loop_cutW (kill := killA 0 kLi) Z6_ok mixed muLi (by kernel_rfl) (noCuts_ok _) fun v h => q14i v.1.1 v.1.2 v.2.1.1 v.2.1.2 v.2.2.1 v.2.2.2.1 h
theorem lawOK (v : denA [(.s (.ro (Kd.pair (Kd.int .i64) (Kd.pair (Kd.pair (Kd.int .i64) (Kd.int .i64)) (Kd.pair (Kd.int .i64) (Kd.pair (Kd.int .i64) (Kd.int .i64))))))), (.s (.v ⟨false, (Kd.int .i64)⟩))]) (h : (gSlice (k := (Kd.pair (Kd.int .i64) (Kd.pair (Kd.pair (Kd.int .i64) (Kd.int .i64)) (Kd.pair (Kd.int .i64) (Kd.pair (Kd.int .i64) (Kd.int .i64)))))) 48 (both (gInt .i64) (both (both (gInt .i64) (gInt .i64)) (both (gInt .i64) (both (gInt .i64) (gInt .i64)))))) v.1 ∧ (gInt .i64) v.2.1 ∧ True) : ∃ H', CallOK Try.prog 14 (showA 0 [(.s (.ro (Kd.pair (Kd.int .i64) (Kd.pair (Kd.pair (Kd.int .i64) (Kd.int .i64)) (Kd.pair (Kd.int .i64) (Kd.pair (Kd.int .i64) (Kd.int .i64))))))), (.s (.v ⟨false, (Kd.int .i64)⟩))] v).1 (showA 0 [(.s (.ro (Kd.pair (Kd.int .i64) (Kd.pair (Kd.pair (Kd.int .i64) (Kd.int .i64)) (Kd.pair (Kd.int .i64) (Kd.pair (Kd.int .i64) (Kd.int .i64))))))), (.s (.v ⟨false, (Kd.int .i64)⟩))] v).2 (.sc (.bool true)) H' := by
  exact ⟨_, evFuncV_sound Z6_ok mixed Try.func14 (show Try.f14.body = some (bodyF Try.f14) from rfl) (cut_cons (by kernel_rfl) in14a (cut_cons (by kernel_rfl) in14c (cut_cons (by kernel_rfl) in14i (noCuts_ok _)))) (q14 v.1.1 v.1.2 v.2.1 h.1.2.2) (by rw [showA_len]; decide)⟩
end Go.Proofs.YtpndjpjpmcehbaaFz
