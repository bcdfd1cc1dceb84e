/- What is proved: the functions on plots that the law MosaicMerges reaches, but for the sort, answer what their plain functions say. No condition. -/
import Derived.Test.YtpndjpjpmcehbaaTmm0
namespace Go.Proofs.YtpndjpjpmcehbaaMm
open Go Go.Proofs Go.Proofs.YtpndjpjpmcehbaaEv Go.Proofs.YtpndjpjpmcehbaaTk Go.Proofs.YtpndjpjpmcehbaaFz
set_option maxRecDepth 100000
set_option linter.unusedSimpArgs false
set_option linter.unusedVariables false
noncomputable abbrev z97L (a0 : Pl) := evFuncV Try.prog Z2 noCuts Try.f97 (killA 0 [sPl]) (showA 0 [sPl] (a0, ())).1 (showA 0 [sPl] (a0, ())).2
theorem z97 (a0 : Pl) : z97L a0 = (bif decide (a0.fst < 0) then some (PV.sc (Value.int IntKind.i64 4), [])
else
  bif decide (a0.fst > 255) then some (PV.sc (Value.int IntKind.i64 4), [])
  else
    bif decide (a0.snd.fst < 0) then some (PV.sc (Value.int IntKind.i64 4), [])
    else
      bif decide (a0.snd.fst > 200000) then some (PV.sc (Value.int IntKind.i64 4), [])
      else
        bif decide (a0.snd.snd.fst < 0) then some (PV.sc (Value.int IntKind.i64 4), [])
        else
          bif decide (a0.snd.snd.fst > 2000000) then some (PV.sc (Value.int IntKind.i64 4), [])
          else
            bif decide (a0.snd.snd.snd.fst < 0) then some (PV.sc (Value.int IntKind.i64 4), [])
            else
              bif decide (a0.snd.snd.snd.fst > 4095) then some (PV.sc (Value.int IntKind.i64 4), [])
              else
                bif decide (a0.snd.snd.snd.snd.fst < 0) then some (PV.sc (Value.int IntKind.i64 4), [])
                else
                  bif decide (a0.snd.snd.snd.snd.fst > 60000) then some (PV.sc (Value.int IntKind.i64 4), [])
                  else
                    bif decide (a0.snd.snd.snd.snd.snd < -1) then some (PV.sc (Value.int IntKind.i64 4), [])
                    else
                      bif decide (a0.snd.snd.snd.snd.snd > 4095) then some (PV.sc (Value.int IntKind.i64 4), [])
                      else some (PV.sc (Value.int IntKind.i64 0), [])) := by kernel_rfl
noncomputable abbrev z104L (a0 : Pl) (a1 : Pl) := evFuncV Try.prog Z2 noCuts Try.f104 (killA 0 [sPl, sPl]) (showA 0 [sPl, sPl] (a0, (a1, ()))).1 (showA 0 [sPl, sPl] (a0, (a1, ()))).2
theorem z104 (a0 : Pl) (a1 : Pl) : z104L a0 a1 = (some
  (PV.sc
      (Value.int IntKind.i64
        (orL
          [cmpI a0.snd.fst a1.snd.fst, cmpI a0.fst a1.fst, cmpI a0.snd.snd.fst a1.snd.snd.fst,
            cmpI a0.snd.snd.snd.fst a1.snd.snd.snd.fst, cmpI a0.snd.snd.snd.snd.fst a1.snd.snd.snd.snd.fst,
            cmpI a0.snd.snd.snd.snd.snd a1.snd.snd.snd.snd.snd])),
    [])) := by kernel_rfl
noncomputable abbrev z106L (a0 : Pl) (a1 : Pl) := evFuncV Try.prog Z2 noCuts Try.f106 (killA 0 [sPl, sPl]) (showA 0 [sPl, sPl] (a0, (a1, ()))).1 (showA 0 [sPl, sPl] (a0, (a1, ()))).2
theorem z106 (a0 : Pl) (a1 : Pl) : z106L a0 a1 = (bif a0.snd.fst != a1.snd.fst then some (PV.sc (Value.bool (decide (a0.snd.fst < a1.snd.fst))), [])
else
  bif a0.fst != a1.fst then some (PV.sc (Value.bool (decide (a0.fst < a1.fst))), [])
  else
    bif a0.snd.snd.fst != a1.snd.snd.fst then some (PV.sc (Value.bool (decide (a0.snd.snd.fst < a1.snd.snd.fst))), [])
    else
      bif a0.snd.snd.snd.fst != a1.snd.snd.snd.fst then
        some (PV.sc (Value.bool (decide (a0.snd.snd.snd.fst < a1.snd.snd.snd.fst))), [])
      else
        bif a0.snd.snd.snd.snd.fst != a1.snd.snd.snd.snd.fst then
          some (PV.sc (Value.bool (decide (a0.snd.snd.snd.snd.fst < a1.snd.snd.snd.snd.fst))), [])
        else
          bif a0.snd.snd.snd.snd.snd != a1.snd.snd.snd.snd.snd then
            some (PV.sc (Value.bool (decide (a0.snd.snd.snd.snd.snd < a1.snd.snd.snd.snd.snd))), [])
          else some (PV.sc (Value.bool false), [])) := by kernel_rfl
noncomputable abbrev z105iL (L : List Pl) (n : Nat) (lo : Nat) (fu : Bool) (nl : Bool) (e : Nat) (n2 : Nat) (lo2 : Nat) (fu2 : Bool) (nl2 : Bool) (k : Int) (k2 : Int) := (evRoundR Try.prog M1 noCuts 61 (loopOf (codeAt 2 (bodyF Try.f105))) pIn muIn [] [0, 3, 4, 5] [3] cIn
  (stIn (L, n, lo, fu, nl, e, n2, lo2, fu2, nl2, k, k2)).1 (stIn (L, n, lo, fu, nl, e, n2, lo2, fu2, nl2, k, k2)).2
  (L, n, lo, fu, nl, e, n2, lo2, fu2, nl2, k, k2))
theorem z105i (L : List Pl) (n : Nat) (lo : Nat) (fu : Bool) (nl : Bool) (e : Nat) (n2 : Nat) (lo2 : Nat) (fu2 : Bool) (nl2 : Bool) (k : Int) (k2 : Int) : z105iL L n lo fu nl e n2 lo2 fu2 nl2 k k2 = (bif decide (k2 < (↑n2 : Int)) then
  guardB (decide (0 ≤ k2) && decide (k2 < (↑n2 : Int)))
    (bindO L[e + k2.toNat]? fun x =>
      guardB (decide (0 ≤ IntKind.i64.wrap (k2 - 1)) && decide (IntKind.i64.wrap (k2 - 1) < (↑n2 : Int)))
        (bindO L[e + (IntKind.i64.wrap (k2 - 1)).toNat]? fun x_1 =>
          bif
              !(x.fst == x_1.fst &&
                  (x.snd.fst == x_1.snd.fst &&
                    (x.snd.snd.fst == x_1.snd.snd.fst &&
                      (x.snd.snd.snd.fst == x_1.snd.snd.snd.fst &&
                        (x.snd.snd.snd.snd.fst == x_1.snd.snd.snd.snd.fst &&
                          (x.snd.snd.snd.snd.snd == x_1.snd.snd.snd.snd.snd && true)))))) then
            guardB (decide (0 ≤ k2) && decide (k2 < (↑n2 : Int)))
              (bindO L[e + k2.toNat]? fun x =>
                guardB (decide (0 ≤ k) && decide (k < (↑n : Int)))
                  (bindO L[0 + k.toNat]? fun x_2 =>
                    guardB
                      (decide
                        (muIn
                            (L.set (0 + k.toNat) x, n, lo, fu, nl, e, n2, lo2, fu2, nl2, IntKind.i64.wrap (k + 1),
                              IntKind.i64.wrap (k2 + 1)) <
                          muIn (L, n, lo, fu, nl, e, n2, lo2, fu2, nl2, k, k2)))
                      (guardB
                        (preIn (L.set (0 + k.toNat) x) n e n2 (IntKind.i64.wrap (k + 1)) (IntKind.i64.wrap (k2 + 1)))
                        (some
                          (Xt.exit 2,
                            [PV.sc
                                (Value.int IntKind.i64
                                  (↑(innV (L.set (0 + k.toNat) x) e n2 (IntKind.i64.wrap (k + 1))
                                          (IntKind.i64.wrap (k2 + 1))).snd :
                                    Int))],
                            [Blk.row true
                                ((Kd.int IntKind.i64).pair
                                  ((Kd.int IntKind.i64).pair
                                    ((Kd.int IntKind.i64).pair
                                      ((Kd.int IntKind.i64).pair ((Kd.int IntKind.i64).pair (Kd.int IntKind.i64))))))
                                (innV (L.set (0 + k.toNat) x) e n2 (IntKind.i64.wrap (k + 1))
                                    (IntKind.i64.wrap (k2 + 1))).fst])))))
          else
            guardB
              (decide
                (muIn (L, n, lo, fu, nl, e, n2, lo2, fu2, nl2, k, IntKind.i64.wrap (k2 + 1)) <
                  muIn (L, n, lo, fu, nl, e, n2, lo2, fu2, nl2, k, k2)))
              (guardB (preIn L n e n2 k (IntKind.i64.wrap (k2 + 1)))
                (some
                  (Xt.exit 2, [PV.sc (Value.int IntKind.i64 (↑(innV L e n2 k (IntKind.i64.wrap (k2 + 1))).snd : Int))],
                    [Blk.row true
                        ((Kd.int IntKind.i64).pair
                          ((Kd.int IntKind.i64).pair
                            ((Kd.int IntKind.i64).pair
                              ((Kd.int IntKind.i64).pair ((Kd.int IntKind.i64).pair (Kd.int IntKind.i64))))))
                        (innV L e n2 k (IntKind.i64.wrap (k2 + 1))).fst])))))
else
  some
    (Xt.exit 2, [PV.sc (Value.int IntKind.i64 k)],
      [Blk.row true
          ((Kd.int IntKind.i64).pair
            ((Kd.int IntKind.i64).pair
              ((Kd.int IntKind.i64).pair ((Kd.int IntKind.i64).pair ((Kd.int IntKind.i64).pair (Kd.int IntKind.i64))))))
          L])) := by kernel_rfl
noncomputable abbrev z105oL (a0 : List (Int × Int × Int × Int × Int × Int)) (a1 : Bool) (a2 : Int) := evRound Try.prog M1 (addCut 2 [0, 3, 4, 5] [3] (entR pIn cIn) noCuts) 61 (loopOf (codeAt 0 (bodyF Try.f105))) k105 mu105 (killA 0 k105) [0, 3] [2] c105 ((a0, a1), (a2, ()))
theorem z105o (a0 : List (Int × Int × Int × Int × Int × Int)) (a1 : Bool) (a2 : Int) : z105oL a0 a1 a2 = (bif decide (a2 < (↑a0.length : Int)) then
  guardB (decide (0 ≤ a2) && decide (a2 < (↑a0.length : Int)))
    (bindO a0[0 + a2.toNat]? fun x =>
      guardB (decide (0 ≤ IntKind.i64.wrap (a2 - 1)) && decide (IntKind.i64.wrap (a2 - 1) < (↑a0.length : Int)))
        (bindO a0[0 + (IntKind.i64.wrap (a2 - 1)).toNat]? fun x_1 =>
          bif
              x.fst == x_1.fst &&
                (x.snd.fst == x_1.snd.fst &&
                  (x.snd.snd.fst == x_1.snd.snd.fst &&
                    (x.snd.snd.snd.fst == x_1.snd.snd.snd.fst &&
                      (x.snd.snd.snd.snd.fst == x_1.snd.snd.snd.snd.fst &&
                        (x.snd.snd.snd.snd.snd == x_1.snd.snd.snd.snd.snd && true))))) then
            guardB
              (decide (0 ≤ a2) && decide (a2 ≤ (↑a0.length : Int)) && decide ((↑a0.length : Int) ≤ (↑a0.length : Int)))
              (guardB (preIn a0 a0.length (0 + a2.toNat) ((↑a0.length : Int).toNat - a2.toNat) a2 1)
                (guardB
                  (decide (0 ≤ (↑(innV a0 (0 + a2.toNat) ((↑a0.length : Int).toNat - a2.toNat) a2 1).snd : Int)) &&
                      decide
                        ((↑(innV a0 (0 + a2.toNat) ((↑a0.length : Int).toNat - a2.toNat) a2 1).snd : Int) ≤
                          (↑a0.length : Int)) &&
                    decide ((↑a0.length : Int) ≤ (↑a0.length : Int)))
                  (guardB
                    (decide
                      (0 + (↑(innV a0 (0 + a2.toNat) ((↑a0.length : Int).toNat - a2.toNat) a2 1).snd : Int).toNat +
                          ((↑a0.length : Int).toNat -
                            (↑(innV a0 (0 + a2.toNat) ((↑a0.length : Int).toNat - a2.toNat) a2 1).snd : Int).toNat) ≤
                        (innV a0 (0 + a2.toNat) ((↑a0.length : Int).toNat - a2.toNat) a2 1).fst.length))
                    (guardB
                      (decide
                        ((↑(innV a0 (0 + a2.toNat) ((↑a0.length : Int).toNat - a2.toNat) a2 1).snd : Int) ≤
                          (↑a0.length : Int)))
                      (some
                        (Xt.ret,
                          [PV.sl 1 0 6
                              ((↑(innV a0 (0 + a2.toNat) ((↑a0.length : Int).toNat - a2.toNat) a2 1).snd : Int).toNat -
                                0)
                              ((↑(innV a0 (0 + a2.toNat) ((↑a0.length : Int).toNat - a2.toNat) a2 1).snd : Int).toNat -
                                0)
                              false a1],
                          [Blk.dead,
                            Blk.row true
                              ((Kd.int IntKind.i64).pair
                                ((Kd.int IntKind.i64).pair
                                  ((Kd.int IntKind.i64).pair
                                    ((Kd.int IntKind.i64).pair ((Kd.int IntKind.i64).pair (Kd.int IntKind.i64))))))
                              (splice (innV a0 (0 + a2.toNat) ((↑a0.length : Int).toNat - a2.toNat) a2 1).fst
                                (0 +
                                  (↑(innV a0 (0 + a2.toNat) ((↑a0.length : Int).toNat - a2.toNat) a2 1).snd :
                                      Int).toNat)
                                (List.replicate
                                  ((↑a0.length : Int).toNat -
                                    (↑(innV a0 (0 + a2.toNat) ((↑a0.length : Int).toNat - a2.toNat) a2 1).snd :
                                        Int).toNat)
                                  (0, 0, 0, 0, 0, 0)))]))))))
          else
            guardB (decide (mu105 ((a0, a1), IntKind.i64.wrap (a2 + 1), PUnit.unit) < mu105 ((a0, a1), a2, ())))
              (guardB (bif decide (a0.length = a0.length) then pre105 a0 (IntKind.i64.wrap (a2 + 1)) else false)
                (bif (outV a0 (IntKind.i64.wrap (a2 + 1))).isNone then
                  some
                    (Xt.exit 0, [PV.undef],
                      [Blk.row true
                          ((Kd.int IntKind.i64).pair
                            ((Kd.int IntKind.i64).pair
                              ((Kd.int IntKind.i64).pair
                                ((Kd.int IntKind.i64).pair ((Kd.int IntKind.i64).pair (Kd.int IntKind.i64))))))
                          (sameShp iPl (a0, a1))])
                else
                  some
                    (Xt.ret,
                      [PV.sl 1 0 6 (outL a0 (IntKind.i64.wrap (a2 + 1))).snd (outL a0 (IntKind.i64.wrap (a2 + 1))).snd
                          false a1],
                      [Blk.dead,
                        Blk.row true
                          ((Kd.int IntKind.i64).pair
                            ((Kd.int IntKind.i64).pair
                              ((Kd.int IntKind.i64).pair
                                ((Kd.int IntKind.i64).pair ((Kd.int IntKind.i64).pair (Kd.int IntKind.i64))))))
                          (splice (outL a0 (IntKind.i64.wrap (a2 + 1))).fst (outL a0 (IntKind.i64.wrap (a2 + 1))).snd
                            (List.replicate (a0.length - (outL a0 (IntKind.i64.wrap (a2 + 1))).snd) zPl))])))))
else
  some
    (Xt.exit 0, [PV.undef],
      [Blk.row true
          ((Kd.int IntKind.i64).pair
            ((Kd.int IntKind.i64).pair
              ((Kd.int IntKind.i64).pair ((Kd.int IntKind.i64).pair ((Kd.int IntKind.i64).pair (Kd.int IntKind.i64))))))
          a0])) := by kernel_rfl
noncomputable abbrev z105L (a0 : List (Int × Int × Int × Int × Int × Int)) (a1 : Bool) := evFuncV Try.prog M1 (addCut 0 [0, 3] [2] (entC k105 c105) noCuts) Try.f105 (killA 0 [oPl]) (showA 0 [oPl] ((a0, a1), ())).1 (showA 0 [oPl] ((a0, a1), ())).2
theorem z105 (a0 : List (Int × Int × Int × Int × Int × Int)) (a1 : Bool) : z105L a0 a1 = (bif decide ((↑a0.length : Int) < 2) then
  some
    (PV.sl 1 0 6 a0.length a0.length false a1,
      [Blk.dead,
        Blk.row true
          ((Kd.int IntKind.i64).pair
            ((Kd.int IntKind.i64).pair
              ((Kd.int IntKind.i64).pair ((Kd.int IntKind.i64).pair ((Kd.int IntKind.i64).pair (Kd.int IntKind.i64))))))
          a0])
else
  guardB (bif decide (a0.length = a0.length) then pre105 a0 1 else false)
    (bif (outV a0 1).isNone then
      some
        (PV.sl 1 0 6 a0.length a0.length false a1,
          [Blk.dead,
            Blk.row true
              ((Kd.int IntKind.i64).pair
                ((Kd.int IntKind.i64).pair
                  ((Kd.int IntKind.i64).pair
                    ((Kd.int IntKind.i64).pair ((Kd.int IntKind.i64).pair (Kd.int IntKind.i64))))))
              (sameShp iPl (a0, a1))])
    else
      some
        (PV.sl 1 0 6 (outL a0 1).snd (outL a0 1).snd false a1,
          [Blk.dead,
            Blk.row true
              ((Kd.int IntKind.i64).pair
                ((Kd.int IntKind.i64).pair
                  ((Kd.int IntKind.i64).pair
                    ((Kd.int IntKind.i64).pair ((Kd.int IntKind.i64).pair (Kd.int IntKind.i64))))))
              (splice (outL a0 1).fst (outL a0 1).snd (List.replicate (a0.length - (outL a0 1).snd) zPl))]))) := by kernel_rfl
noncomputable abbrev z63lL (a0 : List (Int × Int × Int × Int × Int × Int)) (a1 : Bool) (a2 : Pl) (a3 : Int) := evRound Try.prog M1 noCuts 45 (loopOf (codeAt 0 (bodyF Try.f63))) kIns muIns (killA 0 kIns) [0, 3, 5] [5] cIns ((a0, a1), (a2, (a3, ())))
theorem z63l (a0 : List (Int × Int × Int × Int × Int × Int)) (a1 : Bool) (a2 : Pl) (a3 : Int) : z63lL a0 a1 a2 a3 = (bif decide (a3 < (↑a0.length : Int)) then
  guardB (decide (0 ≤ a3) && decide (a3 < (↑a0.length : Int)))
    (bindO a0[0 + a3.toNat]? fun x =>
      bif befP x a2 then
        guardB
          (decide
            (muIns ((List.take a0.length a0, a1), a2, IntKind.i64.wrap (a3 + 1), PUnit.unit) <
              muIns ((a0, a1), a2, a3, ())))
          (guardB
            (bif decide (0 + a0.length ≤ a0.length) then preIns (List.take a0.length a0) (IntKind.i64.wrap (a3 + 1))
            else false)
            (some
              (Xt.exit 0,
                [PV.sc (Value.int IntKind.i64 (insK (List.take a0.length a0) a2 (IntKind.i64.wrap (a3 + 1))))],
                [Blk.row false
                    ((Kd.int IntKind.i64).pair
                      ((Kd.int IntKind.i64).pair
                        ((Kd.int IntKind.i64).pair
                          ((Kd.int IntKind.i64).pair ((Kd.int IntKind.i64).pair (Kd.int IntKind.i64))))))
                    a0,
                  Blk.fix false
                    [PV.sc (Value.int IntKind.i64 a2.fst), PV.sc (Value.int IntKind.i64 a2.snd.fst),
                      PV.sc (Value.int IntKind.i64 a2.snd.snd.fst), PV.sc (Value.int IntKind.i64 a2.snd.snd.snd.fst),
                      PV.sc (Value.int IntKind.i64 a2.snd.snd.snd.snd.fst),
                      PV.sc (Value.int IntKind.i64 a2.snd.snd.snd.snd.snd)]])))
      else
        some
          (Xt.exit 0, [PV.sc (Value.int IntKind.i64 a3)],
            [Blk.row false
                ((Kd.int IntKind.i64).pair
                  ((Kd.int IntKind.i64).pair
                    ((Kd.int IntKind.i64).pair
                      ((Kd.int IntKind.i64).pair ((Kd.int IntKind.i64).pair (Kd.int IntKind.i64))))))
                a0,
              Blk.fix false
                [PV.sc (Value.int IntKind.i64 a2.fst), PV.sc (Value.int IntKind.i64 a2.snd.fst),
                  PV.sc (Value.int IntKind.i64 a2.snd.snd.fst), PV.sc (Value.int IntKind.i64 a2.snd.snd.snd.fst),
                  PV.sc (Value.int IntKind.i64 a2.snd.snd.snd.snd.fst),
                  PV.sc (Value.int IntKind.i64 a2.snd.snd.snd.snd.snd)]]))
else
  some
    (Xt.exit 0, [PV.sc (Value.int IntKind.i64 a3)],
      [Blk.row false
          ((Kd.int IntKind.i64).pair
            ((Kd.int IntKind.i64).pair
              ((Kd.int IntKind.i64).pair ((Kd.int IntKind.i64).pair ((Kd.int IntKind.i64).pair (Kd.int IntKind.i64))))))
          a0,
        Blk.fix false
          [PV.sc (Value.int IntKind.i64 a2.fst), PV.sc (Value.int IntKind.i64 a2.snd.fst),
            PV.sc (Value.int IntKind.i64 a2.snd.snd.fst), PV.sc (Value.int IntKind.i64 a2.snd.snd.snd.fst),
            PV.sc (Value.int IntKind.i64 a2.snd.snd.snd.snd.fst),
            PV.sc (Value.int IntKind.i64 a2.snd.snd.snd.snd.snd)]])) := by kernel_rfl
noncomputable abbrev z63L (a0 : List (Int × Int × Int × Int × Int × Int)) (a1 : Bool) (a2 : Pl) := evFuncV Try.prog M1 (addCut 0 [0, 3, 5] [5] (entC kIns cIns) noCuts) Try.f63 (killA 0 [oPl, sPl]) (showA 0 [oPl, sPl] ((a0, a1), (a2, ()))).1 (showA 0 [oPl, sPl] ((a0, a1), (a2, ()))).2
theorem z63 (a0 : List (Int × Int × Int × Int × Int × Int)) (a1 : Bool) (a2 : Pl) : z63L a0 a1 a2 = (guardB (bif decide (0 + a0.length ≤ a0.length) then preIns (List.take a0.length a0) 0 else false)
  (bif decide (insK (List.take a0.length a0) a2 0 < (↑a0.length : Int)) then
    guardB
      (decide (0 ≤ insK (List.take a0.length a0) a2 0) &&
        decide (insK (List.take a0.length a0) a2 0 < (↑a0.length : Int)))
      (bindO a0[0 + (insK (List.take a0.length a0) a2 0).toNat]? fun x =>
        bif
            x.fst == a2.fst &&
              (x.snd.fst == a2.snd.fst &&
                (x.snd.snd.fst == a2.snd.snd.fst &&
                  (x.snd.snd.snd.fst == a2.snd.snd.snd.fst &&
                    (x.snd.snd.snd.snd.fst == a2.snd.snd.snd.snd.fst &&
                      (x.snd.snd.snd.snd.snd == a2.snd.snd.snd.snd.snd && true))))) then
          some
            (PV.sl 1 0 6 a0.length a0.length false a1,
              [Blk.dead,
                Blk.row true
                  ((Kd.int IntKind.i64).pair
                    ((Kd.int IntKind.i64).pair
                      ((Kd.int IntKind.i64).pair
                        ((Kd.int IntKind.i64).pair ((Kd.int IntKind.i64).pair (Kd.int IntKind.i64))))))
                  a0])
        else
          guardB (decide (insK (List.take a0.length a0) a2 0 ≤ (↑a0.length : Int)))
            (guardB
              (decide (0 + ((insK (List.take a0.length a0) a2 0).toNat - 0) ≤ a0.length) &&
                  decide ((0 + ((insK (List.take a0.length a0) a2 0).toNat - 0)) * 48 ≤ 140737488355328) &&
                decide (0 + ((insK (List.take a0.length a0) a2 0).toNat - 0) ≤ 4611686018427387904))
              (bif decide (1 ≤ (insK (List.take a0.length a0) a2 0).toNat - 0) then
                guardB
                  (decide
                          (0 + (0 + ((insK (List.take a0.length a0) a2 0).toNat - 0)) ≤
                            (List.take ((insK (List.take a0.length a0) a2 0).toNat - 0) a0).length) &&
                        true &&
                      decide ((0 + ((insK (List.take a0.length a0) a2 0).toNat - 0) + 1) * 48 ≤ 140737488355328) &&
                    decide (0 + ((insK (List.take a0.length a0) a2 0).toNat - 0) + 1 ≤ 4611686018427387904))
                  (guardB
                    (decide (0 ≤ insK (List.take a0.length a0) a2 0) &&
                        decide (insK (List.take a0.length a0) a2 0 ≤ (↑a0.length : Int)) &&
                      decide ((↑a0.length : Int) ≤ (↑a0.length : Int)))
                    (guardB
                      (decide
                              (0 + (0 + ((insK (List.take a0.length a0) a2 0).toNat - 0) + 1) ≤
                                (List.take (0 + ((insK (List.take a0.length a0) a2 0).toNat - 0))
                                      (List.take ((insK (List.take a0.length a0) a2 0).toNat - 0) a0) ++
                                    [a2]).length) &&
                            decide
                              (0 + (insK (List.take a0.length a0) a2 0).toNat +
                                  ((↑a0.length : Int).toNat - (insK (List.take a0.length a0) a2 0).toNat) ≤
                                a0.length) &&
                          decide
                            ((0 + ((insK (List.take a0.length a0) a2 0).toNat - 0) + 1 +
                                  ((↑a0.length : Int).toNat - (insK (List.take a0.length a0) a2 0).toNat)) *
                                48 ≤
                              140737488355328) &&
                        decide
                          (0 + ((insK (List.take a0.length a0) a2 0).toNat - 0) + 1 +
                              ((↑a0.length : Int).toNat - (insK (List.take a0.length a0) a2 0).toNat) ≤
                            4611686018427387904))
                      (some
                        (PV.sl 1 0 6
                            (0 + ((insK (List.take a0.length a0) a2 0).toNat - 0) + 1 +
                              ((↑a0.length : Int).toNat - (insK (List.take a0.length a0) a2 0).toNat))
                            (0 + ((insK (List.take a0.length a0) a2 0).toNat - 0) + 1 +
                              ((↑a0.length : Int).toNat - (insK (List.take a0.length a0) a2 0).toNat))
                            false
                            (((↑a0.length : Int).toNat - (insK (List.take a0.length a0) a2 0).toNat).beq 0 && false),
                          [Blk.dead,
                            Blk.row true
                              ((Kd.int IntKind.i64).pair
                                ((Kd.int IntKind.i64).pair
                                  ((Kd.int IntKind.i64).pair
                                    ((Kd.int IntKind.i64).pair ((Kd.int IntKind.i64).pair (Kd.int IntKind.i64))))))
                              (List.take (0 + ((insK (List.take a0.length a0) a2 0).toNat - 0) + 1)
                                  (List.take (0 + ((insK (List.take a0.length a0) a2 0).toNat - 0))
                                      (List.take ((insK (List.take a0.length a0) a2 0).toNat - 0) a0) ++
                                    [a2]) ++
                                List.take ((↑a0.length : Int).toNat - (insK (List.take a0.length a0) a2 0).toNat)
                                  (List.drop (0 + (insK (List.take a0.length a0) a2 0).toNat) a0))]))))
              else
                guardB
                  (decide
                          (0 + (0 + ((insK (List.take a0.length a0) a2 0).toNat - 0)) ≤
                            (List.take ((insK (List.take a0.length a0) a2 0).toNat - 0) a0).length) &&
                        true &&
                      decide ((0 + ((insK (List.take a0.length a0) a2 0).toNat - 0) + 1) * 48 ≤ 140737488355328) &&
                    decide (0 + ((insK (List.take a0.length a0) a2 0).toNat - 0) + 1 ≤ 4611686018427387904))
                  (guardB
                    (decide (0 ≤ insK (List.take a0.length a0) a2 0) &&
                        decide (insK (List.take a0.length a0) a2 0 ≤ (↑a0.length : Int)) &&
                      decide ((↑a0.length : Int) ≤ (↑a0.length : Int)))
                    (guardB
                      (decide
                              (0 + (0 + ((insK (List.take a0.length a0) a2 0).toNat - 0) + 1) ≤
                                (List.take (0 + ((insK (List.take a0.length a0) a2 0).toNat - 0))
                                      (List.take ((insK (List.take a0.length a0) a2 0).toNat - 0) a0) ++
                                    [a2]).length) &&
                            decide
                              (0 + (insK (List.take a0.length a0) a2 0).toNat +
                                  ((↑a0.length : Int).toNat - (insK (List.take a0.length a0) a2 0).toNat) ≤
                                a0.length) &&
                          decide
                            ((0 + ((insK (List.take a0.length a0) a2 0).toNat - 0) + 1 +
                                  ((↑a0.length : Int).toNat - (insK (List.take a0.length a0) a2 0).toNat)) *
                                48 ≤
                              140737488355328) &&
                        decide
                          (0 + ((insK (List.take a0.length a0) a2 0).toNat - 0) + 1 +
                              ((↑a0.length : Int).toNat - (insK (List.take a0.length a0) a2 0).toNat) ≤
                            4611686018427387904))
                      (some
                        (PV.sl 1 0 6
                            (0 + ((insK (List.take a0.length a0) a2 0).toNat - 0) + 1 +
                              ((↑a0.length : Int).toNat - (insK (List.take a0.length a0) a2 0).toNat))
                            (0 + ((insK (List.take a0.length a0) a2 0).toNat - 0) + 1 +
                              ((↑a0.length : Int).toNat - (insK (List.take a0.length a0) a2 0).toNat))
                            false
                            (((↑a0.length : Int).toNat - (insK (List.take a0.length a0) a2 0).toNat).beq 0 && false),
                          [Blk.dead,
                            Blk.row true
                              ((Kd.int IntKind.i64).pair
                                ((Kd.int IntKind.i64).pair
                                  ((Kd.int IntKind.i64).pair
                                    ((Kd.int IntKind.i64).pair ((Kd.int IntKind.i64).pair (Kd.int IntKind.i64))))))
                              (List.take (0 + ((insK (List.take a0.length a0) a2 0).toNat - 0) + 1)
                                  (List.take (0 + ((insK (List.take a0.length a0) a2 0).toNat - 0))
                                      (List.take ((insK (List.take a0.length a0) a2 0).toNat - 0) a0) ++
                                    [a2]) ++
                                List.take ((↑a0.length : Int).toNat - (insK (List.take a0.length a0) a2 0).toNat)
                                  (List.drop (0 + (insK (List.take a0.length a0) a2 0).toNat) a0))])))))))
  else
    guardB (decide (insK (List.take a0.length a0) a2 0 ≤ (↑a0.length : Int)))
      (guardB
        (decide (0 + ((insK (List.take a0.length a0) a2 0).toNat - 0) ≤ a0.length) &&
            decide ((0 + ((insK (List.take a0.length a0) a2 0).toNat - 0)) * 48 ≤ 140737488355328) &&
          decide (0 + ((insK (List.take a0.length a0) a2 0).toNat - 0) ≤ 4611686018427387904))
        (bif decide (1 ≤ (insK (List.take a0.length a0) a2 0).toNat - 0) then
          guardB
            (decide
                    (0 + (0 + ((insK (List.take a0.length a0) a2 0).toNat - 0)) ≤
                      (List.take ((insK (List.take a0.length a0) a2 0).toNat - 0) a0).length) &&
                  true &&
                decide ((0 + ((insK (List.take a0.length a0) a2 0).toNat - 0) + 1) * 48 ≤ 140737488355328) &&
              decide (0 + ((insK (List.take a0.length a0) a2 0).toNat - 0) + 1 ≤ 4611686018427387904))
            (guardB
              (decide (0 ≤ insK (List.take a0.length a0) a2 0) &&
                  decide (insK (List.take a0.length a0) a2 0 ≤ (↑a0.length : Int)) &&
                decide ((↑a0.length : Int) ≤ (↑a0.length : Int)))
              (guardB
                (decide
                        (0 + (0 + ((insK (List.take a0.length a0) a2 0).toNat - 0) + 1) ≤
                          (List.take (0 + ((insK (List.take a0.length a0) a2 0).toNat - 0))
                                (List.take ((insK (List.take a0.length a0) a2 0).toNat - 0) a0) ++
                              [a2]).length) &&
                      decide
                        (0 + (insK (List.take a0.length a0) a2 0).toNat +
                            ((↑a0.length : Int).toNat - (insK (List.take a0.length a0) a2 0).toNat) ≤
                          a0.length) &&
                    decide
                      ((0 + ((insK (List.take a0.length a0) a2 0).toNat - 0) + 1 +
                            ((↑a0.length : Int).toNat - (insK (List.take a0.length a0) a2 0).toNat)) *
                          48 ≤
                        140737488355328) &&
                  decide
                    (0 + ((insK (List.take a0.length a0) a2 0).toNat - 0) + 1 +
                        ((↑a0.length : Int).toNat - (insK (List.take a0.length a0) a2 0).toNat) ≤
                      4611686018427387904))
                (some
                  (PV.sl 1 0 6
                      (0 + ((insK (List.take a0.length a0) a2 0).toNat - 0) + 1 +
                        ((↑a0.length : Int).toNat - (insK (List.take a0.length a0) a2 0).toNat))
                      (0 + ((insK (List.take a0.length a0) a2 0).toNat - 0) + 1 +
                        ((↑a0.length : Int).toNat - (insK (List.take a0.length a0) a2 0).toNat))
                      false (((↑a0.length : Int).toNat - (insK (List.take a0.length a0) a2 0).toNat).beq 0 && false),
                    [Blk.dead,
                      Blk.row true
                        ((Kd.int IntKind.i64).pair
                          ((Kd.int IntKind.i64).pair
                            ((Kd.int IntKind.i64).pair
                              ((Kd.int IntKind.i64).pair ((Kd.int IntKind.i64).pair (Kd.int IntKind.i64))))))
                        (List.take (0 + ((insK (List.take a0.length a0) a2 0).toNat - 0) + 1)
                            (List.take (0 + ((insK (List.take a0.length a0) a2 0).toNat - 0))
                                (List.take ((insK (List.take a0.length a0) a2 0).toNat - 0) a0) ++
                              [a2]) ++
                          List.take ((↑a0.length : Int).toNat - (insK (List.take a0.length a0) a2 0).toNat)
                            (List.drop (0 + (insK (List.take a0.length a0) a2 0).toNat) a0))]))))
        else
          guardB
            (decide
                    (0 + (0 + ((insK (List.take a0.length a0) a2 0).toNat - 0)) ≤
                      (List.take ((insK (List.take a0.length a0) a2 0).toNat - 0) a0).length) &&
                  true &&
                decide ((0 + ((insK (List.take a0.length a0) a2 0).toNat - 0) + 1) * 48 ≤ 140737488355328) &&
              decide (0 + ((insK (List.take a0.length a0) a2 0).toNat - 0) + 1 ≤ 4611686018427387904))
            (guardB
              (decide (0 ≤ insK (List.take a0.length a0) a2 0) &&
                  decide (insK (List.take a0.length a0) a2 0 ≤ (↑a0.length : Int)) &&
                decide ((↑a0.length : Int) ≤ (↑a0.length : Int)))
              (guardB
                (decide
                        (0 + (0 + ((insK (List.take a0.length a0) a2 0).toNat - 0) + 1) ≤
                          (List.take (0 + ((insK (List.take a0.length a0) a2 0).toNat - 0))
                                (List.take ((insK (List.take a0.length a0) a2 0).toNat - 0) a0) ++
                              [a2]).length) &&
                      decide
                        (0 + (insK (List.take a0.length a0) a2 0).toNat +
                            ((↑a0.length : Int).toNat - (insK (List.take a0.length a0) a2 0).toNat) ≤
                          a0.length) &&
                    decide
                      ((0 + ((insK (List.take a0.length a0) a2 0).toNat - 0) + 1 +
                            ((↑a0.length : Int).toNat - (insK (List.take a0.length a0) a2 0).toNat)) *
                          48 ≤
                        140737488355328) &&
                  decide
                    (0 + ((insK (List.take a0.length a0) a2 0).toNat - 0) + 1 +
                        ((↑a0.length : Int).toNat - (insK (List.take a0.length a0) a2 0).toNat) ≤
                      4611686018427387904))
                (some
                  (PV.sl 1 0 6
                      (0 + ((insK (List.take a0.length a0) a2 0).toNat - 0) + 1 +
                        ((↑a0.length : Int).toNat - (insK (List.take a0.length a0) a2 0).toNat))
                      (0 + ((insK (List.take a0.length a0) a2 0).toNat - 0) + 1 +
                        ((↑a0.length : Int).toNat - (insK (List.take a0.length a0) a2 0).toNat))
                      false (((↑a0.length : Int).toNat - (insK (List.take a0.length a0) a2 0).toNat).beq 0 && false),
                    [Blk.dead,
                      Blk.row true
                        ((Kd.int IntKind.i64).pair
                          ((Kd.int IntKind.i64).pair
                            ((Kd.int IntKind.i64).pair
                              ((Kd.int IntKind.i64).pair ((Kd.int IntKind.i64).pair (Kd.int IntKind.i64))))))
                        (List.take (0 + ((insK (List.take a0.length a0) a2 0).toNat - 0) + 1)
                            (List.take (0 + ((insK (List.take a0.length a0) a2 0).toNat - 0))
                                (List.take ((insK (List.take a0.length a0) a2 0).toNat - 0) a0) ++
                              [a2]) ++
                          List.take ((↑a0.length : Int).toNat - (insK (List.take a0.length a0) a2 0).toNat)
                            (List.drop (0 + (insK (List.take a0.length a0) a2 0).toNat) a0))])))))))) := by kernel_rfl
noncomputable abbrev z64lL (a0 : List (Int × Int × Int × Int × Int × Int)) (a1 : Bool) (a2 : List (Int × Int × Int × Int × Int × Int)) (a3 : Bool) (a4 : Int) (a5 : Int) := evRound Try.prog M1 noCuts 26 (loopOf (codeAt 0 (bodyF Try.f64))) kSm muSm (killA 0 kSm) [0, 1, 12, 13] [4] cSm ((a0, a1), ((a2, a3), (a4, (a5, ()))))
theorem z64l (a0 : List (Int × Int × Int × Int × Int × Int)) (a1 : Bool) (a2 : List (Int × Int × Int × Int × Int × Int)) (a3 : Bool) (a4 : Int) (a5 : Int) : z64lL a0 a1 a2 a3 a4 a5 = (bif decide (a5 < a4) then
  guardB (decide (0 ≤ a5) && decide (a5 < (↑a0.length : Int)))
    (bindO a0[0 + a5.toNat]? fun x =>
      guardB (decide (0 ≤ a5) && decide (a5 < (↑a2.length : Int)))
        (bindO a2[0 + a5.toNat]? fun x_1 =>
          bif
              !(x.fst == x_1.fst &&
                  (x.snd.fst == x_1.snd.fst &&
                    (x.snd.snd.fst == x_1.snd.snd.fst &&
                      (x.snd.snd.snd.fst == x_1.snd.snd.snd.fst &&
                        (x.snd.snd.snd.snd.fst == x_1.snd.snd.snd.snd.fst &&
                          (x.snd.snd.snd.snd.snd == x_1.snd.snd.snd.snd.snd && true)))))) then
            some
              (Xt.ret, [PV.sc (Value.bool false)],
                [Blk.row false
                    ((Kd.int IntKind.i64).pair
                      ((Kd.int IntKind.i64).pair
                        ((Kd.int IntKind.i64).pair
                          ((Kd.int IntKind.i64).pair ((Kd.int IntKind.i64).pair (Kd.int IntKind.i64))))))
                    a0,
                  Blk.row false
                    ((Kd.int IntKind.i64).pair
                      ((Kd.int IntKind.i64).pair
                        ((Kd.int IntKind.i64).pair
                          ((Kd.int IntKind.i64).pair ((Kd.int IntKind.i64).pair (Kd.int IntKind.i64))))))
                    a2])
          else
            guardB
              (decide
                (muSm
                    ((List.take a0.length a0, a1), (List.take a2.length a2, a3), a4, IntKind.i64.wrap (a5 + 1),
                      PUnit.unit) <
                  muSm ((a0, a1), (a2, a3), a4, a5, ())))
              (guardB
                (bif decide (0 + a0.length ≤ a0.length) then
                  bif decide (0 + a2.length ≤ a2.length) then
                    preSm (List.take a0.length a0) (List.take a2.length a2) a4 (IntKind.i64.wrap (a5 + 1))
                  else false
                else false)
                (bif
                    bp
                      (List.drop (IntKind.i64.wrap (a5 + 1)).toNat (List.take a0.length a0) =
                        List.drop (IntKind.i64.wrap (a5 + 1)).toNat (List.take a2.length a2)) then
                  some
                    (Xt.exit 0, [PV.undef],
                      [Blk.row false
                          ((Kd.int IntKind.i64).pair
                            ((Kd.int IntKind.i64).pair
                              ((Kd.int IntKind.i64).pair
                                ((Kd.int IntKind.i64).pair ((Kd.int IntKind.i64).pair (Kd.int IntKind.i64))))))
                          a0,
                        Blk.row false
                          ((Kd.int IntKind.i64).pair
                            ((Kd.int IntKind.i64).pair
                              ((Kd.int IntKind.i64).pair
                                ((Kd.int IntKind.i64).pair ((Kd.int IntKind.i64).pair (Kd.int IntKind.i64))))))
                          a2])
                else
                  some
                    (Xt.ret, [PV.sc (Value.bool false)],
                      [Blk.row false
                          ((Kd.int IntKind.i64).pair
                            ((Kd.int IntKind.i64).pair
                              ((Kd.int IntKind.i64).pair
                                ((Kd.int IntKind.i64).pair ((Kd.int IntKind.i64).pair (Kd.int IntKind.i64))))))
                          a0,
                        Blk.row false
                          ((Kd.int IntKind.i64).pair
                            ((Kd.int IntKind.i64).pair
                              ((Kd.int IntKind.i64).pair
                                ((Kd.int IntKind.i64).pair ((Kd.int IntKind.i64).pair (Kd.int IntKind.i64))))))
                          a2])))))
else
  some
    (Xt.exit 0, [PV.undef],
      [Blk.row false
          ((Kd.int IntKind.i64).pair
            ((Kd.int IntKind.i64).pair
              ((Kd.int IntKind.i64).pair ((Kd.int IntKind.i64).pair ((Kd.int IntKind.i64).pair (Kd.int IntKind.i64))))))
          a0,
        Blk.row false
          ((Kd.int IntKind.i64).pair
            ((Kd.int IntKind.i64).pair
              ((Kd.int IntKind.i64).pair ((Kd.int IntKind.i64).pair ((Kd.int IntKind.i64).pair (Kd.int IntKind.i64))))))
          a2])) := by kernel_rfl
noncomputable abbrev z64L (a0 : List (Int × Int × Int × Int × Int × Int)) (a1 : Bool) (a2 : List (Int × Int × Int × Int × Int × Int)) (a3 : Bool) := evFuncV Try.prog M1 (addCut 0 [0, 1, 12, 13] [4] (entC kSm cSm) noCuts) Try.f64 (killA 0 [rPl, rPl]) (showA 0 [rPl, rPl] ((a0, a1), ((a2, a3), ()))).1 (showA 0 [rPl, rPl] ((a0, a1), ((a2, a3), ()))).2
theorem z64 (a0 : List (Int × Int × Int × Int × Int × Int)) (a1 : Bool) (a2 : List (Int × Int × Int × Int × Int × Int)) (a3 : Bool) : z64L a0 a1 a2 a3 = (bif (↑a0.length : Int) != (↑a2.length : Int) then
  some
    (PV.sc (Value.bool false),
      [Blk.row false
          ((Kd.int IntKind.i64).pair
            ((Kd.int IntKind.i64).pair
              ((Kd.int IntKind.i64).pair ((Kd.int IntKind.i64).pair ((Kd.int IntKind.i64).pair (Kd.int IntKind.i64))))))
          a0,
        Blk.row false
          ((Kd.int IntKind.i64).pair
            ((Kd.int IntKind.i64).pair
              ((Kd.int IntKind.i64).pair ((Kd.int IntKind.i64).pair ((Kd.int IntKind.i64).pair (Kd.int IntKind.i64))))))
          a2])
else
  guardB
    (bif decide (0 + a0.length ≤ a0.length) then
      bif decide (0 + a2.length ≤ a2.length) then
        preSm (List.take a0.length a0) (List.take a2.length a2) (↑a0.length : Int) 0
      else false
    else false)
    (bif bp (List.drop (Int.toNat 0) (List.take a0.length a0) = List.drop (Int.toNat 0) (List.take a2.length a2)) then
      some
        (PV.sc (Value.bool true),
          [Blk.row false
              ((Kd.int IntKind.i64).pair
                ((Kd.int IntKind.i64).pair
                  ((Kd.int IntKind.i64).pair
                    ((Kd.int IntKind.i64).pair ((Kd.int IntKind.i64).pair (Kd.int IntKind.i64))))))
              a0,
            Blk.row false
              ((Kd.int IntKind.i64).pair
                ((Kd.int IntKind.i64).pair
                  ((Kd.int IntKind.i64).pair
                    ((Kd.int IntKind.i64).pair ((Kd.int IntKind.i64).pair (Kd.int IntKind.i64))))))
              a2])
    else
      some
        (PV.sc (Value.bool false),
          [Blk.row false
              ((Kd.int IntKind.i64).pair
                ((Kd.int IntKind.i64).pair
                  ((Kd.int IntKind.i64).pair
                    ((Kd.int IntKind.i64).pair ((Kd.int IntKind.i64).pair (Kd.int IntKind.i64))))))
              a0,
            Blk.row false
              ((Kd.int IntKind.i64).pair
                ((Kd.int IntKind.i64).pair
                  ((Kd.int IntKind.i64).pair
                    ((Kd.int IntKind.i64).pair ((Kd.int IntKind.i64).pair (Kd.int IntKind.i64))))))
              a2]))) := by kernel_rfl
theorem lenT {α : Type} {l : List α} : decide (l.length ≤ l.length) = true := decide_eq_true (Nat.le_refl _)
theorem lenS {α : Type} {l : List α} : decide (l.length = l.length) = true := decide_eq_true rfl
theorem getE {α : Type} {l : List α} {k : Nat} (h : k < l.length) : ∃ x, l[k]? = some x := ⟨_, List.getElem?_eq_getElem h⟩
theorem dropC {α : Type} {l : List α} {k : Nat} {x : α} (h : l[k]? = some x) : l.drop k = x :: l.drop (k + 1) := by
  obtain ⟨hk, rfl⟩ := List.getElem?_eq_some_iff.1 h
  exact List.drop_eq_getElem_cons hk
theorem getDo {l : List Pl} {j : Nat} {x : Pl} (h : l[j]? = some x) : l.getD j zPl = x := by rw [List.getD_eq_getElem?_getD, h]; rfl
theorem bpN {p : Prop} (h : ¬ p) : bp p = false := by
  cases hb : bp p with
  | false => rfl
  | true => exact absurd (bp_true.1 hb) h
theorem e6 (a1 a2 a3 a4 a5 a6 b1 b2 b3 b4 b5 b6 : Int) : (a1 == b1 && (a2 == b2 && (a3 == b3 && (a4 == b4 && (a5 == b5 && (a6 == b6 && true)))))) = true ↔ ((a1, a2, a3, a4, a5, a6) : Int × Int × Int × Int × Int × Int) = (b1, b2, b3, b4, b5, b6) := by
  simp [and_assoc]
theorem eqAt (x y : Pl) : (x.1 == y.1 && (x.2.1 == y.2.1 && (x.2.2.1 == y.2.2.1 && (x.2.2.2.1 == y.2.2.2.1 && (x.2.2.2.2.1 == y.2.2.2.2.1 && (x.2.2.2.2.2 == y.2.2.2.2.2 && true)))))) = eqP x y :=
  Bool.eq_iff_iff.2 ((e6 x.1 x.2.1 x.2.2.1 x.2.2.2.1 x.2.2.2.2.1 x.2.2.2.2.2 y.1 y.2.1 y.2.2.1 y.2.2.2.1 y.2.2.2.2.1 y.2.2.2.2.2).trans bp_true.symm)
theorem eqP_true {x y : Pl} : eqP x y = true ↔ x = y := bp_true
theorem eqP_self (x : Pl) : eqP x x = true := bp_mk rfl
/-! ### One plot -/
theorem chk6 (r t d a h c : Int) {X Y : Option (PV × List Blk)} : (bif decide (r < 0) then X else bif decide (r > 255) then X else bif decide (t < 0) then X else bif decide (t > 200000) then X else bif decide (d < 0) then X else bif decide (d > 2000000) then X else bif decide (a < 0) then X else bif decide (a > 4095) then X else bif decide (h < 0) then X else bif decide (h > 60000) then X else bif decide (c < -1) then X else bif decide (c > 4095) then X else Y) = bif decide (plN r t d a h c) then Y else X := by
  have key : ∀ (b1 b2 b3 b4 b5 b6 b7 b8 b9 b10 b11 b12 : Bool), (bif b1 then X else bif b2 then X else bif b3 then X else bif b4 then X else bif b5 then X else bif b6 then X else bif b7 then X else bif b8 then X else bif b9 then X else bif b10 then X else bif b11 then X else bif b12 then X else Y) = bif !(b1 || (b2 || (b3 || (b4 || (b5 || (b6 || (b7 || (b8 || (b9 || (b10 || (b11 || b12))))))))))) then Y else X := by
    intro b1 b2 b3 b4 b5 b6 b7 b8 b9 b10 b11 b12
    cases b1 <;> cases b2 <;> cases b3 <;> cases b4 <;> cases b5 <;> cases b6 <;> cases b7 <;> cases b8 <;> cases b9 <;> cases b10 <;> cases b11 <;> cases b12 <;> rfl
  rw [key]
  congr 1
  rw [Bool.eq_iff_iff]
  simp only [Bool.not_eq_true', Bool.or_eq_false_iff, decide_eq_false_iff_not, decide_eq_true_eq]
  omega
theorem q97 (p : Pl) : z97L p = some (.sc (.int .i64 (plE p)), []) := by
  rw [z97, chk6 p.1 p.2.1 p.2.2.1 p.2.2.2.1 p.2.2.2.2.1 p.2.2.2.2.2]
  unfold plE plV
  cases decide (plN p.1 p.2.1 p.2.2.1 p.2.2.2.1 p.2.2.2.2.1 p.2.2.2.2.2) <;> rfl
theorem plE_or (p : Pl) : plE p = 0 ∨ plE p = 4 := by
  unfold plE plV
  cases decide (plN p.1 p.2.1 p.2.2.1 p.2.2.2.1 p.2.2.2.2.1 p.2.2.2.2.2) with
  | true => exact Or.inl rfl
  | false => exact Or.inr rfl
theorem plE_tm {p : Pl} (h : plE p = 0) : @LE.le Int _ 0 (tmP p) := by
  unfold plE plV at h
  by_cases k : plN p.1 p.2.1 p.2.2.1 p.2.2.2.1 p.2.2.2.2.1 p.2.2.2.2.2
  · exact k.2.2.1
  · rw [decide_eq_false k] at h; exact absurd h (by decide)
/-! ### Compact -/
theorem inn_step {L : List Pl} {e n2 : Nat} {k k2 : Int} {x y : Pl} (h4 : 1 ≤ k2) (hk : k2 < (n2 : Int)) (h0 : 0 ≤ k) (hx : L[e + k2.toNat]? = some x) (hy : L[e + (k2 - 1).toNat]? = some y) :
    innV L e n2 k k2 = bif eqP x y then innV L e n2 k (k2 + 1) else innV (L.set k.toNat x) e n2 (k + 1) (k2 + 1) := by
  unfold innV
  rw [show n2 - k2.toNat = (n2 - (k2 + 1).toNat) + 1 by omega]
  show (bif eqP (L.getD (e + k2.toNat) zPl) (L.getD (e + k2.toNat - 1) zPl) then inn (n2 - (k2 + 1).toNat) L k.toNat (e + k2.toNat + 1) else inn (n2 - (k2 + 1).toNat) (L.set k.toNat (L.getD (e + k2.toNat) zPl)) (k.toNat + 1) (e + k2.toNat + 1)) = _
  rw [show e + k2.toNat - 1 = e + (k2 - 1).toNat by omega, getDo hx, getDo hy, show e + (k2 + 1).toNat = e + k2.toNat + 1 by omega, show (k + 1).toNat = k.toNat + 1 by omega]
theorem q105i (L : List Pl) (n lo : Nat) (fu nl : Bool) (e n2 lo2 : Nat) (fu2 nl2 : Bool) (k k2 : Int) (h : preIn L n e n2 k k2 = true) :
    z105iL L n lo fu nl e n2 lo2 fu2 nl2 k k2 = some (.exit 2, [.sc (.int .i64 ((innV L e n2 k k2).2 : Nat))], [.row true kPl (innV L e n2 k k2).1]) := by
  obtain ⟨rfl, h2, h3, h4, h5, h6, h7⟩ := of_decide_eq_true h
  rw [z105i]
  refine cond_split (fun hk => ?_) (fun hk => ?_)
  · have hk := of_decide_eq_true hk
    obtain ⟨x, hx⟩ := getE (l := L) (k := e + k2.toNat) (by omega)
    obtain ⟨y, hy⟩ := getE (l := L) (k := e + (k2 - 1).toNat) (by omega)
    obtain ⟨z, hz⟩ := getE (l := L) (k := 0 + k.toNat) (by omega)
    have hw : IntKind.i64.wrap (k2 + 1) = k2 + 1 := W_id _ (by omega) (by omega)
    have hw1 : IntKind.i64.wrap (k2 - 1) = k2 - 1 := W_id _ (by omega) (by omega)
    have hw2 : IntKind.i64.wrap (k + 1) = k + 1 := W_id _ (by omega) (by omega)
    rw [inn_step h4 hk (by omega) hx hy, hx, hw, hw1, hw2, hy]
    refine guard_split (by simp; omega) ?_
    simp only [bindO]
    refine guard_split (by simp; omega) ?_
    rw [eqAt x y]
    have hmu : ∀ (A C : List Pl) (a c : Int), decide (muIn (A, L.length, lo, fu, nl, e, n2, lo2, fu2, nl2, a, k2 + 1) < muIn (C, L.length, lo, fu, nl, e, n2, lo2, fu2, nl2, c, k2)) = true := fun A C a c => decide_eq_true (show n2 - (k2 + 1).toNat < n2 - k2.toNat by omega)
    cases eqP x y with
    | true => exact guard_split (hmu _ _ _ _) (guard_split (decide_eq_true ⟨rfl, h2, h3, by omega, by omega, by omega, by omega⟩) rfl)
    | false =>
      simp only [Bool.not_false, cond_true, cond_false]
      refine guard_split (by simp; omega) (guard_split (by simp; omega) ?_)
      rw [hz, Nat.zero_add]
      simp only [bindO]
      exact guard_split (hmu _ _ _ _) (guard_split (decide_eq_true ⟨by simp, by simpa using h2, by simpa using h3, by omega, by omega, by omega, by omega⟩) rfl)
  · have hk := of_decide_eq_false hk
    have : innV L e n2 k k2 = (L, k.toNat) := by unfold innV; rw [show n2 - k2.toNat = 0 by omega]; rfl
    rw [this]
    show some (Xt.exit 2, [PV.sc (.int .i64 k)], _) = some (Xt.exit 2, [PV.sc (.int .i64 ((k.toNat : Nat) : Int))], _)
    rw [show ((k.toNat : Nat) : Int) = k by omega]
theorem inn_len : ∀ (f : Nat) (L : List Pl) (k q : Nat), (inn f L k q).1.length = L.length ∧ (inn f L k q).2 ≤ k + f
  | 0, L, k, q => ⟨rfl, Nat.le_refl _⟩
  | f + 1, L, k, q => by
    have e : inn (f + 1) L k q = bif eqP (L.getD q zPl) (L.getD (q - 1) zPl) then inn f L k (q + 1) else inn f (L.set k (L.getD q zPl)) (k + 1) (q + 1) := rfl
    rw [e]
    cases eqP (L.getD q zPl) (L.getD (q - 1) zPl) with
    | true => have := inn_len f L k (q + 1); exact ⟨this.1, by have := this.2; simp only [cond_true]; omega⟩
    | false => have := inn_len f (L.set k (L.getD q zPl)) (k + 1) (q + 1); exact ⟨by simpa using this.1, by have := this.2; simp only [cond_false]; omega⟩
theorem out_step {l : List Pl} {k : Int} {x y : Pl} (h1 : 1 ≤ k) (hk : k < (l.length : Int)) (hx : l[k.toNat]? = some x) (hy : l[(k - 1).toNat]? = some y) :
    outV l k = bif eqP x y then some (inn (l.length - k.toNat - 1) l k.toNat (k.toNat + 1)) else outV l (k + 1) := by
  unfold outV
  rw [show l.length - k.toNat = (l.length - (k + 1).toNat) + 1 by omega]
  show (bif eqP (l.getD k.toNat zPl) (l.getD (k.toNat - 1) zPl) then some (inn (l.length - k.toNat - 1) l k.toNat (k.toNat + 1)) else outC (l.length - (k + 1).toNat) l (k.toNat + 1)) = _
  rw [getDo hx, show k.toNat - 1 = (k - 1).toNat by omega, getDo hy, show (k + 1).toNat = k.toNat + 1 by omega, show l.length - (k.toNat + 1) + 1 - 1 = l.length - k.toNat - 1 by omega]
theorem q105o (l : List Pl) (nl : Bool) (k : Int) (h : pre105 l k = true) : z105oL l nl k = pickA (c105 ((l, nl), k, ())).2 := by
  obtain ⟨h1, h2, h3⟩ := of_decide_eq_true h
  have key : ∀ (x : Option (Xt × List PV × List Blk)), x = cond (outV l k).isNone (some (.exit 0, [.undef], [.row true kPl l])) (some (.ret, [.sl 1 0 6 (outL l k).2 (outL l k).2 false nl], [.dead, .row true kPl (splice (outL l k).1 (outL l k).2 (List.replicate (l.length - (outL l k).2) zPl))])) → x = pickA (c105 ((l, nl), k, ())).2 := fun x h => h
  refine key _ ?_
  rw [z105o]
  simp only [lenT, lenS, cond_true, Nat.zero_add]
  refine cond_split (fun hk => ?_) (fun hk => ?_)
  · have hk := of_decide_eq_true hk
    obtain ⟨x, hx⟩ := getE (l := l) (k := k.toNat) (by omega)
    obtain ⟨y, hy⟩ := getE (l := l) (k := (k - 1).toNat) (by omega)
    have hw : IntKind.i64.wrap (k + 1) = k + 1 := W_id _ (by omega) (by omega)
    have hw1 : IntKind.i64.wrap (k - 1) = k - 1 := W_id _ (by omega) (by omega)
    unfold outL
    rw [out_step h2 hk hx hy, hx, hw, hw1, hy]
    refine guard_split (by simp; omega) ?_
    simp only [bindO]
    refine guard_split (by simp; omega) ?_
    rw [eqAt x y]
    cases eqP x y with
    | true =>
      simp only [cond_true, Option.isNone_some, cond_false, Option.getD_some]
      have e : innV l k.toNat ((l.length : Int).toNat - k.toNat) k 1 = inn (l.length - k.toNat - 1) l k.toNat (k.toNat + 1) := rfl
      rw [e]
      obtain ⟨g1, g2⟩ := inn_len (l.length - k.toNat - 1) l k.toNat (k.toNat + 1)
      generalize inn (l.length - k.toNat - 1) l k.toNat (k.toNat + 1) = r at *
      refine guard_split (by simp; omega) (guard_split (decide_eq_true ⟨rfl, h1, by omega, by omega, by omega, by omega, by omega⟩) (guard_split (by simp; omega) (guard_split (by simp; omega) (guard_split (by simp; omega) ?_))))
      simp only [Int.toNat_natCast, Nat.sub_zero]; rfl
    | false =>
      simp only [cond_false]
      refine guard_split (decide_eq_true ?_) (guard_split (decide_eq_true ⟨h1, by omega, by omega⟩) rfl)
      show l.length - (k + 1).toNat < l.length - k.toNat
      omega
  · have hk := of_decide_eq_false hk
    have : outV l k = none := by unfold outV; rw [show l.length - k.toNat = 0 by omega]; rfl
    rw [this]; rfl
theorem ded_snoc : ∀ (xs : List Pl) (p x : Pl), ded p (xs ++ [x]) = bif eqP x ((p :: xs).getLast (by simp)) then ded p xs else ded p xs ++ [x]
  | [], p, x => by
    show (bif eqP x p then ded x [] else x :: ded x []) = bif eqP x p then [] else [] ++ [x]
    cases eqP x p <;> rfl
  | a :: xs, p, x => by
    have ih := ded_snoc xs a x
    show (bif eqP a p then ded a (xs ++ [x]) else a :: ded a (xs ++ [x])) = bif eqP x ((a :: xs).getLast (by simp)) then (bif eqP a p then ded a xs else a :: ded a xs) else (bif eqP a p then ded a xs else a :: ded a xs) ++ [x]
    rw [ih]
    cases eqP x ((a :: xs).getLast (by simp)) <;> cases eqP a p <;> rfl
theorem cpt_snoc (xs : List Pl) (h : xs ≠ []) (x : Pl) : cpt (xs ++ [x]) = bif eqP x (xs.getLast h) then cpt xs else cpt xs ++ [x] := by
  cases xs with
  | nil => exact absurd rfl h
  | cons a r =>
    show a :: ded a (r ++ [x]) = bif eqP x ((a :: r).getLast h) then a :: ded a r else (a :: ded a r) ++ [x]
    rw [ded_snoc r a x]
    cases eqP x ((a :: r).getLast h) <;> rfl
theorem cpt_take {l : List Pl} {q : Nat} {x y : Pl} (h1 : 1 ≤ q) (hx : l[q]? = some x) (hy : l[q - 1]? = some y) : cpt (l.take (q + 1)) = bif eqP x y then cpt (l.take q) else cpt (l.take q) ++ [x] := by
  obtain ⟨hq, e⟩ := List.getElem?_eq_some_iff.1 hx
  have e1 : l.take (q + 1) = l.take q ++ [x] := by rw [List.take_add_one, hx]; rfl
  have hne : l.take q ≠ [] := by
    intro h
    have := congrArg List.length h
    rw [List.length_take, List.length_nil] at this; omega
  have e2 : (l.take q).getLast hne = y := by
    have h3 : (l.take q)[q - 1]? = some y := by rw [List.getElem?_take, if_pos (by omega)]; exact hy
    obtain ⟨h4, h5⟩ := List.getElem?_eq_some_iff.1 h3
    rw [List.getLast_eq_getElem, ← h5]
    congr 1
    rw [List.length_take]; omega
  rw [e1, cpt_snoc _ hne x, e2]
theorem inn_spec (l : List Pl) : ∀ (f : Nat) (L : List Pl) (k q : Nat), q + f = l.length → L.length = l.length → 1 ≤ q → k < q → L.take k = cpt (l.take q) → L.drop (q - 1) = l.drop (q - 1) → (inn f L k q).1.take (inn f L k q).2 = cpt l
  | 0, L, k, q, h1, h2, h3, h4, h5, h6 => by
    show L.take k = cpt l
    rw [h5, List.take_of_length_le (by omega)]
  | f + 1, L, k, q, h1, h2, h3, h4, h5, h6 => by
    have hg : ∀ j, q - 1 ≤ j → L[j]? = l[j]? := fun j hj => by
      have := congrArg (fun z => z[j - (q - 1)]?) h6
      simp only [List.getElem?_drop] at this
      rwa [show q - 1 + (j - (q - 1)) = j by omega] at this
    obtain ⟨x, hx⟩ := getE (l := l) (k := q) (by omega)
    obtain ⟨y, hy⟩ := getE (l := l) (k := q - 1) (by omega)
    have e : inn (f + 1) L k q = bif eqP (L.getD q zPl) (L.getD (q - 1) zPl) then inn f L k (q + 1) else inn f (L.set k (L.getD q zPl)) (k + 1) (q + 1) := rfl
    rw [e, getDo ((hg q (by omega)).trans hx), getDo ((hg (q - 1) (by omega)).trans hy)]
    have hc := cpt_take h3 hx hy
    have hd : L.drop q = l.drop q := by
      have := congrArg (List.drop 1) h6
      rwa [List.drop_drop, List.drop_drop, show q - 1 + 1 = q by omega] at this
    cases hb : eqP x y with
    | true =>
      rw [hb] at hc
      exact inn_spec l f L k (q + 1) (by omega) h2 (by omega) (by omega) (h5.trans hc.symm) hd
    | false =>
      rw [hb] at hc
      refine inn_spec l f (L.set k x) (k + 1) (q + 1) (by omega) (by simpa using h2) (by omega) (by omega) ?_ ?_
      · rw [hc, ← h5]
        show _ = L.take k ++ [x]
        rw [List.take_add_one, List.take_set_of_le (Nat.le_refl _), List.getElem?_set_self (by omega)]; rfl
      · show (L.set k x).drop q = _
        rw [List.drop_set_of_lt h4]; exact hd
theorem outC_spec (l : List Pl) : ∀ (f k : Nat), k + f = l.length → 1 ≤ k → cpt (l.take k) = l.take k → (outC f l k = none → cpt l = l) ∧ ∀ r, outC f l k = some r → r.1.take r.2 = cpt l ∧ r.2 ≤ l.length ∧ r.1.length = l.length
  | 0, k, h1, h2, h3 => ⟨fun _ => by rwa [List.take_of_length_le (by omega)] at h3, fun r h => by cases h⟩
  | f + 1, k, h1, h2, h3 => by
    obtain ⟨x, hx⟩ := getE (l := l) (k := k) (by omega)
    obtain ⟨y, hy⟩ := getE (l := l) (k := k - 1) (by omega)
    have e : outC (f + 1) l k = bif eqP (l.getD k zPl) (l.getD (k - 1) zPl) then some (inn (l.length - k - 1) l k (k + 1)) else outC f l (k + 1) := rfl
    have hc := cpt_take h2 hx hy
    rw [e, getDo hx, getDo hy]
    cases hb : eqP x y with
    | true =>
      rw [hb] at hc
      refine ⟨fun h => (by cases h), fun r h => ?_⟩
      obtain rfl : inn (l.length - k - 1) l k (k + 1) = r := Option.some.inj h
      have := inn_len (l.length - k - 1) l k (k + 1)
      exact ⟨inn_spec l _ l k (k + 1) (by omega) rfl (by omega) (by omega) (h3.symm.trans hc.symm) rfl, by omega, this.1⟩
    | false =>
      rw [hb] at hc
      exact outC_spec l f (k + 1) (by omega) (by omega) (by rw [hc, h3]; show l.take k ++ [x] = _; rw [List.take_add_one, hx]; rfl)
theorem cpt_small {l : List Pl} (h : l.length < 2) : cpt l = l := by
  match l, h with
  | [], _ => rfl
  | [x], _ => rfl
theorem out_spec {l : List Pl} (h : 2 ≤ l.length) : (outV l 1 = none → cpt l = l) ∧ ∀ r, outV l 1 = some r → r.1.take r.2 = cpt l ∧ r.2 ≤ l.length ∧ r.1.length = l.length := by
  refine outC_spec l (l.length - 1) 1 (by omega) (Nat.le_refl _) ?_
  match l, h with
  | x :: r, _ => rfl
theorem cpt_len : ∀ l : List Pl, (cpt l).length ≤ l.length
  | [] => Nat.le_refl _
  | x :: r => by
    have : ∀ (r : List Pl) (p : Pl), (ded p r).length ≤ r.length := by
      intro r
      induction r with
      | nil => intro p; exact Nat.le_refl _
      | cons a r ih =>
        intro p
        show (bif eqP a p then ded a r else a :: ded a r).length ≤ _
        have := ih a
        cases eqP a p with
        | true => simp only [cond_true, List.length_cons]; omega
        | false => simp only [cond_false, List.length_cons]; omega
    show (x :: ded x r).length ≤ _
    have := this r x
    simp only [List.length_cons]; omega
/-! ### Insert -/
theorem ins_step {l : List Pl} {p : Pl} {k : Int} {x : Pl} (h : 0 ≤ k) (hx : l[k.toNat]? = some x) : insK l p k = bif befP x p then insK l p (k + 1) else k := by
  unfold insK
  rw [dropC hx, show (k + 1).toNat = k.toNat + 1 by omega, List.takeWhile_cons]
  cases befP x p with
  | true => simp only [if_true, List.length_cons, cond_true]; omega
  | false => simp
theorem ins_end {l : List Pl} {p : Pl} {k : Int} (h : (l.length : Int) ≤ k) : insK l p k = k := by
  unfold insK; rw [List.drop_eq_nil_of_le (by omega)]; simp
theorem ins_le (l : List Pl) (p : Pl) (k : Int) (h : 0 ≤ k) (h2 : k ≤ l.length) : k ≤ insK l p k ∧ insK l p k ≤ l.length := by
  unfold insK
  have := List.takeWhile_prefix (befP · p) (l := l.drop k.toNat)
  have := this.length_le
  rw [List.length_drop] at this
  omega
abbrev pvP (s : Pl) : List PV := [.sc (.int .i64 s.1), .sc (.int .i64 s.2.1), .sc (.int .i64 s.2.2.1), .sc (.int .i64 s.2.2.2.1), .sc (.int .i64 s.2.2.2.2.1), .sc (.int .i64 s.2.2.2.2.2)]
theorem q63l (l : List Pl) (nl : Bool) (p : Pl) (k : Int) (h : preIns l k = true) : z63lL l nl p k = some (.exit 0, [.sc (.int .i64 (insK l p k))], [.row false kPl l, .fix false (pvP p)]) := by
  obtain ⟨h1, h2, h3⟩ := of_decide_eq_true h
  rw [z63l]
  simp only [List.take_length, Nat.zero_add, lenT, cond_true]
  refine cond_split (fun hk => ?_) (fun hk => ?_)
  · have hk := of_decide_eq_true hk
    obtain ⟨x, hx⟩ := getE (l := l) (k := k.toNat) (by omega)
    have hw : IntKind.i64.wrap (k + 1) = k + 1 := W_id _ (by omega) (by omega)
    rw [hx, hw, ins_step h2 hx]
    refine guard_split (by simp; omega) ?_
    simp only [bindO]
    cases befP x p with
    | true =>
      refine guard_split (decide_eq_true ?_) (guard_split (decide_eq_true ⟨h1, by omega, by omega⟩) rfl)
      show l.length - (k + 1).toNat < l.length - k.toNat
      omega
    | false => rfl
  · have hk := of_decide_eq_false hk
    rw [ins_end (by omega)]
theorem q63 (l : List Pl) (nl : Bool) (p : Pl) (h : l.length ≤ 1000) : z63L l nl p = some (.sl 1 0 6 (insS (l, nl) p).1.length (insS (l, nl) p).1.length false (insS (l, nl) p).2, [.dead, .row true kPl (insS (l, nl) p).1]) := by
  rw [z63]
  obtain ⟨g1, g2⟩ := ins_le l p 0 (Int.le_refl _) (by omega)
  unfold insS hasP
  simp only [List.take_length, Nat.zero_add, lenT, cond_true, Nat.sub_zero, Int.toNat_natCast]
  generalize insK l p 0 = k at *
  have hk2 : k.toNat + (l.length - k.toNat) = l.length := by omega
  have hl1 : (l.take k.toNat).length = k.toNat := by rw [List.length_take]; omega
  have hl2 : (l.take k.toNat ++ [p]).length = k.toNat + 1 := by rw [List.length_append, hl1]; rfl
  have e1 : List.take k.toNat (List.take k.toNat l) = List.take k.toNat l := by rw [List.take_take, Nat.min_self]
  have e2 : List.take (k.toNat + 1) (List.take k.toNat l ++ [p]) = List.take k.toNat l ++ [p] := List.take_of_length_le (by omega)
  have e3 : List.take (l.length - k.toNat) (List.drop k.toNat l) = List.drop k.toNat l := List.take_of_length_le (by rw [List.length_drop]; omega)
  have e4 : k.toNat + 1 + (l.length - k.toNat) = (l.take k.toNat ++ p :: l.drop k.toNat).length := by simp; omega
  have e5 : l.take k.toNat ++ [p] ++ l.drop k.toNat = l.take k.toNat ++ p :: l.drop k.toNat := by simp
  have e6 : ((l.length - k.toNat).beq 0 && false) = false := Bool.and_false _
  simp only [e1, e2, e3, hl1, hl2, e6]
  have fin : ∀ (A : Option (PV × List Blk)), A = some (.sl 1 0 6 (l.take k.toNat ++ p :: l.drop k.toNat).length (l.take k.toNat ++ p :: l.drop k.toNat).length false false, [.dead, .row true kPl (l.take k.toNat ++ p :: l.drop k.toNat)]) → A = some (.sl 1 0 6 (l.take k.toNat ++ p :: l.drop k.toNat).length (l.take k.toNat ++ p :: l.drop k.toNat).length false false, [.dead, .row true kPl (l.take k.toNat ++ p :: l.drop k.toNat)]) := fun A h => h
  have tail : (guardB (decide (k ≤ (l.length : Int))) (guardB (decide (k.toNat ≤ l.length) && decide (k.toNat * 48 ≤ 140737488355328) && decide (k.toNat ≤ 4611686018427387904)) (bif decide (1 ≤ k.toNat) then guardB (decide (k.toNat ≤ k.toNat) && true && decide ((k.toNat + 1) * 48 ≤ 140737488355328) && decide (k.toNat + 1 ≤ 4611686018427387904)) (guardB (decide (0 ≤ k) && decide (k ≤ (l.length : Int)) && decide ((l.length : Int) ≤ (l.length : Int))) (guardB (decide (k.toNat + 1 ≤ k.toNat + 1) && decide (k.toNat + (l.length - k.toNat) ≤ l.length) && decide ((k.toNat + 1 + (l.length - k.toNat)) * 48 ≤ 140737488355328) && decide (k.toNat + 1 + (l.length - k.toNat) ≤ 4611686018427387904)) (some (PV.sl 1 0 6 (k.toNat + 1 + (l.length - k.toNat)) (k.toNat + 1 + (l.length - k.toNat)) false false, [Blk.dead, .row true kPl (l.take k.toNat ++ [p] ++ l.drop k.toNat)]))))
      else guardB (decide (k.toNat ≤ k.toNat) && true && decide ((k.toNat + 1) * 48 ≤ 140737488355328) && decide (k.toNat + 1 ≤ 4611686018427387904)) (guardB (decide (0 ≤ k) && decide (k ≤ (l.length : Int)) && decide ((l.length : Int) ≤ (l.length : Int))) (guardB (decide (k.toNat + 1 ≤ k.toNat + 1) && decide (k.toNat + (l.length - k.toNat) ≤ l.length) && decide ((k.toNat + 1 + (l.length - k.toNat)) * 48 ≤ 140737488355328) && decide (k.toNat + 1 + (l.length - k.toNat) ≤ 4611686018427387904)) (some (PV.sl 1 0 6 (k.toNat + 1 + (l.length - k.toNat)) (k.toNat + 1 + (l.length - k.toNat)) false false, [Blk.dead, .row true kPl (l.take k.toNat ++ [p] ++ l.drop k.toNat)]))))))) = some (.sl 1 0 6 (l.take k.toNat ++ p :: l.drop k.toNat).length (l.take k.toNat ++ p :: l.drop k.toNat).length false false, [.dead, .row true kPl (l.take k.toNat ++ p :: l.drop k.toNat)]) := by
    refine guard_split (by simp; omega) (guard_split (by simp; omega) ?_)
    rw [← e4, e5]
    refine cond_split (fun _ => ?_) (fun _ => ?_)
    all_goals exact guard_split (by simp; omega) (guard_split (by simp; omega) (guard_split (by simp; omega) rfl))
  refine guard_split (decide_eq_true ⟨by omega, by omega, by omega⟩) ?_
  refine cond_split (fun hk => ?_) (fun hk => ?_)
  · have hk' := of_decide_eq_true hk
    obtain ⟨x, hx⟩ := getE (l := l) (k := k.toNat) (by omega)
    rw [hk, hx, getDo hx, Bool.true_and]
    refine guard_split (by simp; omega) ?_
    simp only [bindO]
    rw [eqAt x p]
    cases eqP x p with
    | true => rfl
    | false => exact tail
  · rw [hk, Bool.false_and]
    exact tail
/-! ### Equal lists -/
abbrev R2' (l l2 : List Pl) : List Blk := [.row false kPl l, .row false kPl l2]
theorem q64l (l : List Pl) (nl : Bool) (l2 : List Pl) (nl2 : Bool) (n k : Int) (h : preSm l l2 n k = true) : z64lL l nl l2 nl2 n k = cond (bp (l.drop k.toNat = l2.drop k.toNat)) (some (.exit 0, [.undef], R2' l l2)) (some (.ret, [.sc (.bool false)], R2' l l2)) := by
  obtain ⟨h1, h2, h3, h4, h5⟩ := of_decide_eq_true h
  rw [z64l]
  simp only [List.take_length, Nat.zero_add, lenT, cond_true]
  refine cond_split (fun hk => ?_) (fun hk => ?_)
  · have hk := of_decide_eq_true hk
    obtain ⟨x, hx⟩ := getE (l := l) (k := k.toNat) (by omega)
    obtain ⟨y, hy⟩ := getE (l := l2) (k := k.toNat) (by omega)
    have hw : IntKind.i64.wrap (k + 1) = k + 1 := W_id _ (by omega) (by omega)
    rw [hx, hy, hw, dropC hx, dropC hy, show k.toNat + 1 = (k + 1).toNat by omega]
    refine guard_split (by simp; omega) ?_
    simp only [bindO]
    refine guard_split (by simp; omega) ?_
    rw [eqAt x y]
    by_cases e : x = y
    · subst e
      rw [eqP_self, show bp (x :: l.drop (k + 1).toNat = x :: l2.drop (k + 1).toNat) = bp (l.drop (k + 1).toNat = l2.drop (k + 1).toNat) from Bool.eq_iff_iff.2 (by rw [bp_true, bp_true]; simp)]
      refine guard_split (decide_eq_true ?_) (guard_split (decide_eq_true ⟨h1, h2, h3, by omega, by omega⟩) rfl)
      show (n - (k + 1)).toNat < (n - k).toNat
      omega
    · rw [show eqP x y = false from bpN e, bpN (fun f : x :: l.drop (k + 1).toNat = y :: l2.drop (k + 1).toNat => e (List.cons.inj f).1)]; rfl
  · have hk := of_decide_eq_false hk
    rw [List.drop_eq_nil_of_le (show l.length ≤ k.toNat by omega), List.drop_eq_nil_of_le (show l2.length ≤ k.toNat by omega), show bp (([] : List Pl) = []) = true from bp_mk rfl]; rfl
theorem q64 (l : List Pl) (nl : Bool) (l2 : List Pl) (nl2 : Bool) (h : l.length ≤ 2000) : z64L l nl l2 nl2 = some (.sc (.bool (bp (l = l2))), R2' l l2) := by
  rw [z64]
  simp only [List.take_length, Nat.zero_add, lenT, cond_true]
  by_cases hl : l.length = l2.length
  · rw [show ((l.length : Int) != (l2.length : Int)) = false by simp [hl]]
    refine guard_split (decide_eq_true ⟨h, hl, rfl, by omega, by omega⟩) ?_
    rw [show l.drop (Int.toNat 0) = l from rfl, show l2.drop (Int.toNat 0) = l2 from rfl]
    cases bp (l = l2) <;> rfl
  · rw [show ((l.length : Int) != (l2.length : Int)) = true by simp; omega, bpN (fun e : l = l2 => hl (by rw [e]))]; rfl
end Go.Proofs.YtpndjpjpmcehbaaMm
