/- What is proved: the law MosaicMerges answers true for all values. No condition. -/
import Derived.Test.YtpndjpjpmcehbaaTmm2
import Derived.Test.YtpndjpjpmcehbaaEvZf
namespace Go.Proofs.YtpndjpjpmcehbaaMm
open Go Go.Proofs Go.Proofs.YtpndjpjpmcehbaaEv Go.Proofs.YtpndjpjpmcehbaaTk
set_option maxRecDepth 100000
set_option linter.unusedSimpArgs false
set_option linter.unusedVariables false
noncomputable abbrev z13lL (a0 : List (Int × Int × Int × Int × Int × Int)) (a1 : Bool) (a2 : Int) (a3 : List (Int × Int × Int × Int × Int × Int)) (a4 : Bool) (a5 : List (Int × Int × Int × Int × Int × Int)) (a6 : Bool) (a7 : List (Int × Int × Int × Int × Int × Int)) (a8 : Bool) (a9 : Int) (a10 : Int) := evRound Try.prog M3 noCuts 101 (loopOf (codeAt 2 (bodyF Try.f13))) kLw muLw (killA 0 kLw) [5, 6, 7, 9, 52, 53, 54] [2, 7] cLw ((a0, a1), (a2, ((a3, a4), ((a5, a6), ((a7, a8), (a9, (a10, ())))))))
theorem z13l (a0 : List (Int × Int × Int × Int × Int × Int)) (a1 : Bool) (a2 : Int) (a3 : List (Int × Int × Int × Int × Int × Int)) (a4 : Bool) (a5 : List (Int × Int × Int × Int × Int × Int)) (a6 : Bool) (a7 : List (Int × Int × Int × Int × Int × Int)) (a8 : Bool) (a9 : Int) (a10 : Int) : z13lL a0 a1 a2 a3 a4 a5 a6 a7 a8 a9 a10 = (bif decide (a10 < a9) then
  guardB (decide (0 ≤ a10) && decide (a10 < (↑a7.length : Int)))
    (bindO a7[0 + a10.toNat]? fun x =>
      bif plE x != 0 then
        bif a2 == 4 then
          some
            (Xt.ret, [PV.sc (Value.bool ((↑a0.length : Int) == 0)), PV.sl 4 0 6 a3.length a3.length false a4],
              [Blk.row false
                  ((Kd.int IntKind.i64).pair
                    ((Kd.int IntKind.i64).pair
                      ((Kd.int IntKind.i64).pair
                        ((Kd.int IntKind.i64).pair ((Kd.int IntKind.i64).pair (Kd.int IntKind.i64))))))
                  a0,
                Blk.dead,
                Blk.row false
                  ((Kd.int IntKind.i64).pair
                    ((Kd.int IntKind.i64).pair
                      ((Kd.int IntKind.i64).pair
                        ((Kd.int IntKind.i64).pair ((Kd.int IntKind.i64).pair (Kd.int IntKind.i64))))))
                  a5,
                Blk.row false
                  ((Kd.int IntKind.i64).pair
                    ((Kd.int IntKind.i64).pair
                      ((Kd.int IntKind.i64).pair
                        ((Kd.int IntKind.i64).pair ((Kd.int IntKind.i64).pair (Kd.int IntKind.i64))))))
                  a7,
                Blk.row true
                  ((Kd.int IntKind.i64).pair
                    ((Kd.int IntKind.i64).pair
                      ((Kd.int IntKind.i64).pair
                        ((Kd.int IntKind.i64).pair ((Kd.int IntKind.i64).pair (Kd.int IntKind.i64))))))
                  a3])
        else
          some
            (Xt.ret, [PV.sc (Value.bool false), PV.sl 4 0 6 a3.length a3.length false a4],
              [Blk.row false
                  ((Kd.int IntKind.i64).pair
                    ((Kd.int IntKind.i64).pair
                      ((Kd.int IntKind.i64).pair
                        ((Kd.int IntKind.i64).pair ((Kd.int IntKind.i64).pair (Kd.int IntKind.i64))))))
                  a0,
                Blk.dead,
                Blk.row false
                  ((Kd.int IntKind.i64).pair
                    ((Kd.int IntKind.i64).pair
                      ((Kd.int IntKind.i64).pair
                        ((Kd.int IntKind.i64).pair ((Kd.int IntKind.i64).pair (Kd.int IntKind.i64))))))
                  a5,
                Blk.row false
                  ((Kd.int IntKind.i64).pair
                    ((Kd.int IntKind.i64).pair
                      ((Kd.int IntKind.i64).pair
                        ((Kd.int IntKind.i64).pair ((Kd.int IntKind.i64).pair (Kd.int IntKind.i64))))))
                  a7,
                Blk.row true
                  ((Kd.int IntKind.i64).pair
                    ((Kd.int IntKind.i64).pair
                      ((Kd.int IntKind.i64).pair
                        ((Kd.int IntKind.i64).pair ((Kd.int IntKind.i64).pair (Kd.int IntKind.i64))))))
                  a3])
      else
        bif decide (a10 > 0) then
          guardB (decide (0 ≤ IntKind.i64.wrap (a10 - 1)) && decide (IntKind.i64.wrap (a10 - 1) < (↑a5.length : Int)))
            (bindO a5[0 + (IntKind.i64.wrap (a10 - 1)).toNat]? fun x_1 =>
              bif decide (x_1.snd.fst > x.snd.fst) then
                bif a2 == 12 then
                  some
                    (Xt.ret, [PV.sc (Value.bool ((↑a0.length : Int) == 0)), PV.sl 4 0 6 a3.length a3.length false a4],
                      [Blk.row false
                          ((Kd.int IntKind.i64).pair
                            ((Kd.int IntKind.i64).pair
                              ((Kd.int IntKind.i64).pair
                                ((Kd.int IntKind.i64).pair ((Kd.int IntKind.i64).pair (Kd.int IntKind.i64))))))
                          a0,
                        Blk.dead,
                        Blk.row false
                          ((Kd.int IntKind.i64).pair
                            ((Kd.int IntKind.i64).pair
                              ((Kd.int IntKind.i64).pair
                                ((Kd.int IntKind.i64).pair ((Kd.int IntKind.i64).pair (Kd.int IntKind.i64))))))
                          a5,
                        Blk.row false
                          ((Kd.int IntKind.i64).pair
                            ((Kd.int IntKind.i64).pair
                              ((Kd.int IntKind.i64).pair
                                ((Kd.int IntKind.i64).pair ((Kd.int IntKind.i64).pair (Kd.int IntKind.i64))))))
                          a7,
                        Blk.row true
                          ((Kd.int IntKind.i64).pair
                            ((Kd.int IntKind.i64).pair
                              ((Kd.int IntKind.i64).pair
                                ((Kd.int IntKind.i64).pair ((Kd.int IntKind.i64).pair (Kd.int IntKind.i64))))))
                          a3])
                else
                  some
                    (Xt.ret, [PV.sc (Value.bool false), PV.sl 4 0 6 a3.length a3.length false a4],
                      [Blk.row false
                          ((Kd.int IntKind.i64).pair
                            ((Kd.int IntKind.i64).pair
                              ((Kd.int IntKind.i64).pair
                                ((Kd.int IntKind.i64).pair ((Kd.int IntKind.i64).pair (Kd.int IntKind.i64))))))
                          a0,
                        Blk.dead,
                        Blk.row false
                          ((Kd.int IntKind.i64).pair
                            ((Kd.int IntKind.i64).pair
                              ((Kd.int IntKind.i64).pair
                                ((Kd.int IntKind.i64).pair ((Kd.int IntKind.i64).pair (Kd.int IntKind.i64))))))
                          a5,
                        Blk.row false
                          ((Kd.int IntKind.i64).pair
                            ((Kd.int IntKind.i64).pair
                              ((Kd.int IntKind.i64).pair
                                ((Kd.int IntKind.i64).pair ((Kd.int IntKind.i64).pair (Kd.int IntKind.i64))))))
                          a7,
                        Blk.row true
                          ((Kd.int IntKind.i64).pair
                            ((Kd.int IntKind.i64).pair
                              ((Kd.int IntKind.i64).pair
                                ((Kd.int IntKind.i64).pair ((Kd.int IntKind.i64).pair (Kd.int IntKind.i64))))))
                          a3])
              else
                guardB (bif decide (a3.length = a3.length) then decide (a3.length ≤ 1000) else false)
                  (guardB
                    (decide
                      (muLw
                          ((List.take a0.length a0, a1), a2, insS (a3, a4) x, (List.take a5.length a5, a6),
                            (List.take a7.length a7, a8), a9, IntKind.i64.wrap (a10 + 1), PUnit.unit) <
                        muLw ((a0, a1), a2, (a3, a4), (a5, a6), (a7, a8), a9, a10, ())))
                    (guardB
                      (bif decide (0 + a0.length ≤ a0.length) then
                        bif decide ((insS (a3, a4) x).fst.length = (insS (a3, a4) x).fst.length) then
                          bif decide (0 + a5.length ≤ a5.length) then
                            bif decide (0 + a7.length ≤ a7.length) then
                              preLw (insS (a3, a4) x) (List.take a5.length a5) (List.take a7.length a7) a9
                                (IntKind.i64.wrap (a10 + 1))
                            else false
                          else false
                        else false
                      else false)
                      (bif
                          decide
                            ((scanV (List.take a5.length a5) (IntKind.i64.wrap (a10 + 1)) (insS (a3, a4) x)).fst =
                              0) then
                        some
                          (Xt.exit 2,
                            [PV.undef,
                              PV.sl 4 0 6
                                (scanV (List.take a5.length a5) (IntKind.i64.wrap (a10 + 1))
                                        (insS (a3, a4) x)).snd.fst.length
                                (scanV (List.take a5.length a5) (IntKind.i64.wrap (a10 + 1))
                                        (insS (a3, a4) x)).snd.fst.length
                                false
                                (scanV (List.take a5.length a5) (IntKind.i64.wrap (a10 + 1))
                                      (insS (a3, a4) x)).snd.snd],
                            [Blk.row false
                                ((Kd.int IntKind.i64).pair
                                  ((Kd.int IntKind.i64).pair
                                    ((Kd.int IntKind.i64).pair
                                      ((Kd.int IntKind.i64).pair ((Kd.int IntKind.i64).pair (Kd.int IntKind.i64))))))
                                a0,
                              Blk.dead,
                              Blk.row false
                                ((Kd.int IntKind.i64).pair
                                  ((Kd.int IntKind.i64).pair
                                    ((Kd.int IntKind.i64).pair
                                      ((Kd.int IntKind.i64).pair ((Kd.int IntKind.i64).pair (Kd.int IntKind.i64))))))
                                a5,
                              Blk.row false
                                ((Kd.int IntKind.i64).pair
                                  ((Kd.int IntKind.i64).pair
                                    ((Kd.int IntKind.i64).pair
                                      ((Kd.int IntKind.i64).pair ((Kd.int IntKind.i64).pair (Kd.int IntKind.i64))))))
                                a7,
                              Blk.row true
                                ((Kd.int IntKind.i64).pair
                                  ((Kd.int IntKind.i64).pair
                                    ((Kd.int IntKind.i64).pair
                                      ((Kd.int IntKind.i64).pair ((Kd.int IntKind.i64).pair (Kd.int IntKind.i64))))))
                                (scanV (List.take a5.length a5) (IntKind.i64.wrap (a10 + 1))
                                      (insS (a3, a4) x)).snd.fst])
                      else
                        some
                          (Xt.ret,
                            [PV.sc
                                (Value.bool
                                  (lawR (List.take a0.length a0) a2
                                    (scanV (List.take a5.length a5) (IntKind.i64.wrap (a10 + 1))
                                        (insS (a3, a4) x)).fst)),
                              PV.sl 4 0 6
                                (scanV (List.take a5.length a5) (IntKind.i64.wrap (a10 + 1))
                                        (insS (a3, a4) x)).snd.fst.length
                                (scanV (List.take a5.length a5) (IntKind.i64.wrap (a10 + 1))
                                        (insS (a3, a4) x)).snd.fst.length
                                false
                                (scanV (List.take a5.length a5) (IntKind.i64.wrap (a10 + 1))
                                      (insS (a3, a4) x)).snd.snd],
                            [Blk.row false
                                ((Kd.int IntKind.i64).pair
                                  ((Kd.int IntKind.i64).pair
                                    ((Kd.int IntKind.i64).pair
                                      ((Kd.int IntKind.i64).pair ((Kd.int IntKind.i64).pair (Kd.int IntKind.i64))))))
                                a0,
                              Blk.dead,
                              Blk.row false
                                ((Kd.int IntKind.i64).pair
                                  ((Kd.int IntKind.i64).pair
                                    ((Kd.int IntKind.i64).pair
                                      ((Kd.int IntKind.i64).pair ((Kd.int IntKind.i64).pair (Kd.int IntKind.i64))))))
                                a5,
                              Blk.row false
                                ((Kd.int IntKind.i64).pair
                                  ((Kd.int IntKind.i64).pair
                                    ((Kd.int IntKind.i64).pair
                                      ((Kd.int IntKind.i64).pair ((Kd.int IntKind.i64).pair (Kd.int IntKind.i64))))))
                                a7,
                              Blk.row true
                                ((Kd.int IntKind.i64).pair
                                  ((Kd.int IntKind.i64).pair
                                    ((Kd.int IntKind.i64).pair
                                      ((Kd.int IntKind.i64).pair ((Kd.int IntKind.i64).pair (Kd.int IntKind.i64))))))
                                (scanV (List.take a5.length a5) (IntKind.i64.wrap (a10 + 1))
                                      (insS (a3, a4) x)).snd.fst])))))
        else
          guardB (bif decide (a3.length = a3.length) then decide (a3.length ≤ 1000) else false)
            (guardB
              (decide
                (muLw
                    ((List.take a0.length a0, a1), a2, insS (a3, a4) x, (List.take a5.length a5, a6),
                      (List.take a7.length a7, a8), a9, IntKind.i64.wrap (a10 + 1), PUnit.unit) <
                  muLw ((a0, a1), a2, (a3, a4), (a5, a6), (a7, a8), a9, a10, ())))
              (guardB
                (bif decide (0 + a0.length ≤ a0.length) then
                  bif decide ((insS (a3, a4) x).fst.length = (insS (a3, a4) x).fst.length) then
                    bif decide (0 + a5.length ≤ a5.length) then
                      bif decide (0 + a7.length ≤ a7.length) then
                        preLw (insS (a3, a4) x) (List.take a5.length a5) (List.take a7.length a7) a9
                          (IntKind.i64.wrap (a10 + 1))
                      else false
                    else false
                  else false
                else false)
                (bif
                    decide
                      ((scanV (List.take a5.length a5) (IntKind.i64.wrap (a10 + 1)) (insS (a3, a4) x)).fst = 0) then
                  some
                    (Xt.exit 2,
                      [PV.undef,
                        PV.sl 4 0 6
                          (scanV (List.take a5.length a5) (IntKind.i64.wrap (a10 + 1)) (insS (a3, a4) x)).snd.fst.length
                          (scanV (List.take a5.length a5) (IntKind.i64.wrap (a10 + 1)) (insS (a3, a4) x)).snd.fst.length
                          false
                          (scanV (List.take a5.length a5) (IntKind.i64.wrap (a10 + 1)) (insS (a3, a4) x)).snd.snd],
                      [Blk.row false
                          ((Kd.int IntKind.i64).pair
                            ((Kd.int IntKind.i64).pair
                              ((Kd.int IntKind.i64).pair
                                ((Kd.int IntKind.i64).pair ((Kd.int IntKind.i64).pair (Kd.int IntKind.i64))))))
                          a0,
                        Blk.dead,
                        Blk.row false
                          ((Kd.int IntKind.i64).pair
                            ((Kd.int IntKind.i64).pair
                              ((Kd.int IntKind.i64).pair
                                ((Kd.int IntKind.i64).pair ((Kd.int IntKind.i64).pair (Kd.int IntKind.i64))))))
                          a5,
                        Blk.row false
                          ((Kd.int IntKind.i64).pair
                            ((Kd.int IntKind.i64).pair
                              ((Kd.int IntKind.i64).pair
                                ((Kd.int IntKind.i64).pair ((Kd.int IntKind.i64).pair (Kd.int IntKind.i64))))))
                          a7,
                        Blk.row true
                          ((Kd.int IntKind.i64).pair
                            ((Kd.int IntKind.i64).pair
                              ((Kd.int IntKind.i64).pair
                                ((Kd.int IntKind.i64).pair ((Kd.int IntKind.i64).pair (Kd.int IntKind.i64))))))
                          (scanV (List.take a5.length a5) (IntKind.i64.wrap (a10 + 1)) (insS (a3, a4) x)).snd.fst])
                else
                  some
                    (Xt.ret,
                      [PV.sc
                          (Value.bool
                            (lawR (List.take a0.length a0) a2
                              (scanV (List.take a5.length a5) (IntKind.i64.wrap (a10 + 1)) (insS (a3, a4) x)).fst)),
                        PV.sl 4 0 6
                          (scanV (List.take a5.length a5) (IntKind.i64.wrap (a10 + 1)) (insS (a3, a4) x)).snd.fst.length
                          (scanV (List.take a5.length a5) (IntKind.i64.wrap (a10 + 1)) (insS (a3, a4) x)).snd.fst.length
                          false
                          (scanV (List.take a5.length a5) (IntKind.i64.wrap (a10 + 1)) (insS (a3, a4) x)).snd.snd],
                      [Blk.row false
                          ((Kd.int IntKind.i64).pair
                            ((Kd.int IntKind.i64).pair
                              ((Kd.int IntKind.i64).pair
                                ((Kd.int IntKind.i64).pair ((Kd.int IntKind.i64).pair (Kd.int IntKind.i64))))))
                          a0,
                        Blk.dead,
                        Blk.row false
                          ((Kd.int IntKind.i64).pair
                            ((Kd.int IntKind.i64).pair
                              ((Kd.int IntKind.i64).pair
                                ((Kd.int IntKind.i64).pair ((Kd.int IntKind.i64).pair (Kd.int IntKind.i64))))))
                          a5,
                        Blk.row false
                          ((Kd.int IntKind.i64).pair
                            ((Kd.int IntKind.i64).pair
                              ((Kd.int IntKind.i64).pair
                                ((Kd.int IntKind.i64).pair ((Kd.int IntKind.i64).pair (Kd.int IntKind.i64))))))
                          a7,
                        Blk.row true
                          ((Kd.int IntKind.i64).pair
                            ((Kd.int IntKind.i64).pair
                              ((Kd.int IntKind.i64).pair
                                ((Kd.int IntKind.i64).pair ((Kd.int IntKind.i64).pair (Kd.int IntKind.i64))))))
                          (scanV (List.take a5.length a5) (IntKind.i64.wrap (a10 + 1)) (insS (a3, a4) x)).snd.fst])))))
else
  some
    (Xt.exit 2, [PV.undef, PV.sl 4 0 6 a3.length a3.length false a4],
      [Blk.row false
          ((Kd.int IntKind.i64).pair
            ((Kd.int IntKind.i64).pair
              ((Kd.int IntKind.i64).pair ((Kd.int IntKind.i64).pair ((Kd.int IntKind.i64).pair (Kd.int IntKind.i64))))))
          a0,
        Blk.dead,
        Blk.row false
          ((Kd.int IntKind.i64).pair
            ((Kd.int IntKind.i64).pair
              ((Kd.int IntKind.i64).pair ((Kd.int IntKind.i64).pair ((Kd.int IntKind.i64).pair (Kd.int IntKind.i64))))))
          a5,
        Blk.row false
          ((Kd.int IntKind.i64).pair
            ((Kd.int IntKind.i64).pair
              ((Kd.int IntKind.i64).pair ((Kd.int IntKind.i64).pair ((Kd.int IntKind.i64).pair (Kd.int IntKind.i64))))))
          a7,
        Blk.row true
          ((Kd.int IntKind.i64).pair
            ((Kd.int IntKind.i64).pair
              ((Kd.int IntKind.i64).pair ((Kd.int IntKind.i64).pair ((Kd.int IntKind.i64).pair (Kd.int IntKind.i64))))))
          a3])) := by kernel_rfl
noncomputable abbrev z13rL (n : Nat) (lo : Nat) (fu : Bool) (nl : Bool) := (evFuncV Try.prog M3 (addCut 2 [5, 6, 7, 9, 52, 53, 54] [2, 7] (entC kLw cLw) noCuts) Try.f13 []
  (st62 (n, lo, fu, nl)).1 (st62 (n, lo, fu, nl)).2)
theorem z13r (n : Nat) (lo : Nat) (fu : Bool) (nl : Bool) : z13rL n lo fu nl = (bif
    (↑(mgL (fs2 ((([(0, 1, 0, 0, 0, 0)], false), ([(0, 1, 0, 0, 0, 0)], false), PUnit.unit), PUnit.unit))).length :
        Int) !=
      1 then
  some (PV.sc (Value.bool false), [Blk.row false (Kd.int IntKind.i64) []])
else
  guardB (decide (n = 0 ∨ 4 < n))
    (bif decide (n = 0) then
      bif decide ((↑n : Int) > 4) then some (PV.sc (Value.bool false), [Blk.row false (Kd.int IntKind.i64) []])
      else
        bif decide (0 < (↑n : Int)) then guardB (decide (0 < (↑n : Int))) none
        else some (PV.sc (Value.bool (bp (([] : List Pl) = []))), [Blk.row false (Kd.int IntKind.i64) []])
    else
      bif decide ((↑n : Int) > 4) then some (PV.sc (Value.bool true), [Blk.row false (Kd.int IntKind.i64) []])
      else
        bif decide (0 < (↑n : Int)) then guardB (decide (0 < (↑n : Int))) none
        else some (PV.sc (Value.bool false), [Blk.row false (Kd.int IntKind.i64) []]))) := by kernel_rfl
noncomputable abbrev z13aL (a0 : List (Int × Int × Int × Int × Int × Int)) (a1 : Bool) := evFuncV Try.prog M3 (addCut 2 [5, 6, 7, 9, 52, 53, 54] [2, 7] (entC kLw cLw) noCuts) Try.f13 (killA 0 ks1) (showA 0 ks1 (((a0, a1), ()), ())).1 (showA 0 ks1 (((a0, a1), ()), ())).2
theorem z13a (a0 : List (Int × Int × Int × Int × Int × Int)) (a1 : Bool) : z13aL a0 a1 = (bif
    (↑(mgL (fs2 ((([(0, 1, 0, 0, 0, 0)], false), ([(0, 1, 0, 0, 0, 0)], false), PUnit.unit), PUnit.unit))).length :
        Int) !=
      1 then
  some
    (PV.sc (Value.bool false),
      [Blk.fix false [PV.sl 1 0 6 a0.length a0.length false a1],
        Blk.row false
          ((Kd.int IntKind.i64).pair
            ((Kd.int IntKind.i64).pair
              ((Kd.int IntKind.i64).pair ((Kd.int IntKind.i64).pair ((Kd.int IntKind.i64).pair (Kd.int IntKind.i64))))))
          a0])
else
  guardB (bif decide (0 + a0.length ≤ a0.length) then true else false)
    (bif decide (mgE (fs1 (((List.take a0.length a0, a1), PUnit.unit), PUnit.unit)) = 0) then
      bif decide ((↑a0.length : Int) > 60) then
        some
          (PV.sc (Value.bool true),
            [Blk.fix false [PV.sl 1 0 6 a0.length a0.length false a1],
              Blk.row false
                ((Kd.int IntKind.i64).pair
                  ((Kd.int IntKind.i64).pair
                    ((Kd.int IntKind.i64).pair
                      ((Kd.int IntKind.i64).pair ((Kd.int IntKind.i64).pair (Kd.int IntKind.i64))))))
                a0])
      else
        guardB
          (bif
              decide
                (0 + (mgL (fs1 (((List.take a0.length a0, a1), PUnit.unit), PUnit.unit))).length ≤
                  (mgL (fs1 (((List.take a0.length a0, a1), PUnit.unit), PUnit.unit))).length) then
            bif decide (0 + a0.length ≤ a0.length) then
              bif decide (0 + a0.length ≤ a0.length) then
                preLw ([], true) (List.take a0.length a0) (List.take a0.length a0) (↑a0.length : Int) 0
              else false
            else false
          else false)
          (bif decide ((scanV (List.take a0.length a0) 0 ([], true)).fst = 0) then
            guardB
              (bif
                  decide
                    (0 + (mgL (fs1 (((List.take a0.length a0, a1), PUnit.unit), PUnit.unit))).length ≤
                      (mgL (fs1 (((List.take a0.length a0, a1), PUnit.unit), PUnit.unit))).length) then
                bif
                    decide
                      (0 + (scanV (List.take a0.length a0) 0 ([], true)).snd.fst.length ≤
                        (scanV (List.take a0.length a0) 0 ([], true)).snd.fst.length) then
                  decide
                    ((List.take (mgL (fs1 (((List.take a0.length a0, a1), PUnit.unit), PUnit.unit))).length
                          (mgL (fs1 (((List.take a0.length a0, a1), PUnit.unit), PUnit.unit)))).length ≤
                      2000)
                else false
              else false)
              (some
                (PV.sc
                    (Value.bool
                      (bp
                        (List.take (mgL (fs1 (((List.take a0.length a0, a1), PUnit.unit), PUnit.unit))).length
                            (mgL (fs1 (((List.take a0.length a0, a1), PUnit.unit), PUnit.unit))) =
                          List.take (scanV (List.take a0.length a0) 0 ([], true)).snd.fst.length
                            (scanV (List.take a0.length a0) 0 ([], true)).snd.fst))),
                  [Blk.fix false [PV.sl 1 0 6 a0.length a0.length false a1],
                    Blk.row false
                      ((Kd.int IntKind.i64).pair
                        ((Kd.int IntKind.i64).pair
                          ((Kd.int IntKind.i64).pair
                            ((Kd.int IntKind.i64).pair ((Kd.int IntKind.i64).pair (Kd.int IntKind.i64))))))
                      a0]))
          else
            some
              (PV.sc
                  (Value.bool
                    (lawR
                      (List.take (mgL (fs1 (((List.take a0.length a0, a1), PUnit.unit), PUnit.unit))).length
                        (mgL (fs1 (((List.take a0.length a0, a1), PUnit.unit), PUnit.unit))))
                      0 (scanV (List.take a0.length a0) 0 ([], true)).fst)),
                [Blk.fix false [PV.sl 1 0 6 a0.length a0.length false a1],
                  Blk.row false
                    ((Kd.int IntKind.i64).pair
                      ((Kd.int IntKind.i64).pair
                        ((Kd.int IntKind.i64).pair
                          ((Kd.int IntKind.i64).pair ((Kd.int IntKind.i64).pair (Kd.int IntKind.i64))))))
                    a0]))
    else
      bif decide ((↑a0.length : Int) > 60) then
        some
          (PV.sc (Value.bool true),
            [Blk.fix false [PV.sl 1 0 6 a0.length a0.length false a1],
              Blk.row false
                ((Kd.int IntKind.i64).pair
                  ((Kd.int IntKind.i64).pair
                    ((Kd.int IntKind.i64).pair
                      ((Kd.int IntKind.i64).pair ((Kd.int IntKind.i64).pair (Kd.int IntKind.i64))))))
                a0])
      else
        guardB
          (bif decide (0 + a0.length ≤ a0.length) then
            bif decide (0 + a0.length ≤ a0.length) then
              preLw ([], true) (List.take a0.length a0) (List.take a0.length a0) (↑a0.length : Int) 0
            else false
          else false)
          (bif decide ((scanV (List.take a0.length a0) 0 ([], true)).fst = 0) then
            bif mgE (fs1 (((List.take a0.length a0, a1), PUnit.unit), PUnit.unit)) == 0 then
              guardB
                (bif
                    decide
                      (0 + (scanV (List.take a0.length a0) 0 ([], true)).snd.fst.length ≤
                        (scanV (List.take a0.length a0) 0 ([], true)).snd.fst.length) then
                  true
                else false)
                (some
                  (PV.sc
                      (Value.bool
                        (bp
                          ([] =
                            List.take (scanV (List.take a0.length a0) 0 ([], true)).snd.fst.length
                              (scanV (List.take a0.length a0) 0 ([], true)).snd.fst))),
                    [Blk.fix false [PV.sl 1 0 6 a0.length a0.length false a1],
                      Blk.row false
                        ((Kd.int IntKind.i64).pair
                          ((Kd.int IntKind.i64).pair
                            ((Kd.int IntKind.i64).pair
                              ((Kd.int IntKind.i64).pair ((Kd.int IntKind.i64).pair (Kd.int IntKind.i64))))))
                        a0]))
            else
              some
                (PV.sc (Value.bool false),
                  [Blk.fix false [PV.sl 1 0 6 a0.length a0.length false a1],
                    Blk.row false
                      ((Kd.int IntKind.i64).pair
                        ((Kd.int IntKind.i64).pair
                          ((Kd.int IntKind.i64).pair
                            ((Kd.int IntKind.i64).pair ((Kd.int IntKind.i64).pair (Kd.int IntKind.i64))))))
                      a0])
          else
            some
              (PV.sc
                  (Value.bool
                    (lawR [] (mgE (fs1 (((List.take a0.length a0, a1), PUnit.unit), PUnit.unit)))
                      (scanV (List.take a0.length a0) 0 ([], true)).fst)),
                [Blk.fix false [PV.sl 1 0 6 a0.length a0.length false a1],
                  Blk.row false
                    ((Kd.int IntKind.i64).pair
                      ((Kd.int IntKind.i64).pair
                        ((Kd.int IntKind.i64).pair
                          ((Kd.int IntKind.i64).pair ((Kd.int IntKind.i64).pair (Kd.int IntKind.i64))))))
                    a0])))) := by kernel_rfl
noncomputable abbrev z13bL (a0 : List (Int × Int × Int × Int × Int × Int)) (a1 : Bool) (a2 : List (Int × Int × Int × Int × Int × Int)) (a3 : Bool) := evFuncV Try.prog M3 (addCut 2 [5, 6, 7, 9, 52, 53, 54] [2, 7] (entC kLw cLw) noCuts) Try.f13 (killA 0 ks2) (showA 0 ks2 (((a0, a1), ((a2, a3), ())), ())).1 (showA 0 ks2 (((a0, a1), ((a2, a3), ())), ())).2
theorem z13b (a0 : List (Int × Int × Int × Int × Int × Int)) (a1 : Bool) (a2 : List (Int × Int × Int × Int × Int × Int)) (a3 : Bool) : z13bL a0 a1 a2 a3 = (bif
    (↑(mgL (fs2 ((([(0, 1, 0, 0, 0, 0)], false), ([(0, 1, 0, 0, 0, 0)], false), PUnit.unit), PUnit.unit))).length :
        Int) !=
      1 then
  some
    (PV.sc (Value.bool false),
      [Blk.fix false [PV.sl 1 0 6 a0.length a0.length false a1, PV.sl 2 0 6 a2.length a2.length false a3],
        Blk.row false
          ((Kd.int IntKind.i64).pair
            ((Kd.int IntKind.i64).pair
              ((Kd.int IntKind.i64).pair ((Kd.int IntKind.i64).pair ((Kd.int IntKind.i64).pair (Kd.int IntKind.i64))))))
          a0,
        Blk.row false
          ((Kd.int IntKind.i64).pair
            ((Kd.int IntKind.i64).pair
              ((Kd.int IntKind.i64).pair ((Kd.int IntKind.i64).pair ((Kd.int IntKind.i64).pair (Kd.int IntKind.i64))))))
          a2])
else
  guardB
    (bif decide (0 + a0.length ≤ a0.length) then bif decide (0 + a2.length ≤ a2.length) then true else false else false)
    (bif
        decide
          (mgE (fs2 (((List.take a0.length a0, a1), (List.take a2.length a2, a3), PUnit.unit), PUnit.unit)) = 0) then
      bif decide ((↑a0.length : Int) > 60) then
        some
          (PV.sc (Value.bool true),
            [Blk.fix false [PV.sl 1 0 6 a0.length a0.length false a1, PV.sl 2 0 6 a2.length a2.length false a3],
              Blk.row false
                ((Kd.int IntKind.i64).pair
                  ((Kd.int IntKind.i64).pair
                    ((Kd.int IntKind.i64).pair
                      ((Kd.int IntKind.i64).pair ((Kd.int IntKind.i64).pair (Kd.int IntKind.i64))))))
                a0,
              Blk.row false
                ((Kd.int IntKind.i64).pair
                  ((Kd.int IntKind.i64).pair
                    ((Kd.int IntKind.i64).pair
                      ((Kd.int IntKind.i64).pair ((Kd.int IntKind.i64).pair (Kd.int IntKind.i64))))))
                a2])
      else
        guardB
          (bif
              decide
                (0 +
                    (mgL
                        (fs2
                          (((List.take a0.length a0, a1), (List.take a2.length a2, a3), PUnit.unit),
                            PUnit.unit))).length ≤
                  (mgL
                      (fs2
                        (((List.take a0.length a0, a1), (List.take a2.length a2, a3), PUnit.unit),
                          PUnit.unit))).length) then
            bif decide (0 + a0.length ≤ a0.length) then
              bif decide (0 + a0.length ≤ a0.length) then
                preLw ([], true) (List.take a0.length a0) (List.take a0.length a0) (↑a0.length : Int) 0
              else false
            else false
          else false)
          (bif decide ((scanV (List.take a0.length a0) 0 ([], true)).fst = 0) then
            bif decide ((↑a2.length : Int) > 60) then
              some
                (PV.sc (Value.bool true),
                  [Blk.fix false [PV.sl 1 0 6 a0.length a0.length false a1, PV.sl 2 0 6 a2.length a2.length false a3],
                    Blk.row false
                      ((Kd.int IntKind.i64).pair
                        ((Kd.int IntKind.i64).pair
                          ((Kd.int IntKind.i64).pair
                            ((Kd.int IntKind.i64).pair ((Kd.int IntKind.i64).pair (Kd.int IntKind.i64))))))
                      a0,
                    Blk.row false
                      ((Kd.int IntKind.i64).pair
                        ((Kd.int IntKind.i64).pair
                          ((Kd.int IntKind.i64).pair
                            ((Kd.int IntKind.i64).pair ((Kd.int IntKind.i64).pair (Kd.int IntKind.i64))))))
                      a2])
            else
              guardB
                (bif
                    decide
                      (0 +
                          (mgL
                              (fs2
                                (((List.take a0.length a0, a1), (List.take a2.length a2, a3), PUnit.unit),
                                  PUnit.unit))).length ≤
                        (mgL
                            (fs2
                              (((List.take a0.length a0, a1), (List.take a2.length a2, a3), PUnit.unit),
                                PUnit.unit))).length) then
                  bif
                      decide
                        ((scanV (List.take a0.length a0) 0 ([], true)).snd.fst.length =
                          (scanV (List.take a0.length a0) 0 ([], true)).snd.fst.length) then
                    bif decide (0 + a2.length ≤ a2.length) then
                      bif decide (0 + a2.length ≤ a2.length) then
                        preLw (scanV (List.take a0.length a0) 0 ([], true)).snd (List.take a2.length a2)
                          (List.take a2.length a2) (↑a2.length : Int) 0
                      else false
                    else false
                  else false
                else false)
                (bif
                    decide
                      ((scanV (List.take a2.length a2) 0 (scanV (List.take a0.length a0) 0 ([], true)).snd).fst =
                        0) then
                  guardB
                    (bif
                        decide
                          (0 +
                              (mgL
                                  (fs2
                                    (((List.take a0.length a0, a1), (List.take a2.length a2, a3), PUnit.unit),
                                      PUnit.unit))).length ≤
                            (mgL
                                (fs2
                                  (((List.take a0.length a0, a1), (List.take a2.length a2, a3), PUnit.unit),
                                    PUnit.unit))).length) then
                      bif
                          decide
                            (0 +
                                (scanV (List.take a2.length a2) 0
                                        (scanV (List.take a0.length a0) 0 ([], true)).snd).snd.fst.length ≤
                              (scanV (List.take a2.length a2) 0
                                      (scanV (List.take a0.length a0) 0 ([], true)).snd).snd.fst.length) then
                        decide
                          ((List.take
                                (mgL
                                    (fs2
                                      (((List.take a0.length a0, a1), (List.take a2.length a2, a3), PUnit.unit),
                                        PUnit.unit))).length
                                (mgL
                                  (fs2
                                    (((List.take a0.length a0, a1), (List.take a2.length a2, a3), PUnit.unit),
                                      PUnit.unit)))).length ≤
                            2000)
                      else false
                    else false)
                    (some
                      (PV.sc
                          (Value.bool
                            (bp
                              (List.take
                                  (mgL
                                      (fs2
                                        (((List.take a0.length a0, a1), (List.take a2.length a2, a3), PUnit.unit),
                                          PUnit.unit))).length
                                  (mgL
                                    (fs2
                                      (((List.take a0.length a0, a1), (List.take a2.length a2, a3), PUnit.unit),
                                        PUnit.unit))) =
                                List.take
                                  (scanV (List.take a2.length a2) 0
                                          (scanV (List.take a0.length a0) 0 ([], true)).snd).snd.fst.length
                                  (scanV (List.take a2.length a2) 0
                                        (scanV (List.take a0.length a0) 0 ([], true)).snd).snd.fst))),
                        [Blk.fix false
                            [PV.sl 1 0 6 a0.length a0.length false a1, PV.sl 2 0 6 a2.length a2.length false a3],
                          Blk.row false
                            ((Kd.int IntKind.i64).pair
                              ((Kd.int IntKind.i64).pair
                                ((Kd.int IntKind.i64).pair
                                  ((Kd.int IntKind.i64).pair ((Kd.int IntKind.i64).pair (Kd.int IntKind.i64))))))
                            a0,
                          Blk.row false
                            ((Kd.int IntKind.i64).pair
                              ((Kd.int IntKind.i64).pair
                                ((Kd.int IntKind.i64).pair
                                  ((Kd.int IntKind.i64).pair ((Kd.int IntKind.i64).pair (Kd.int IntKind.i64))))))
                            a2]))
                else
                  some
                    (PV.sc
                        (Value.bool
                          (lawR
                            (List.take
                              (mgL
                                  (fs2
                                    (((List.take a0.length a0, a1), (List.take a2.length a2, a3), PUnit.unit),
                                      PUnit.unit))).length
                              (mgL
                                (fs2
                                  (((List.take a0.length a0, a1), (List.take a2.length a2, a3), PUnit.unit),
                                    PUnit.unit))))
                            0
                            (scanV (List.take a2.length a2) 0 (scanV (List.take a0.length a0) 0 ([], true)).snd).fst)),
                      [Blk.fix false
                          [PV.sl 1 0 6 a0.length a0.length false a1, PV.sl 2 0 6 a2.length a2.length false a3],
                        Blk.row false
                          ((Kd.int IntKind.i64).pair
                            ((Kd.int IntKind.i64).pair
                              ((Kd.int IntKind.i64).pair
                                ((Kd.int IntKind.i64).pair ((Kd.int IntKind.i64).pair (Kd.int IntKind.i64))))))
                          a0,
                        Blk.row false
                          ((Kd.int IntKind.i64).pair
                            ((Kd.int IntKind.i64).pair
                              ((Kd.int IntKind.i64).pair
                                ((Kd.int IntKind.i64).pair ((Kd.int IntKind.i64).pair (Kd.int IntKind.i64))))))
                          a2]))
          else
            some
              (PV.sc
                  (Value.bool
                    (lawR
                      (List.take
                        (mgL
                            (fs2
                              (((List.take a0.length a0, a1), (List.take a2.length a2, a3), PUnit.unit),
                                PUnit.unit))).length
                        (mgL
                          (fs2 (((List.take a0.length a0, a1), (List.take a2.length a2, a3), PUnit.unit), PUnit.unit))))
                      0 (scanV (List.take a0.length a0) 0 ([], true)).fst)),
                [Blk.fix false [PV.sl 1 0 6 a0.length a0.length false a1, PV.sl 2 0 6 a2.length a2.length false a3],
                  Blk.row false
                    ((Kd.int IntKind.i64).pair
                      ((Kd.int IntKind.i64).pair
                        ((Kd.int IntKind.i64).pair
                          ((Kd.int IntKind.i64).pair ((Kd.int IntKind.i64).pair (Kd.int IntKind.i64))))))
                    a0,
                  Blk.row false
                    ((Kd.int IntKind.i64).pair
                      ((Kd.int IntKind.i64).pair
                        ((Kd.int IntKind.i64).pair
                          ((Kd.int IntKind.i64).pair ((Kd.int IntKind.i64).pair (Kd.int IntKind.i64))))))
                    a2]))
    else
      bif decide ((↑a0.length : Int) > 60) then
        some
          (PV.sc (Value.bool true),
            [Blk.fix false [PV.sl 1 0 6 a0.length a0.length false a1, PV.sl 2 0 6 a2.length a2.length false a3],
              Blk.row false
                ((Kd.int IntKind.i64).pair
                  ((Kd.int IntKind.i64).pair
                    ((Kd.int IntKind.i64).pair
                      ((Kd.int IntKind.i64).pair ((Kd.int IntKind.i64).pair (Kd.int IntKind.i64))))))
                a0,
              Blk.row false
                ((Kd.int IntKind.i64).pair
                  ((Kd.int IntKind.i64).pair
                    ((Kd.int IntKind.i64).pair
                      ((Kd.int IntKind.i64).pair ((Kd.int IntKind.i64).pair (Kd.int IntKind.i64))))))
                a2])
      else
        guardB
          (bif decide (0 + a0.length ≤ a0.length) then
            bif decide (0 + a0.length ≤ a0.length) then
              preLw ([], true) (List.take a0.length a0) (List.take a0.length a0) (↑a0.length : Int) 0
            else false
          else false)
          (bif decide ((scanV (List.take a0.length a0) 0 ([], true)).fst = 0) then
            bif decide ((↑a2.length : Int) > 60) then
              some
                (PV.sc (Value.bool true),
                  [Blk.fix false [PV.sl 1 0 6 a0.length a0.length false a1, PV.sl 2 0 6 a2.length a2.length false a3],
                    Blk.row false
                      ((Kd.int IntKind.i64).pair
                        ((Kd.int IntKind.i64).pair
                          ((Kd.int IntKind.i64).pair
                            ((Kd.int IntKind.i64).pair ((Kd.int IntKind.i64).pair (Kd.int IntKind.i64))))))
                      a0,
                    Blk.row false
                      ((Kd.int IntKind.i64).pair
                        ((Kd.int IntKind.i64).pair
                          ((Kd.int IntKind.i64).pair
                            ((Kd.int IntKind.i64).pair ((Kd.int IntKind.i64).pair (Kd.int IntKind.i64))))))
                      a2])
            else
              guardB
                (bif
                    decide
                      ((scanV (List.take a0.length a0) 0 ([], true)).snd.fst.length =
                        (scanV (List.take a0.length a0) 0 ([], true)).snd.fst.length) then
                  bif decide (0 + a2.length ≤ a2.length) then
                    bif decide (0 + a2.length ≤ a2.length) then
                      preLw (scanV (List.take a0.length a0) 0 ([], true)).snd (List.take a2.length a2)
                        (List.take a2.length a2) (↑a2.length : Int) 0
                    else false
                  else false
                else false)
                (bif
                    decide
                      ((scanV (List.take a2.length a2) 0 (scanV (List.take a0.length a0) 0 ([], true)).snd).fst =
                        0) then
                  bif
                      mgE
                          (fs2
                            (((List.take a0.length a0, a1), (List.take a2.length a2, a3), PUnit.unit), PUnit.unit)) ==
                        0 then
                    guardB
                      (bif
                          decide
                            (0 +
                                (scanV (List.take a2.length a2) 0
                                        (scanV (List.take a0.length a0) 0 ([], true)).snd).snd.fst.length ≤
                              (scanV (List.take a2.length a2) 0
                                      (scanV (List.take a0.length a0) 0 ([], true)).snd).snd.fst.length) then
                        true
                      else false)
                      (some
                        (PV.sc
                            (Value.bool
                              (bp
                                ([] =
                                  List.take
                                    (scanV (List.take a2.length a2) 0
                                            (scanV (List.take a0.length a0) 0 ([], true)).snd).snd.fst.length
                                    (scanV (List.take a2.length a2) 0
                                          (scanV (List.take a0.length a0) 0 ([], true)).snd).snd.fst))),
                          [Blk.fix false
                              [PV.sl 1 0 6 a0.length a0.length false a1, PV.sl 2 0 6 a2.length a2.length false a3],
                            Blk.row false
                              ((Kd.int IntKind.i64).pair
                                ((Kd.int IntKind.i64).pair
                                  ((Kd.int IntKind.i64).pair
                                    ((Kd.int IntKind.i64).pair ((Kd.int IntKind.i64).pair (Kd.int IntKind.i64))))))
                              a0,
                            Blk.row false
                              ((Kd.int IntKind.i64).pair
                                ((Kd.int IntKind.i64).pair
                                  ((Kd.int IntKind.i64).pair
                                    ((Kd.int IntKind.i64).pair ((Kd.int IntKind.i64).pair (Kd.int IntKind.i64))))))
                              a2]))
                  else
                    some
                      (PV.sc (Value.bool false),
                        [Blk.fix false
                            [PV.sl 1 0 6 a0.length a0.length false a1, PV.sl 2 0 6 a2.length a2.length false a3],
                          Blk.row false
                            ((Kd.int IntKind.i64).pair
                              ((Kd.int IntKind.i64).pair
                                ((Kd.int IntKind.i64).pair
                                  ((Kd.int IntKind.i64).pair ((Kd.int IntKind.i64).pair (Kd.int IntKind.i64))))))
                            a0,
                          Blk.row false
                            ((Kd.int IntKind.i64).pair
                              ((Kd.int IntKind.i64).pair
                                ((Kd.int IntKind.i64).pair
                                  ((Kd.int IntKind.i64).pair ((Kd.int IntKind.i64).pair (Kd.int IntKind.i64))))))
                            a2])
                else
                  some
                    (PV.sc
                        (Value.bool
                          (lawR []
                            (mgE
                              (fs2
                                (((List.take a0.length a0, a1), (List.take a2.length a2, a3), PUnit.unit), PUnit.unit)))
                            (scanV (List.take a2.length a2) 0 (scanV (List.take a0.length a0) 0 ([], true)).snd).fst)),
                      [Blk.fix false
                          [PV.sl 1 0 6 a0.length a0.length false a1, PV.sl 2 0 6 a2.length a2.length false a3],
                        Blk.row false
                          ((Kd.int IntKind.i64).pair
                            ((Kd.int IntKind.i64).pair
                              ((Kd.int IntKind.i64).pair
                                ((Kd.int IntKind.i64).pair ((Kd.int IntKind.i64).pair (Kd.int IntKind.i64))))))
                          a0,
                        Blk.row false
                          ((Kd.int IntKind.i64).pair
                            ((Kd.int IntKind.i64).pair
                              ((Kd.int IntKind.i64).pair
                                ((Kd.int IntKind.i64).pair ((Kd.int IntKind.i64).pair (Kd.int IntKind.i64))))))
                          a2]))
          else
            some
              (PV.sc
                  (Value.bool
                    (lawR []
                      (mgE (fs2 (((List.take a0.length a0, a1), (List.take a2.length a2, a3), PUnit.unit), PUnit.unit)))
                      (scanV (List.take a0.length a0) 0 ([], true)).fst)),
                [Blk.fix false [PV.sl 1 0 6 a0.length a0.length false a1, PV.sl 2 0 6 a2.length a2.length false a3],
                  Blk.row false
                    ((Kd.int IntKind.i64).pair
                      ((Kd.int IntKind.i64).pair
                        ((Kd.int IntKind.i64).pair
                          ((Kd.int IntKind.i64).pair ((Kd.int IntKind.i64).pair (Kd.int IntKind.i64))))))
                    a0,
                  Blk.row false
                    ((Kd.int IntKind.i64).pair
                      ((Kd.int IntKind.i64).pair
                        ((Kd.int IntKind.i64).pair
                          ((Kd.int IntKind.i64).pair ((Kd.int IntKind.i64).pair (Kd.int IntKind.i64))))))
                    a2])))) := by kernel_rfl
noncomputable abbrev z13cL (a0 : List (Int × Int × Int × Int × Int × Int)) (a1 : Bool) (a2 : List (Int × Int × Int × Int × Int × Int)) (a3 : Bool) (a4 : List (Int × Int × Int × Int × Int × Int)) (a5 : Bool) := evFuncV Try.prog M3 (addCut 2 [5, 6, 7, 9, 52, 53, 54] [2, 7] (entC kLw cLw) noCuts) Try.f13 (killA 0 ks3) (showA 0 ks3 (((a0, a1), ((a2, a3), ((a4, a5), ()))), ())).1 (showA 0 ks3 (((a0, a1), ((a2, a3), ((a4, a5), ()))), ())).2
theorem z13c (a0 : List (Int × Int × Int × Int × Int × Int)) (a1 : Bool) (a2 : List (Int × Int × Int × Int × Int × Int)) (a3 : Bool) (a4 : List (Int × Int × Int × Int × Int × Int)) (a5 : Bool) : z13cL a0 a1 a2 a3 a4 a5 = (bif
    (↑(mgL (fs2 ((([(0, 1, 0, 0, 0, 0)], false), ([(0, 1, 0, 0, 0, 0)], false), PUnit.unit), PUnit.unit))).length :
        Int) !=
      1 then
  some
    (PV.sc (Value.bool false),
      [Blk.fix false
          [PV.sl 1 0 6 a0.length a0.length false a1, PV.sl 2 0 6 a2.length a2.length false a3,
            PV.sl 3 0 6 a4.length a4.length false a5],
        Blk.row false
          ((Kd.int IntKind.i64).pair
            ((Kd.int IntKind.i64).pair
              ((Kd.int IntKind.i64).pair ((Kd.int IntKind.i64).pair ((Kd.int IntKind.i64).pair (Kd.int IntKind.i64))))))
          a0,
        Blk.row false
          ((Kd.int IntKind.i64).pair
            ((Kd.int IntKind.i64).pair
              ((Kd.int IntKind.i64).pair ((Kd.int IntKind.i64).pair ((Kd.int IntKind.i64).pair (Kd.int IntKind.i64))))))
          a2,
        Blk.row false
          ((Kd.int IntKind.i64).pair
            ((Kd.int IntKind.i64).pair
              ((Kd.int IntKind.i64).pair ((Kd.int IntKind.i64).pair ((Kd.int IntKind.i64).pair (Kd.int IntKind.i64))))))
          a4])
else
  guardB
    (bif decide (0 + a0.length ≤ a0.length) then
      bif decide (0 + a2.length ≤ a2.length) then bif decide (0 + a4.length ≤ a4.length) then true else false else false
    else false)
    (bif
        decide
          (mgE
              (fs3
                (((List.take a0.length a0, a1), (List.take a2.length a2, a3), (List.take a4.length a4, a5), PUnit.unit),
                  PUnit.unit)) =
            0) then
      bif decide ((↑a0.length : Int) > 60) then
        some
          (PV.sc (Value.bool true),
            [Blk.fix false
                [PV.sl 1 0 6 a0.length a0.length false a1, PV.sl 2 0 6 a2.length a2.length false a3,
                  PV.sl 3 0 6 a4.length a4.length false a5],
              Blk.row false
                ((Kd.int IntKind.i64).pair
                  ((Kd.int IntKind.i64).pair
                    ((Kd.int IntKind.i64).pair
                      ((Kd.int IntKind.i64).pair ((Kd.int IntKind.i64).pair (Kd.int IntKind.i64))))))
                a0,
              Blk.row false
                ((Kd.int IntKind.i64).pair
                  ((Kd.int IntKind.i64).pair
                    ((Kd.int IntKind.i64).pair
                      ((Kd.int IntKind.i64).pair ((Kd.int IntKind.i64).pair (Kd.int IntKind.i64))))))
                a2,
              Blk.row false
                ((Kd.int IntKind.i64).pair
                  ((Kd.int IntKind.i64).pair
                    ((Kd.int IntKind.i64).pair
                      ((Kd.int IntKind.i64).pair ((Kd.int IntKind.i64).pair (Kd.int IntKind.i64))))))
                a4])
      else
        guardB
          (bif
              decide
                (0 +
                    (mgL
                        (fs3
                          (((List.take a0.length a0, a1), (List.take a2.length a2, a3), (List.take a4.length a4, a5),
                              PUnit.unit),
                            PUnit.unit))).length ≤
                  (mgL
                      (fs3
                        (((List.take a0.length a0, a1), (List.take a2.length a2, a3), (List.take a4.length a4, a5),
                            PUnit.unit),
                          PUnit.unit))).length) then
            bif decide (0 + a0.length ≤ a0.length) then
              bif decide (0 + a0.length ≤ a0.length) then
                preLw ([], true) (List.take a0.length a0) (List.take a0.length a0) (↑a0.length : Int) 0
              else false
            else false
          else false)
          (bif decide ((scanV (List.take a0.length a0) 0 ([], true)).fst = 0) then
            bif decide ((↑a2.length : Int) > 60) then
              some
                (PV.sc (Value.bool true),
                  [Blk.fix false
                      [PV.sl 1 0 6 a0.length a0.length false a1, PV.sl 2 0 6 a2.length a2.length false a3,
                        PV.sl 3 0 6 a4.length a4.length false a5],
                    Blk.row false
                      ((Kd.int IntKind.i64).pair
                        ((Kd.int IntKind.i64).pair
                          ((Kd.int IntKind.i64).pair
                            ((Kd.int IntKind.i64).pair ((Kd.int IntKind.i64).pair (Kd.int IntKind.i64))))))
                      a0,
                    Blk.row false
                      ((Kd.int IntKind.i64).pair
                        ((Kd.int IntKind.i64).pair
                          ((Kd.int IntKind.i64).pair
                            ((Kd.int IntKind.i64).pair ((Kd.int IntKind.i64).pair (Kd.int IntKind.i64))))))
                      a2,
                    Blk.row false
                      ((Kd.int IntKind.i64).pair
                        ((Kd.int IntKind.i64).pair
                          ((Kd.int IntKind.i64).pair
                            ((Kd.int IntKind.i64).pair ((Kd.int IntKind.i64).pair (Kd.int IntKind.i64))))))
                      a4])
            else
              guardB
                (bif
                    decide
                      (0 +
                          (mgL
                              (fs3
                                (((List.take a0.length a0, a1), (List.take a2.length a2, a3),
                                    (List.take a4.length a4, a5), PUnit.unit),
                                  PUnit.unit))).length ≤
                        (mgL
                            (fs3
                              (((List.take a0.length a0, a1), (List.take a2.length a2, a3),
                                  (List.take a4.length a4, a5), PUnit.unit),
                                PUnit.unit))).length) then
                  bif
                      decide
                        ((scanV (List.take a0.length a0) 0 ([], true)).snd.fst.length =
                          (scanV (List.take a0.length a0) 0 ([], true)).snd.fst.length) then
                    bif decide (0 + a2.length ≤ a2.length) then
                      bif decide (0 + a2.length ≤ a2.length) then
                        preLw (scanV (List.take a0.length a0) 0 ([], true)).snd (List.take a2.length a2)
                          (List.take a2.length a2) (↑a2.length : Int) 0
                      else false
                    else false
                  else false
                else false)
                (bif
                    decide
                      ((scanV (List.take a2.length a2) 0 (scanV (List.take a0.length a0) 0 ([], true)).snd).fst =
                        0) then
                  bif decide ((↑a4.length : Int) > 60) then
                    some
                      (PV.sc (Value.bool true),
                        [Blk.fix false
                            [PV.sl 1 0 6 a0.length a0.length false a1, PV.sl 2 0 6 a2.length a2.length false a3,
                              PV.sl 3 0 6 a4.length a4.length false a5],
                          Blk.row false
                            ((Kd.int IntKind.i64).pair
                              ((Kd.int IntKind.i64).pair
                                ((Kd.int IntKind.i64).pair
                                  ((Kd.int IntKind.i64).pair ((Kd.int IntKind.i64).pair (Kd.int IntKind.i64))))))
                            a0,
                          Blk.row false
                            ((Kd.int IntKind.i64).pair
                              ((Kd.int IntKind.i64).pair
                                ((Kd.int IntKind.i64).pair
                                  ((Kd.int IntKind.i64).pair ((Kd.int IntKind.i64).pair (Kd.int IntKind.i64))))))
                            a2,
                          Blk.row false
                            ((Kd.int IntKind.i64).pair
                              ((Kd.int IntKind.i64).pair
                                ((Kd.int IntKind.i64).pair
                                  ((Kd.int IntKind.i64).pair ((Kd.int IntKind.i64).pair (Kd.int IntKind.i64))))))
                            a4])
                  else
                    guardB
                      (bif
                          decide
                            (0 +
                                (mgL
                                    (fs3
                                      (((List.take a0.length a0, a1), (List.take a2.length a2, a3),
                                          (List.take a4.length a4, a5), PUnit.unit),
                                        PUnit.unit))).length ≤
                              (mgL
                                  (fs3
                                    (((List.take a0.length a0, a1), (List.take a2.length a2, a3),
                                        (List.take a4.length a4, a5), PUnit.unit),
                                      PUnit.unit))).length) then
                        bif
                            decide
                              ((scanV (List.take a2.length a2) 0
                                        (scanV (List.take a0.length a0) 0 ([], true)).snd).snd.fst.length =
                                (scanV (List.take a2.length a2) 0
                                        (scanV (List.take a0.length a0) 0 ([], true)).snd).snd.fst.length) then
                          bif decide (0 + a4.length ≤ a4.length) then
                            bif decide (0 + a4.length ≤ a4.length) then
                              preLw
                                (scanV (List.take a2.length a2) 0 (scanV (List.take a0.length a0) 0 ([], true)).snd).snd
                                (List.take a4.length a4) (List.take a4.length a4) (↑a4.length : Int) 0
                            else false
                          else false
                        else false
                      else false)
                      (bif
                          decide
                            ((scanV (List.take a4.length a4) 0
                                  (scanV (List.take a2.length a2) 0
                                      (scanV (List.take a0.length a0) 0 ([], true)).snd).snd).fst =
                              0) then
                        guardB
                          (bif
                              decide
                                (0 +
                                    (mgL
                                        (fs3
                                          (((List.take a0.length a0, a1), (List.take a2.length a2, a3),
                                              (List.take a4.length a4, a5), PUnit.unit),
                                            PUnit.unit))).length ≤
                                  (mgL
                                      (fs3
                                        (((List.take a0.length a0, a1), (List.take a2.length a2, a3),
                                            (List.take a4.length a4, a5), PUnit.unit),
                                          PUnit.unit))).length) then
                            bif
                                decide
                                  (0 +
                                      (scanV (List.take a4.length a4) 0
                                              (scanV (List.take a2.length a2) 0
                                                  (scanV (List.take a0.length a0) 0
                                                      ([], true)).snd).snd).snd.fst.length ≤
                                    (scanV (List.take a4.length a4) 0
                                            (scanV (List.take a2.length a2) 0
                                                (scanV (List.take a0.length a0) 0
                                                    ([], true)).snd).snd).snd.fst.length) then
                              decide
                                ((List.take
                                      (mgL
                                          (fs3
                                            (((List.take a0.length a0, a1), (List.take a2.length a2, a3),
                                                (List.take a4.length a4, a5), PUnit.unit),
                                              PUnit.unit))).length
                                      (mgL
                                        (fs3
                                          (((List.take a0.length a0, a1), (List.take a2.length a2, a3),
                                              (List.take a4.length a4, a5), PUnit.unit),
                                            PUnit.unit)))).length ≤
                                  2000)
                            else false
                          else false)
                          (some
                            (PV.sc
                                (Value.bool
                                  (bp
                                    (List.take
                                        (mgL
                                            (fs3
                                              (((List.take a0.length a0, a1), (List.take a2.length a2, a3),
                                                  (List.take a4.length a4, a5), PUnit.unit),
                                                PUnit.unit))).length
                                        (mgL
                                          (fs3
                                            (((List.take a0.length a0, a1), (List.take a2.length a2, a3),
                                                (List.take a4.length a4, a5), PUnit.unit),
                                              PUnit.unit))) =
                                      List.take
                                        (scanV (List.take a4.length a4) 0
                                                (scanV (List.take a2.length a2) 0
                                                    (scanV (List.take a0.length a0) 0
                                                        ([], true)).snd).snd).snd.fst.length
                                        (scanV (List.take a4.length a4) 0
                                              (scanV (List.take a2.length a2) 0
                                                  (scanV (List.take a0.length a0) 0 ([], true)).snd).snd).snd.fst))),
                              [Blk.fix false
                                  [PV.sl 1 0 6 a0.length a0.length false a1, PV.sl 2 0 6 a2.length a2.length false a3,
                                    PV.sl 3 0 6 a4.length a4.length false a5],
                                Blk.row false
                                  ((Kd.int IntKind.i64).pair
                                    ((Kd.int IntKind.i64).pair
                                      ((Kd.int IntKind.i64).pair
                                        ((Kd.int IntKind.i64).pair ((Kd.int IntKind.i64).pair (Kd.int IntKind.i64))))))
                                  a0,
                                Blk.row false
                                  ((Kd.int IntKind.i64).pair
                                    ((Kd.int IntKind.i64).pair
                                      ((Kd.int IntKind.i64).pair
                                        ((Kd.int IntKind.i64).pair ((Kd.int IntKind.i64).pair (Kd.int IntKind.i64))))))
                                  a2,
                                Blk.row false
                                  ((Kd.int IntKind.i64).pair
                                    ((Kd.int IntKind.i64).pair
                                      ((Kd.int IntKind.i64).pair
                                        ((Kd.int IntKind.i64).pair ((Kd.int IntKind.i64).pair (Kd.int IntKind.i64))))))
                                  a4]))
                      else
                        some
                          (PV.sc
                              (Value.bool
                                (lawR
                                  (List.take
                                    (mgL
                                        (fs3
                                          (((List.take a0.length a0, a1), (List.take a2.length a2, a3),
                                              (List.take a4.length a4, a5), PUnit.unit),
                                            PUnit.unit))).length
                                    (mgL
                                      (fs3
                                        (((List.take a0.length a0, a1), (List.take a2.length a2, a3),
                                            (List.take a4.length a4, a5), PUnit.unit),
                                          PUnit.unit))))
                                  0
                                  (scanV (List.take a4.length a4) 0
                                      (scanV (List.take a2.length a2) 0
                                          (scanV (List.take a0.length a0) 0 ([], true)).snd).snd).fst)),
                            [Blk.fix false
                                [PV.sl 1 0 6 a0.length a0.length false a1, PV.sl 2 0 6 a2.length a2.length false a3,
                                  PV.sl 3 0 6 a4.length a4.length false a5],
                              Blk.row false
                                ((Kd.int IntKind.i64).pair
                                  ((Kd.int IntKind.i64).pair
                                    ((Kd.int IntKind.i64).pair
                                      ((Kd.int IntKind.i64).pair ((Kd.int IntKind.i64).pair (Kd.int IntKind.i64))))))
                                a0,
                              Blk.row false
                                ((Kd.int IntKind.i64).pair
                                  ((Kd.int IntKind.i64).pair
                                    ((Kd.int IntKind.i64).pair
                                      ((Kd.int IntKind.i64).pair ((Kd.int IntKind.i64).pair (Kd.int IntKind.i64))))))
                                a2,
                              Blk.row false
                                ((Kd.int IntKind.i64).pair
                                  ((Kd.int IntKind.i64).pair
                                    ((Kd.int IntKind.i64).pair
                                      ((Kd.int IntKind.i64).pair ((Kd.int IntKind.i64).pair (Kd.int IntKind.i64))))))
                                a4]))
                else
                  some
                    (PV.sc
                        (Value.bool
                          (lawR
                            (List.take
                              (mgL
                                  (fs3
                                    (((List.take a0.length a0, a1), (List.take a2.length a2, a3),
                                        (List.take a4.length a4, a5), PUnit.unit),
                                      PUnit.unit))).length
                              (mgL
                                (fs3
                                  (((List.take a0.length a0, a1), (List.take a2.length a2, a3),
                                      (List.take a4.length a4, a5), PUnit.unit),
                                    PUnit.unit))))
                            0
                            (scanV (List.take a2.length a2) 0 (scanV (List.take a0.length a0) 0 ([], true)).snd).fst)),
                      [Blk.fix false
                          [PV.sl 1 0 6 a0.length a0.length false a1, PV.sl 2 0 6 a2.length a2.length false a3,
                            PV.sl 3 0 6 a4.length a4.length false a5],
                        Blk.row false
                          ((Kd.int IntKind.i64).pair
                            ((Kd.int IntKind.i64).pair
                              ((Kd.int IntKind.i64).pair
                                ((Kd.int IntKind.i64).pair ((Kd.int IntKind.i64).pair (Kd.int IntKind.i64))))))
                          a0,
                        Blk.row false
                          ((Kd.int IntKind.i64).pair
                            ((Kd.int IntKind.i64).pair
                              ((Kd.int IntKind.i64).pair
                                ((Kd.int IntKind.i64).pair ((Kd.int IntKind.i64).pair (Kd.int IntKind.i64))))))
                          a2,
                        Blk.row false
                          ((Kd.int IntKind.i64).pair
                            ((Kd.int IntKind.i64).pair
                              ((Kd.int IntKind.i64).pair
                                ((Kd.int IntKind.i64).pair ((Kd.int IntKind.i64).pair (Kd.int IntKind.i64))))))
                          a4]))
          else
            some
              (PV.sc
                  (Value.bool
                    (lawR
                      (List.take
                        (mgL
                            (fs3
                              (((List.take a0.length a0, a1), (List.take a2.length a2, a3),
                                  (List.take a4.length a4, a5), PUnit.unit),
                                PUnit.unit))).length
                        (mgL
                          (fs3
                            (((List.take a0.length a0, a1), (List.take a2.length a2, a3), (List.take a4.length a4, a5),
                                PUnit.unit),
                              PUnit.unit))))
                      0 (scanV (List.take a0.length a0) 0 ([], true)).fst)),
                [Blk.fix false
                    [PV.sl 1 0 6 a0.length a0.length false a1, PV.sl 2 0 6 a2.length a2.length false a3,
                      PV.sl 3 0 6 a4.length a4.length false a5],
                  Blk.row false
                    ((Kd.int IntKind.i64).pair
                      ((Kd.int IntKind.i64).pair
                        ((Kd.int IntKind.i64).pair
                          ((Kd.int IntKind.i64).pair ((Kd.int IntKind.i64).pair (Kd.int IntKind.i64))))))
                    a0,
                  Blk.row false
                    ((Kd.int IntKind.i64).pair
                      ((Kd.int IntKind.i64).pair
                        ((Kd.int IntKind.i64).pair
                          ((Kd.int IntKind.i64).pair ((Kd.int IntKind.i64).pair (Kd.int IntKind.i64))))))
                    a2,
                  Blk.row false
                    ((Kd.int IntKind.i64).pair
                      ((Kd.int IntKind.i64).pair
                        ((Kd.int IntKind.i64).pair
                          ((Kd.int IntKind.i64).pair ((Kd.int IntKind.i64).pair (Kd.int IntKind.i64))))))
                    a4]))
    else
      bif decide ((↑a0.length : Int) > 60) then
        some
          (PV.sc (Value.bool true),
            [Blk.fix false
                [PV.sl 1 0 6 a0.length a0.length false a1, PV.sl 2 0 6 a2.length a2.length false a3,
                  PV.sl 3 0 6 a4.length a4.length false a5],
              Blk.row false
                ((Kd.int IntKind.i64).pair
                  ((Kd.int IntKind.i64).pair
                    ((Kd.int IntKind.i64).pair
                      ((Kd.int IntKind.i64).pair ((Kd.int IntKind.i64).pair (Kd.int IntKind.i64))))))
                a0,
              Blk.row false
                ((Kd.int IntKind.i64).pair
                  ((Kd.int IntKind.i64).pair
                    ((Kd.int IntKind.i64).pair
                      ((Kd.int IntKind.i64).pair ((Kd.int IntKind.i64).pair (Kd.int IntKind.i64))))))
                a2,
              Blk.row false
                ((Kd.int IntKind.i64).pair
                  ((Kd.int IntKind.i64).pair
                    ((Kd.int IntKind.i64).pair
                      ((Kd.int IntKind.i64).pair ((Kd.int IntKind.i64).pair (Kd.int IntKind.i64))))))
                a4])
      else
        guardB
          (bif decide (0 + a0.length ≤ a0.length) then
            bif decide (0 + a0.length ≤ a0.length) then
              preLw ([], true) (List.take a0.length a0) (List.take a0.length a0) (↑a0.length : Int) 0
            else false
          else false)
          (bif decide ((scanV (List.take a0.length a0) 0 ([], true)).fst = 0) then
            bif decide ((↑a2.length : Int) > 60) then
              some
                (PV.sc (Value.bool true),
                  [Blk.fix false
                      [PV.sl 1 0 6 a0.length a0.length false a1, PV.sl 2 0 6 a2.length a2.length false a3,
                        PV.sl 3 0 6 a4.length a4.length false a5],
                    Blk.row false
                      ((Kd.int IntKind.i64).pair
                        ((Kd.int IntKind.i64).pair
                          ((Kd.int IntKind.i64).pair
                            ((Kd.int IntKind.i64).pair ((Kd.int IntKind.i64).pair (Kd.int IntKind.i64))))))
                      a0,
                    Blk.row false
                      ((Kd.int IntKind.i64).pair
                        ((Kd.int IntKind.i64).pair
                          ((Kd.int IntKind.i64).pair
                            ((Kd.int IntKind.i64).pair ((Kd.int IntKind.i64).pair (Kd.int IntKind.i64))))))
                      a2,
                    Blk.row false
                      ((Kd.int IntKind.i64).pair
                        ((Kd.int IntKind.i64).pair
                          ((Kd.int IntKind.i64).pair
                            ((Kd.int IntKind.i64).pair ((Kd.int IntKind.i64).pair (Kd.int IntKind.i64))))))
                      a4])
            else
              guardB
                (bif
                    decide
                      ((scanV (List.take a0.length a0) 0 ([], true)).snd.fst.length =
                        (scanV (List.take a0.length a0) 0 ([], true)).snd.fst.length) then
                  bif decide (0 + a2.length ≤ a2.length) then
                    bif decide (0 + a2.length ≤ a2.length) then
                      preLw (scanV (List.take a0.length a0) 0 ([], true)).snd (List.take a2.length a2)
                        (List.take a2.length a2) (↑a2.length : Int) 0
                    else false
                  else false
                else false)
                (bif
                    decide
                      ((scanV (List.take a2.length a2) 0 (scanV (List.take a0.length a0) 0 ([], true)).snd).fst =
                        0) then
                  bif decide ((↑a4.length : Int) > 60) then
                    some
                      (PV.sc (Value.bool true),
                        [Blk.fix false
                            [PV.sl 1 0 6 a0.length a0.length false a1, PV.sl 2 0 6 a2.length a2.length false a3,
                              PV.sl 3 0 6 a4.length a4.length false a5],
                          Blk.row false
                            ((Kd.int IntKind.i64).pair
                              ((Kd.int IntKind.i64).pair
                                ((Kd.int IntKind.i64).pair
                                  ((Kd.int IntKind.i64).pair ((Kd.int IntKind.i64).pair (Kd.int IntKind.i64))))))
                            a0,
                          Blk.row false
                            ((Kd.int IntKind.i64).pair
                              ((Kd.int IntKind.i64).pair
                                ((Kd.int IntKind.i64).pair
                                  ((Kd.int IntKind.i64).pair ((Kd.int IntKind.i64).pair (Kd.int IntKind.i64))))))
                            a2,
                          Blk.row false
                            ((Kd.int IntKind.i64).pair
                              ((Kd.int IntKind.i64).pair
                                ((Kd.int IntKind.i64).pair
                                  ((Kd.int IntKind.i64).pair ((Kd.int IntKind.i64).pair (Kd.int IntKind.i64))))))
                            a4])
                  else
                    guardB
                      (bif
                          decide
                            ((scanV (List.take a2.length a2) 0
                                      (scanV (List.take a0.length a0) 0 ([], true)).snd).snd.fst.length =
                              (scanV (List.take a2.length a2) 0
                                      (scanV (List.take a0.length a0) 0 ([], true)).snd).snd.fst.length) then
                        bif decide (0 + a4.length ≤ a4.length) then
                          bif decide (0 + a4.length ≤ a4.length) then
                            preLw
                              (scanV (List.take a2.length a2) 0 (scanV (List.take a0.length a0) 0 ([], true)).snd).snd
                              (List.take a4.length a4) (List.take a4.length a4) (↑a4.length : Int) 0
                          else false
                        else false
                      else false)
                      (bif
                          decide
                            ((scanV (List.take a4.length a4) 0
                                  (scanV (List.take a2.length a2) 0
                                      (scanV (List.take a0.length a0) 0 ([], true)).snd).snd).fst =
                              0) then
                        bif
                            mgE
                                (fs3
                                  (((List.take a0.length a0, a1), (List.take a2.length a2, a3),
                                      (List.take a4.length a4, a5), PUnit.unit),
                                    PUnit.unit)) ==
                              0 then
                          guardB
                            (bif
                                decide
                                  (0 +
                                      (scanV (List.take a4.length a4) 0
                                              (scanV (List.take a2.length a2) 0
                                                  (scanV (List.take a0.length a0) 0
                                                      ([], true)).snd).snd).snd.fst.length ≤
                                    (scanV (List.take a4.length a4) 0
                                            (scanV (List.take a2.length a2) 0
                                                (scanV (List.take a0.length a0) 0
                                                    ([], true)).snd).snd).snd.fst.length) then
                              true
                            else false)
                            (some
                              (PV.sc
                                  (Value.bool
                                    (bp
                                      ([] =
                                        List.take
                                          (scanV (List.take a4.length a4) 0
                                                  (scanV (List.take a2.length a2) 0
                                                      (scanV (List.take a0.length a0) 0
                                                          ([], true)).snd).snd).snd.fst.length
                                          (scanV (List.take a4.length a4) 0
                                                (scanV (List.take a2.length a2) 0
                                                    (scanV (List.take a0.length a0) 0 ([], true)).snd).snd).snd.fst))),
                                [Blk.fix false
                                    [PV.sl 1 0 6 a0.length a0.length false a1, PV.sl 2 0 6 a2.length a2.length false a3,
                                      PV.sl 3 0 6 a4.length a4.length false a5],
                                  Blk.row false
                                    ((Kd.int IntKind.i64).pair
                                      ((Kd.int IntKind.i64).pair
                                        ((Kd.int IntKind.i64).pair
                                          ((Kd.int IntKind.i64).pair
                                            ((Kd.int IntKind.i64).pair (Kd.int IntKind.i64))))))
                                    a0,
                                  Blk.row false
                                    ((Kd.int IntKind.i64).pair
                                      ((Kd.int IntKind.i64).pair
                                        ((Kd.int IntKind.i64).pair
                                          ((Kd.int IntKind.i64).pair
                                            ((Kd.int IntKind.i64).pair (Kd.int IntKind.i64))))))
                                    a2,
                                  Blk.row false
                                    ((Kd.int IntKind.i64).pair
                                      ((Kd.int IntKind.i64).pair
                                        ((Kd.int IntKind.i64).pair
                                          ((Kd.int IntKind.i64).pair
                                            ((Kd.int IntKind.i64).pair (Kd.int IntKind.i64))))))
                                    a4]))
                        else
                          some
                            (PV.sc (Value.bool false),
                              [Blk.fix false
                                  [PV.sl 1 0 6 a0.length a0.length false a1, PV.sl 2 0 6 a2.length a2.length false a3,
                                    PV.sl 3 0 6 a4.length a4.length false a5],
                                Blk.row false
                                  ((Kd.int IntKind.i64).pair
                                    ((Kd.int IntKind.i64).pair
                                      ((Kd.int IntKind.i64).pair
                                        ((Kd.int IntKind.i64).pair ((Kd.int IntKind.i64).pair (Kd.int IntKind.i64))))))
                                  a0,
                                Blk.row false
                                  ((Kd.int IntKind.i64).pair
                                    ((Kd.int IntKind.i64).pair
                                      ((Kd.int IntKind.i64).pair
                                        ((Kd.int IntKind.i64).pair ((Kd.int IntKind.i64).pair (Kd.int IntKind.i64))))))
                                  a2,
                                Blk.row false
                                  ((Kd.int IntKind.i64).pair
                                    ((Kd.int IntKind.i64).pair
                                      ((Kd.int IntKind.i64).pair
                                        ((Kd.int IntKind.i64).pair ((Kd.int IntKind.i64).pair (Kd.int IntKind.i64))))))
                                  a4])
                      else
                        some
                          (PV.sc
                              (Value.bool
                                (lawR []
                                  (mgE
                                    (fs3
                                      (((List.take a0.length a0, a1), (List.take a2.length a2, a3),
                                          (List.take a4.length a4, a5), PUnit.unit),
                                        PUnit.unit)))
                                  (scanV (List.take a4.length a4) 0
                                      (scanV (List.take a2.length a2) 0
                                          (scanV (List.take a0.length a0) 0 ([], true)).snd).snd).fst)),
                            [Blk.fix false
                                [PV.sl 1 0 6 a0.length a0.length false a1, PV.sl 2 0 6 a2.length a2.length false a3,
                                  PV.sl 3 0 6 a4.length a4.length false a5],
                              Blk.row false
                                ((Kd.int IntKind.i64).pair
                                  ((Kd.int IntKind.i64).pair
                                    ((Kd.int IntKind.i64).pair
                                      ((Kd.int IntKind.i64).pair ((Kd.int IntKind.i64).pair (Kd.int IntKind.i64))))))
                                a0,
                              Blk.row false
                                ((Kd.int IntKind.i64).pair
                                  ((Kd.int IntKind.i64).pair
                                    ((Kd.int IntKind.i64).pair
                                      ((Kd.int IntKind.i64).pair ((Kd.int IntKind.i64).pair (Kd.int IntKind.i64))))))
                                a2,
                              Blk.row false
                                ((Kd.int IntKind.i64).pair
                                  ((Kd.int IntKind.i64).pair
                                    ((Kd.int IntKind.i64).pair
                                      ((Kd.int IntKind.i64).pair ((Kd.int IntKind.i64).pair (Kd.int IntKind.i64))))))
                                a4]))
                else
                  some
                    (PV.sc
                        (Value.bool
                          (lawR []
                            (mgE
                              (fs3
                                (((List.take a0.length a0, a1), (List.take a2.length a2, a3),
                                    (List.take a4.length a4, a5), PUnit.unit),
                                  PUnit.unit)))
                            (scanV (List.take a2.length a2) 0 (scanV (List.take a0.length a0) 0 ([], true)).snd).fst)),
                      [Blk.fix false
                          [PV.sl 1 0 6 a0.length a0.length false a1, PV.sl 2 0 6 a2.length a2.length false a3,
                            PV.sl 3 0 6 a4.length a4.length false a5],
                        Blk.row false
                          ((Kd.int IntKind.i64).pair
                            ((Kd.int IntKind.i64).pair
                              ((Kd.int IntKind.i64).pair
                                ((Kd.int IntKind.i64).pair ((Kd.int IntKind.i64).pair (Kd.int IntKind.i64))))))
                          a0,
                        Blk.row false
                          ((Kd.int IntKind.i64).pair
                            ((Kd.int IntKind.i64).pair
                              ((Kd.int IntKind.i64).pair
                                ((Kd.int IntKind.i64).pair ((Kd.int IntKind.i64).pair (Kd.int IntKind.i64))))))
                          a2,
                        Blk.row false
                          ((Kd.int IntKind.i64).pair
                            ((Kd.int IntKind.i64).pair
                              ((Kd.int IntKind.i64).pair
                                ((Kd.int IntKind.i64).pair ((Kd.int IntKind.i64).pair (Kd.int IntKind.i64))))))
                          a4]))
          else
            some
              (PV.sc
                  (Value.bool
                    (lawR []
                      (mgE
                        (fs3
                          (((List.take a0.length a0, a1), (List.take a2.length a2, a3), (List.take a4.length a4, a5),
                              PUnit.unit),
                            PUnit.unit)))
                      (scanV (List.take a0.length a0) 0 ([], true)).fst)),
                [Blk.fix false
                    [PV.sl 1 0 6 a0.length a0.length false a1, PV.sl 2 0 6 a2.length a2.length false a3,
                      PV.sl 3 0 6 a4.length a4.length false a5],
                  Blk.row false
                    ((Kd.int IntKind.i64).pair
                      ((Kd.int IntKind.i64).pair
                        ((Kd.int IntKind.i64).pair
                          ((Kd.int IntKind.i64).pair ((Kd.int IntKind.i64).pair (Kd.int IntKind.i64))))))
                    a0,
                  Blk.row false
                    ((Kd.int IntKind.i64).pair
                      ((Kd.int IntKind.i64).pair
                        ((Kd.int IntKind.i64).pair
                          ((Kd.int IntKind.i64).pair ((Kd.int IntKind.i64).pair (Kd.int IntKind.i64))))))
                    a2,
                  Blk.row false
                    ((Kd.int IntKind.i64).pair
                      ((Kd.int IntKind.i64).pair
                        ((Kd.int IntKind.i64).pair
                          ((Kd.int IntKind.i64).pair ((Kd.int IntKind.i64).pair (Kd.int IntKind.i64))))))
                    a4])))) := by kernel_rfl
noncomputable abbrev z13dL (a0 : List (Int × Int × Int × Int × Int × Int)) (a1 : Bool) (a2 : List (Int × Int × Int × Int × Int × Int)) (a3 : Bool) (a4 : List (Int × Int × Int × Int × Int × Int)) (a5 : Bool) (a6 : List (Int × Int × Int × Int × Int × Int)) (a7 : Bool) := evFuncV Try.prog M3 (addCut 2 [5, 6, 7, 9, 52, 53, 54] [2, 7] (entC kLw cLw) noCuts) Try.f13 (killA 0 ks4) (showA 0 ks4 (((a0, a1), ((a2, a3), ((a4, a5), ((a6, a7), ())))), ())).1 (showA 0 ks4 (((a0, a1), ((a2, a3), ((a4, a5), ((a6, a7), ())))), ())).2
theorem z13d (a0 : List (Int × Int × Int × Int × Int × Int)) (a1 : Bool) (a2 : List (Int × Int × Int × Int × Int × Int)) (a3 : Bool) (a4 : List (Int × Int × Int × Int × Int × Int)) (a5 : Bool) (a6 : List (Int × Int × Int × Int × Int × Int)) (a7 : Bool) : z13dL a0 a1 a2 a3 a4 a5 a6 a7 = (bif
    (↑(mgL (fs2 ((([(0, 1, 0, 0, 0, 0)], false), ([(0, 1, 0, 0, 0, 0)], false), PUnit.unit), PUnit.unit))).length :
        Int) !=
      1 then
  some
    (PV.sc (Value.bool false),
      [Blk.fix false
          [PV.sl 1 0 6 a0.length a0.length false a1, PV.sl 2 0 6 a2.length a2.length false a3,
            PV.sl 3 0 6 a4.length a4.length false a5, PV.sl 4 0 6 a6.length a6.length false a7],
        Blk.row false
          ((Kd.int IntKind.i64).pair
            ((Kd.int IntKind.i64).pair
              ((Kd.int IntKind.i64).pair ((Kd.int IntKind.i64).pair ((Kd.int IntKind.i64).pair (Kd.int IntKind.i64))))))
          a0,
        Blk.row false
          ((Kd.int IntKind.i64).pair
            ((Kd.int IntKind.i64).pair
              ((Kd.int IntKind.i64).pair ((Kd.int IntKind.i64).pair ((Kd.int IntKind.i64).pair (Kd.int IntKind.i64))))))
          a2,
        Blk.row false
          ((Kd.int IntKind.i64).pair
            ((Kd.int IntKind.i64).pair
              ((Kd.int IntKind.i64).pair ((Kd.int IntKind.i64).pair ((Kd.int IntKind.i64).pair (Kd.int IntKind.i64))))))
          a4,
        Blk.row false
          ((Kd.int IntKind.i64).pair
            ((Kd.int IntKind.i64).pair
              ((Kd.int IntKind.i64).pair ((Kd.int IntKind.i64).pair ((Kd.int IntKind.i64).pair (Kd.int IntKind.i64))))))
          a6])
else
  guardB
    (bif decide (0 + a0.length ≤ a0.length) then
      bif decide (0 + a2.length ≤ a2.length) then
        bif decide (0 + a4.length ≤ a4.length) then bif decide (0 + a6.length ≤ a6.length) then true else false
        else false
      else false
    else false)
    (bif
        decide
          (mgE
              (fs4
                (((List.take a0.length a0, a1), (List.take a2.length a2, a3), (List.take a4.length a4, a5),
                    (List.take a6.length a6, a7), PUnit.unit),
                  PUnit.unit)) =
            0) then
      bif decide ((↑a0.length : Int) > 60) then
        some
          (PV.sc (Value.bool true),
            [Blk.fix false
                [PV.sl 1 0 6 a0.length a0.length false a1, PV.sl 2 0 6 a2.length a2.length false a3,
                  PV.sl 3 0 6 a4.length a4.length false a5, PV.sl 4 0 6 a6.length a6.length false a7],
              Blk.row false
                ((Kd.int IntKind.i64).pair
                  ((Kd.int IntKind.i64).pair
                    ((Kd.int IntKind.i64).pair
                      ((Kd.int IntKind.i64).pair ((Kd.int IntKind.i64).pair (Kd.int IntKind.i64))))))
                a0,
              Blk.row false
                ((Kd.int IntKind.i64).pair
                  ((Kd.int IntKind.i64).pair
                    ((Kd.int IntKind.i64).pair
                      ((Kd.int IntKind.i64).pair ((Kd.int IntKind.i64).pair (Kd.int IntKind.i64))))))
                a2,
              Blk.row false
                ((Kd.int IntKind.i64).pair
                  ((Kd.int IntKind.i64).pair
                    ((Kd.int IntKind.i64).pair
                      ((Kd.int IntKind.i64).pair ((Kd.int IntKind.i64).pair (Kd.int IntKind.i64))))))
                a4,
              Blk.row false
                ((Kd.int IntKind.i64).pair
                  ((Kd.int IntKind.i64).pair
                    ((Kd.int IntKind.i64).pair
                      ((Kd.int IntKind.i64).pair ((Kd.int IntKind.i64).pair (Kd.int IntKind.i64))))))
                a6])
      else
        guardB
          (bif
              decide
                (0 +
                    (mgL
                        (fs4
                          (((List.take a0.length a0, a1), (List.take a2.length a2, a3), (List.take a4.length a4, a5),
                              (List.take a6.length a6, a7), PUnit.unit),
                            PUnit.unit))).length ≤
                  (mgL
                      (fs4
                        (((List.take a0.length a0, a1), (List.take a2.length a2, a3), (List.take a4.length a4, a5),
                            (List.take a6.length a6, a7), PUnit.unit),
                          PUnit.unit))).length) then
            bif decide (0 + a0.length ≤ a0.length) then
              bif decide (0 + a0.length ≤ a0.length) then
                preLw ([], true) (List.take a0.length a0) (List.take a0.length a0) (↑a0.length : Int) 0
              else false
            else false
          else false)
          (bif decide ((scanV (List.take a0.length a0) 0 ([], true)).fst = 0) then
            bif decide ((↑a2.length : Int) > 60) then
              some
                (PV.sc (Value.bool true),
                  [Blk.fix false
                      [PV.sl 1 0 6 a0.length a0.length false a1, PV.sl 2 0 6 a2.length a2.length false a3,
                        PV.sl 3 0 6 a4.length a4.length false a5, PV.sl 4 0 6 a6.length a6.length false a7],
                    Blk.row false
                      ((Kd.int IntKind.i64).pair
                        ((Kd.int IntKind.i64).pair
                          ((Kd.int IntKind.i64).pair
                            ((Kd.int IntKind.i64).pair ((Kd.int IntKind.i64).pair (Kd.int IntKind.i64))))))
                      a0,
                    Blk.row false
                      ((Kd.int IntKind.i64).pair
                        ((Kd.int IntKind.i64).pair
                          ((Kd.int IntKind.i64).pair
                            ((Kd.int IntKind.i64).pair ((Kd.int IntKind.i64).pair (Kd.int IntKind.i64))))))
                      a2,
                    Blk.row false
                      ((Kd.int IntKind.i64).pair
                        ((Kd.int IntKind.i64).pair
                          ((Kd.int IntKind.i64).pair
                            ((Kd.int IntKind.i64).pair ((Kd.int IntKind.i64).pair (Kd.int IntKind.i64))))))
                      a4,
                    Blk.row false
                      ((Kd.int IntKind.i64).pair
                        ((Kd.int IntKind.i64).pair
                          ((Kd.int IntKind.i64).pair
                            ((Kd.int IntKind.i64).pair ((Kd.int IntKind.i64).pair (Kd.int IntKind.i64))))))
                      a6])
            else
              guardB
                (bif
                    decide
                      (0 +
                          (mgL
                              (fs4
                                (((List.take a0.length a0, a1), (List.take a2.length a2, a3),
                                    (List.take a4.length a4, a5), (List.take a6.length a6, a7), PUnit.unit),
                                  PUnit.unit))).length ≤
                        (mgL
                            (fs4
                              (((List.take a0.length a0, a1), (List.take a2.length a2, a3),
                                  (List.take a4.length a4, a5), (List.take a6.length a6, a7), PUnit.unit),
                                PUnit.unit))).length) then
                  bif
                      decide
                        ((scanV (List.take a0.length a0) 0 ([], true)).snd.fst.length =
                          (scanV (List.take a0.length a0) 0 ([], true)).snd.fst.length) then
                    bif decide (0 + a2.length ≤ a2.length) then
                      bif decide (0 + a2.length ≤ a2.length) then
                        preLw (scanV (List.take a0.length a0) 0 ([], true)).snd (List.take a2.length a2)
                          (List.take a2.length a2) (↑a2.length : Int) 0
                      else false
                    else false
                  else false
                else false)
                (bif
                    decide
                      ((scanV (List.take a2.length a2) 0 (scanV (List.take a0.length a0) 0 ([], true)).snd).fst =
                        0) then
                  bif decide ((↑a4.length : Int) > 60) then
                    some
                      (PV.sc (Value.bool true),
                        [Blk.fix false
                            [PV.sl 1 0 6 a0.length a0.length false a1, PV.sl 2 0 6 a2.length a2.length false a3,
                              PV.sl 3 0 6 a4.length a4.length false a5, PV.sl 4 0 6 a6.length a6.length false a7],
                          Blk.row false
                            ((Kd.int IntKind.i64).pair
                              ((Kd.int IntKind.i64).pair
                                ((Kd.int IntKind.i64).pair
                                  ((Kd.int IntKind.i64).pair ((Kd.int IntKind.i64).pair (Kd.int IntKind.i64))))))
                            a0,
                          Blk.row false
                            ((Kd.int IntKind.i64).pair
                              ((Kd.int IntKind.i64).pair
                                ((Kd.int IntKind.i64).pair
                                  ((Kd.int IntKind.i64).pair ((Kd.int IntKind.i64).pair (Kd.int IntKind.i64))))))
                            a2,
                          Blk.row false
                            ((Kd.int IntKind.i64).pair
                              ((Kd.int IntKind.i64).pair
                                ((Kd.int IntKind.i64).pair
                                  ((Kd.int IntKind.i64).pair ((Kd.int IntKind.i64).pair (Kd.int IntKind.i64))))))
                            a4,
                          Blk.row false
                            ((Kd.int IntKind.i64).pair
                              ((Kd.int IntKind.i64).pair
                                ((Kd.int IntKind.i64).pair
                                  ((Kd.int IntKind.i64).pair ((Kd.int IntKind.i64).pair (Kd.int IntKind.i64))))))
                            a6])
                  else
                    guardB
                      (bif
                          decide
                            (0 +
                                (mgL
                                    (fs4
                                      (((List.take a0.length a0, a1), (List.take a2.length a2, a3),
                                          (List.take a4.length a4, a5), (List.take a6.length a6, a7), PUnit.unit),
                                        PUnit.unit))).length ≤
                              (mgL
                                  (fs4
                                    (((List.take a0.length a0, a1), (List.take a2.length a2, a3),
                                        (List.take a4.length a4, a5), (List.take a6.length a6, a7), PUnit.unit),
                                      PUnit.unit))).length) then
                        bif
                            decide
                              ((scanV (List.take a2.length a2) 0
                                        (scanV (List.take a0.length a0) 0 ([], true)).snd).snd.fst.length =
                                (scanV (List.take a2.length a2) 0
                                        (scanV (List.take a0.length a0) 0 ([], true)).snd).snd.fst.length) then
                          bif decide (0 + a4.length ≤ a4.length) then
                            bif decide (0 + a4.length ≤ a4.length) then
                              preLw
                                (scanV (List.take a2.length a2) 0 (scanV (List.take a0.length a0) 0 ([], true)).snd).snd
                                (List.take a4.length a4) (List.take a4.length a4) (↑a4.length : Int) 0
                            else false
                          else false
                        else false
                      else false)
                      (bif
                          decide
                            ((scanV (List.take a4.length a4) 0
                                  (scanV (List.take a2.length a2) 0
                                      (scanV (List.take a0.length a0) 0 ([], true)).snd).snd).fst =
                              0) then
                        bif decide ((↑a6.length : Int) > 60) then
                          some
                            (PV.sc (Value.bool true),
                              [Blk.fix false
                                  [PV.sl 1 0 6 a0.length a0.length false a1, PV.sl 2 0 6 a2.length a2.length false a3,
                                    PV.sl 3 0 6 a4.length a4.length false a5, PV.sl 4 0 6 a6.length a6.length false a7],
                                Blk.row false
                                  ((Kd.int IntKind.i64).pair
                                    ((Kd.int IntKind.i64).pair
                                      ((Kd.int IntKind.i64).pair
                                        ((Kd.int IntKind.i64).pair ((Kd.int IntKind.i64).pair (Kd.int IntKind.i64))))))
                                  a0,
                                Blk.row false
                                  ((Kd.int IntKind.i64).pair
                                    ((Kd.int IntKind.i64).pair
                                      ((Kd.int IntKind.i64).pair
                                        ((Kd.int IntKind.i64).pair ((Kd.int IntKind.i64).pair (Kd.int IntKind.i64))))))
                                  a2,
                                Blk.row false
                                  ((Kd.int IntKind.i64).pair
                                    ((Kd.int IntKind.i64).pair
                                      ((Kd.int IntKind.i64).pair
                                        ((Kd.int IntKind.i64).pair ((Kd.int IntKind.i64).pair (Kd.int IntKind.i64))))))
                                  a4,
                                Blk.row false
                                  ((Kd.int IntKind.i64).pair
                                    ((Kd.int IntKind.i64).pair
                                      ((Kd.int IntKind.i64).pair
                                        ((Kd.int IntKind.i64).pair ((Kd.int IntKind.i64).pair (Kd.int IntKind.i64))))))
                                  a6])
                        else
                          guardB
                            (bif
                                decide
                                  (0 +
                                      (mgL
                                          (fs4
                                            (((List.take a0.length a0, a1), (List.take a2.length a2, a3),
                                                (List.take a4.length a4, a5), (List.take a6.length a6, a7), PUnit.unit),
                                              PUnit.unit))).length ≤
                                    (mgL
                                        (fs4
                                          (((List.take a0.length a0, a1), (List.take a2.length a2, a3),
                                              (List.take a4.length a4, a5), (List.take a6.length a6, a7), PUnit.unit),
                                            PUnit.unit))).length) then
                              bif
                                  decide
                                    ((scanV (List.take a4.length a4) 0
                                              (scanV (List.take a2.length a2) 0
                                                  (scanV (List.take a0.length a0) 0
                                                      ([], true)).snd).snd).snd.fst.length =
                                      (scanV (List.take a4.length a4) 0
                                              (scanV (List.take a2.length a2) 0
                                                  (scanV (List.take a0.length a0) 0
                                                      ([], true)).snd).snd).snd.fst.length) then
                                bif decide (0 + a6.length ≤ a6.length) then
                                  bif decide (0 + a6.length ≤ a6.length) then
                                    preLw
                                      (scanV (List.take a4.length a4) 0
                                          (scanV (List.take a2.length a2) 0
                                              (scanV (List.take a0.length a0) 0 ([], true)).snd).snd).snd
                                      (List.take a6.length a6) (List.take a6.length a6) (↑a6.length : Int) 0
                                  else false
                                else false
                              else false
                            else false)
                            (bif
                                decide
                                  ((scanV (List.take a6.length a6) 0
                                        (scanV (List.take a4.length a4) 0
                                            (scanV (List.take a2.length a2) 0
                                                (scanV (List.take a0.length a0) 0 ([], true)).snd).snd).snd).fst =
                                    0) then
                              guardB
                                (bif
                                    decide
                                      (0 +
                                          (mgL
                                              (fs4
                                                (((List.take a0.length a0, a1), (List.take a2.length a2, a3),
                                                    (List.take a4.length a4, a5), (List.take a6.length a6, a7),
                                                    PUnit.unit),
                                                  PUnit.unit))).length ≤
                                        (mgL
                                            (fs4
                                              (((List.take a0.length a0, a1), (List.take a2.length a2, a3),
                                                  (List.take a4.length a4, a5), (List.take a6.length a6, a7),
                                                  PUnit.unit),
                                                PUnit.unit))).length) then
                                  bif
                                      decide
                                        (0 +
                                            (scanV (List.take a6.length a6) 0
                                                    (scanV (List.take a4.length a4) 0
                                                        (scanV (List.take a2.length a2) 0
                                                            (scanV (List.take a0.length a0) 0
                                                                ([], true)).snd).snd).snd).snd.fst.length ≤
                                          (scanV (List.take a6.length a6) 0
                                                  (scanV (List.take a4.length a4) 0
                                                      (scanV (List.take a2.length a2) 0
                                                          (scanV (List.take a0.length a0) 0
                                                              ([], true)).snd).snd).snd).snd.fst.length) then
                                    decide
                                      ((List.take
                                            (mgL
                                                (fs4
                                                  (((List.take a0.length a0, a1), (List.take a2.length a2, a3),
                                                      (List.take a4.length a4, a5), (List.take a6.length a6, a7),
                                                      PUnit.unit),
                                                    PUnit.unit))).length
                                            (mgL
                                              (fs4
                                                (((List.take a0.length a0, a1), (List.take a2.length a2, a3),
                                                    (List.take a4.length a4, a5), (List.take a6.length a6, a7),
                                                    PUnit.unit),
                                                  PUnit.unit)))).length ≤
                                        2000)
                                  else false
                                else false)
                                (some
                                  (PV.sc
                                      (Value.bool
                                        (bp
                                          (List.take
                                              (mgL
                                                  (fs4
                                                    (((List.take a0.length a0, a1), (List.take a2.length a2, a3),
                                                        (List.take a4.length a4, a5), (List.take a6.length a6, a7),
                                                        PUnit.unit),
                                                      PUnit.unit))).length
                                              (mgL
                                                (fs4
                                                  (((List.take a0.length a0, a1), (List.take a2.length a2, a3),
                                                      (List.take a4.length a4, a5), (List.take a6.length a6, a7),
                                                      PUnit.unit),
                                                    PUnit.unit))) =
                                            List.take
                                              (scanV (List.take a6.length a6) 0
                                                      (scanV (List.take a4.length a4) 0
                                                          (scanV (List.take a2.length a2) 0
                                                              (scanV (List.take a0.length a0) 0
                                                                  ([], true)).snd).snd).snd).snd.fst.length
                                              (scanV (List.take a6.length a6) 0
                                                    (scanV (List.take a4.length a4) 0
                                                        (scanV (List.take a2.length a2) 0
                                                            (scanV (List.take a0.length a0) 0
                                                                ([], true)).snd).snd).snd).snd.fst))),
                                    [Blk.fix false
                                        [PV.sl 1 0 6 a0.length a0.length false a1,
                                          PV.sl 2 0 6 a2.length a2.length false a3,
                                          PV.sl 3 0 6 a4.length a4.length false a5,
                                          PV.sl 4 0 6 a6.length a6.length false a7],
                                      Blk.row false
                                        ((Kd.int IntKind.i64).pair
                                          ((Kd.int IntKind.i64).pair
                                            ((Kd.int IntKind.i64).pair
                                              ((Kd.int IntKind.i64).pair
                                                ((Kd.int IntKind.i64).pair (Kd.int IntKind.i64))))))
                                        a0,
                                      Blk.row false
                                        ((Kd.int IntKind.i64).pair
                                          ((Kd.int IntKind.i64).pair
                                            ((Kd.int IntKind.i64).pair
                                              ((Kd.int IntKind.i64).pair
                                                ((Kd.int IntKind.i64).pair (Kd.int IntKind.i64))))))
                                        a2,
                                      Blk.row false
                                        ((Kd.int IntKind.i64).pair
                                          ((Kd.int IntKind.i64).pair
                                            ((Kd.int IntKind.i64).pair
                                              ((Kd.int IntKind.i64).pair
                                                ((Kd.int IntKind.i64).pair (Kd.int IntKind.i64))))))
                                        a4,
                                      Blk.row false
                                        ((Kd.int IntKind.i64).pair
                                          ((Kd.int IntKind.i64).pair
                                            ((Kd.int IntKind.i64).pair
                                              ((Kd.int IntKind.i64).pair
                                                ((Kd.int IntKind.i64).pair (Kd.int IntKind.i64))))))
                                        a6]))
                            else
                              some
                                (PV.sc
                                    (Value.bool
                                      (lawR
                                        (List.take
                                          (mgL
                                              (fs4
                                                (((List.take a0.length a0, a1), (List.take a2.length a2, a3),
                                                    (List.take a4.length a4, a5), (List.take a6.length a6, a7),
                                                    PUnit.unit),
                                                  PUnit.unit))).length
                                          (mgL
                                            (fs4
                                              (((List.take a0.length a0, a1), (List.take a2.length a2, a3),
                                                  (List.take a4.length a4, a5), (List.take a6.length a6, a7),
                                                  PUnit.unit),
                                                PUnit.unit))))
                                        0
                                        (scanV (List.take a6.length a6) 0
                                            (scanV (List.take a4.length a4) 0
                                                (scanV (List.take a2.length a2) 0
                                                    (scanV (List.take a0.length a0) 0 ([], true)).snd).snd).snd).fst)),
                                  [Blk.fix false
                                      [PV.sl 1 0 6 a0.length a0.length false a1,
                                        PV.sl 2 0 6 a2.length a2.length false a3,
                                        PV.sl 3 0 6 a4.length a4.length false a5,
                                        PV.sl 4 0 6 a6.length a6.length false a7],
                                    Blk.row false
                                      ((Kd.int IntKind.i64).pair
                                        ((Kd.int IntKind.i64).pair
                                          ((Kd.int IntKind.i64).pair
                                            ((Kd.int IntKind.i64).pair
                                              ((Kd.int IntKind.i64).pair (Kd.int IntKind.i64))))))
                                      a0,
                                    Blk.row false
                                      ((Kd.int IntKind.i64).pair
                                        ((Kd.int IntKind.i64).pair
                                          ((Kd.int IntKind.i64).pair
                                            ((Kd.int IntKind.i64).pair
                                              ((Kd.int IntKind.i64).pair (Kd.int IntKind.i64))))))
                                      a2,
                                    Blk.row false
                                      ((Kd.int IntKind.i64).pair
                                        ((Kd.int IntKind.i64).pair
                                          ((Kd.int IntKind.i64).pair
                                            ((Kd.int IntKind.i64).pair
                                              ((Kd.int IntKind.i64).pair (Kd.int IntKind.i64))))))
                                      a4,
                                    Blk.row false
                                      ((Kd.int IntKind.i64).pair
                                        ((Kd.int IntKind.i64).pair
                                          ((Kd.int IntKind.i64).pair
                                            ((Kd.int IntKind.i64).pair
                                              ((Kd.int IntKind.i64).pair (Kd.int IntKind.i64))))))
                                      a6]))
                      else
                        some
                          (PV.sc
                              (Value.bool
                                (lawR
                                  (List.take
                                    (mgL
                                        (fs4
                                          (((List.take a0.length a0, a1), (List.take a2.length a2, a3),
                                              (List.take a4.length a4, a5), (List.take a6.length a6, a7), PUnit.unit),
                                            PUnit.unit))).length
                                    (mgL
                                      (fs4
                                        (((List.take a0.length a0, a1), (List.take a2.length a2, a3),
                                            (List.take a4.length a4, a5), (List.take a6.length a6, a7), PUnit.unit),
                                          PUnit.unit))))
                                  0
                                  (scanV (List.take a4.length a4) 0
                                      (scanV (List.take a2.length a2) 0
                                          (scanV (List.take a0.length a0) 0 ([], true)).snd).snd).fst)),
                            [Blk.fix false
                                [PV.sl 1 0 6 a0.length a0.length false a1, PV.sl 2 0 6 a2.length a2.length false a3,
                                  PV.sl 3 0 6 a4.length a4.length false a5, PV.sl 4 0 6 a6.length a6.length false a7],
                              Blk.row false
                                ((Kd.int IntKind.i64).pair
                                  ((Kd.int IntKind.i64).pair
                                    ((Kd.int IntKind.i64).pair
                                      ((Kd.int IntKind.i64).pair ((Kd.int IntKind.i64).pair (Kd.int IntKind.i64))))))
                                a0,
                              Blk.row false
                                ((Kd.int IntKind.i64).pair
                                  ((Kd.int IntKind.i64).pair
                                    ((Kd.int IntKind.i64).pair
                                      ((Kd.int IntKind.i64).pair ((Kd.int IntKind.i64).pair (Kd.int IntKind.i64))))))
                                a2,
                              Blk.row false
                                ((Kd.int IntKind.i64).pair
                                  ((Kd.int IntKind.i64).pair
                                    ((Kd.int IntKind.i64).pair
                                      ((Kd.int IntKind.i64).pair ((Kd.int IntKind.i64).pair (Kd.int IntKind.i64))))))
                                a4,
                              Blk.row false
                                ((Kd.int IntKind.i64).pair
                                  ((Kd.int IntKind.i64).pair
                                    ((Kd.int IntKind.i64).pair
                                      ((Kd.int IntKind.i64).pair ((Kd.int IntKind.i64).pair (Kd.int IntKind.i64))))))
                                a6]))
                else
                  some
                    (PV.sc
                        (Value.bool
                          (lawR
                            (List.take
                              (mgL
                                  (fs4
                                    (((List.take a0.length a0, a1), (List.take a2.length a2, a3),
                                        (List.take a4.length a4, a5), (List.take a6.length a6, a7), PUnit.unit),
                                      PUnit.unit))).length
                              (mgL
                                (fs4
                                  (((List.take a0.length a0, a1), (List.take a2.length a2, a3),
                                      (List.take a4.length a4, a5), (List.take a6.length a6, a7), PUnit.unit),
                                    PUnit.unit))))
                            0
                            (scanV (List.take a2.length a2) 0 (scanV (List.take a0.length a0) 0 ([], true)).snd).fst)),
                      [Blk.fix false
                          [PV.sl 1 0 6 a0.length a0.length false a1, PV.sl 2 0 6 a2.length a2.length false a3,
                            PV.sl 3 0 6 a4.length a4.length false a5, PV.sl 4 0 6 a6.length a6.length false a7],
                        Blk.row false
                          ((Kd.int IntKind.i64).pair
                            ((Kd.int IntKind.i64).pair
                              ((Kd.int IntKind.i64).pair
                                ((Kd.int IntKind.i64).pair ((Kd.int IntKind.i64).pair (Kd.int IntKind.i64))))))
                          a0,
                        Blk.row false
                          ((Kd.int IntKind.i64).pair
                            ((Kd.int IntKind.i64).pair
                              ((Kd.int IntKind.i64).pair
                                ((Kd.int IntKind.i64).pair ((Kd.int IntKind.i64).pair (Kd.int IntKind.i64))))))
                          a2,
                        Blk.row false
                          ((Kd.int IntKind.i64).pair
                            ((Kd.int IntKind.i64).pair
                              ((Kd.int IntKind.i64).pair
                                ((Kd.int IntKind.i64).pair ((Kd.int IntKind.i64).pair (Kd.int IntKind.i64))))))
                          a4,
                        Blk.row false
                          ((Kd.int IntKind.i64).pair
                            ((Kd.int IntKind.i64).pair
                              ((Kd.int IntKind.i64).pair
                                ((Kd.int IntKind.i64).pair ((Kd.int IntKind.i64).pair (Kd.int IntKind.i64))))))
                          a6]))
          else
            some
              (PV.sc
                  (Value.bool
                    (lawR
                      (List.take
                        (mgL
                            (fs4
                              (((List.take a0.length a0, a1), (List.take a2.length a2, a3),
                                  (List.take a4.length a4, a5), (List.take a6.length a6, a7), PUnit.unit),
                                PUnit.unit))).length
                        (mgL
                          (fs4
                            (((List.take a0.length a0, a1), (List.take a2.length a2, a3), (List.take a4.length a4, a5),
                                (List.take a6.length a6, a7), PUnit.unit),
                              PUnit.unit))))
                      0 (scanV (List.take a0.length a0) 0 ([], true)).fst)),
                [Blk.fix false
                    [PV.sl 1 0 6 a0.length a0.length false a1, PV.sl 2 0 6 a2.length a2.length false a3,
                      PV.sl 3 0 6 a4.length a4.length false a5, PV.sl 4 0 6 a6.length a6.length false a7],
                  Blk.row false
                    ((Kd.int IntKind.i64).pair
                      ((Kd.int IntKind.i64).pair
                        ((Kd.int IntKind.i64).pair
                          ((Kd.int IntKind.i64).pair ((Kd.int IntKind.i64).pair (Kd.int IntKind.i64))))))
                    a0,
                  Blk.row false
                    ((Kd.int IntKind.i64).pair
                      ((Kd.int IntKind.i64).pair
                        ((Kd.int IntKind.i64).pair
                          ((Kd.int IntKind.i64).pair ((Kd.int IntKind.i64).pair (Kd.int IntKind.i64))))))
                    a2,
                  Blk.row false
                    ((Kd.int IntKind.i64).pair
                      ((Kd.int IntKind.i64).pair
                        ((Kd.int IntKind.i64).pair
                          ((Kd.int IntKind.i64).pair ((Kd.int IntKind.i64).pair (Kd.int IntKind.i64))))))
                    a4,
                  Blk.row false
                    ((Kd.int IntKind.i64).pair
                      ((Kd.int IntKind.i64).pair
                        ((Kd.int IntKind.i64).pair
                          ((Kd.int IntKind.i64).pair ((Kd.int IntKind.i64).pair (Kd.int IntKind.i64))))))
                    a6]))
    else
      bif decide ((↑a0.length : Int) > 60) then
        some
          (PV.sc (Value.bool true),
            [Blk.fix false
                [PV.sl 1 0 6 a0.length a0.length false a1, PV.sl 2 0 6 a2.length a2.length false a3,
                  PV.sl 3 0 6 a4.length a4.length false a5, PV.sl 4 0 6 a6.length a6.length false a7],
              Blk.row false
                ((Kd.int IntKind.i64).pair
                  ((Kd.int IntKind.i64).pair
                    ((Kd.int IntKind.i64).pair
                      ((Kd.int IntKind.i64).pair ((Kd.int IntKind.i64).pair (Kd.int IntKind.i64))))))
                a0,
              Blk.row false
                ((Kd.int IntKind.i64).pair
                  ((Kd.int IntKind.i64).pair
                    ((Kd.int IntKind.i64).pair
                      ((Kd.int IntKind.i64).pair ((Kd.int IntKind.i64).pair (Kd.int IntKind.i64))))))
                a2,
              Blk.row false
                ((Kd.int IntKind.i64).pair
                  ((Kd.int IntKind.i64).pair
                    ((Kd.int IntKind.i64).pair
                      ((Kd.int IntKind.i64).pair ((Kd.int IntKind.i64).pair (Kd.int IntKind.i64))))))
                a4,
              Blk.row false
                ((Kd.int IntKind.i64).pair
                  ((Kd.int IntKind.i64).pair
                    ((Kd.int IntKind.i64).pair
                      ((Kd.int IntKind.i64).pair ((Kd.int IntKind.i64).pair (Kd.int IntKind.i64))))))
                a6])
      else
        guardB
          (bif decide (0 + a0.length ≤ a0.length) then
            bif decide (0 + a0.length ≤ a0.length) then
              preLw ([], true) (List.take a0.length a0) (List.take a0.length a0) (↑a0.length : Int) 0
            else false
          else false)
          (bif decide ((scanV (List.take a0.length a0) 0 ([], true)).fst = 0) then
            bif decide ((↑a2.length : Int) > 60) then
              some
                (PV.sc (Value.bool true),
                  [Blk.fix false
                      [PV.sl 1 0 6 a0.length a0.length false a1, PV.sl 2 0 6 a2.length a2.length false a3,
                        PV.sl 3 0 6 a4.length a4.length false a5, PV.sl 4 0 6 a6.length a6.length false a7],
                    Blk.row false
                      ((Kd.int IntKind.i64).pair
                        ((Kd.int IntKind.i64).pair
                          ((Kd.int IntKind.i64).pair
                            ((Kd.int IntKind.i64).pair ((Kd.int IntKind.i64).pair (Kd.int IntKind.i64))))))
                      a0,
                    Blk.row false
                      ((Kd.int IntKind.i64).pair
                        ((Kd.int IntKind.i64).pair
                          ((Kd.int IntKind.i64).pair
                            ((Kd.int IntKind.i64).pair ((Kd.int IntKind.i64).pair (Kd.int IntKind.i64))))))
                      a2,
                    Blk.row false
                      ((Kd.int IntKind.i64).pair
                        ((Kd.int IntKind.i64).pair
                          ((Kd.int IntKind.i64).pair
                            ((Kd.int IntKind.i64).pair ((Kd.int IntKind.i64).pair (Kd.int IntKind.i64))))))
                      a4,
                    Blk.row false
                      ((Kd.int IntKind.i64).pair
                        ((Kd.int IntKind.i64).pair
                          ((Kd.int IntKind.i64).pair
                            ((Kd.int IntKind.i64).pair ((Kd.int IntKind.i64).pair (Kd.int IntKind.i64))))))
                      a6])
            else
              guardB
                (bif
                    decide
                      ((scanV (List.take a0.length a0) 0 ([], true)).snd.fst.length =
                        (scanV (List.take a0.length a0) 0 ([], true)).snd.fst.length) then
                  bif decide (0 + a2.length ≤ a2.length) then
                    bif decide (0 + a2.length ≤ a2.length) then
                      preLw (scanV (List.take a0.length a0) 0 ([], true)).snd (List.take a2.length a2)
                        (List.take a2.length a2) (↑a2.length : Int) 0
                    else false
                  else false
                else false)
                (bif
                    decide
                      ((scanV (List.take a2.length a2) 0 (scanV (List.take a0.length a0) 0 ([], true)).snd).fst =
                        0) then
                  bif decide ((↑a4.length : Int) > 60) then
                    some
                      (PV.sc (Value.bool true),
                        [Blk.fix false
                            [PV.sl 1 0 6 a0.length a0.length false a1, PV.sl 2 0 6 a2.length a2.length false a3,
                              PV.sl 3 0 6 a4.length a4.length false a5, PV.sl 4 0 6 a6.length a6.length false a7],
                          Blk.row false
                            ((Kd.int IntKind.i64).pair
                              ((Kd.int IntKind.i64).pair
                                ((Kd.int IntKind.i64).pair
                                  ((Kd.int IntKind.i64).pair ((Kd.int IntKind.i64).pair (Kd.int IntKind.i64))))))
                            a0,
                          Blk.row false
                            ((Kd.int IntKind.i64).pair
                              ((Kd.int IntKind.i64).pair
                                ((Kd.int IntKind.i64).pair
                                  ((Kd.int IntKind.i64).pair ((Kd.int IntKind.i64).pair (Kd.int IntKind.i64))))))
                            a2,
                          Blk.row false
                            ((Kd.int IntKind.i64).pair
                              ((Kd.int IntKind.i64).pair
                                ((Kd.int IntKind.i64).pair
                                  ((Kd.int IntKind.i64).pair ((Kd.int IntKind.i64).pair (Kd.int IntKind.i64))))))
                            a4,
                          Blk.row false
                            ((Kd.int IntKind.i64).pair
                              ((Kd.int IntKind.i64).pair
                                ((Kd.int IntKind.i64).pair
                                  ((Kd.int IntKind.i64).pair ((Kd.int IntKind.i64).pair (Kd.int IntKind.i64))))))
                            a6])
                  else
                    guardB
                      (bif
                          decide
                            ((scanV (List.take a2.length a2) 0
                                      (scanV (List.take a0.length a0) 0 ([], true)).snd).snd.fst.length =
                              (scanV (List.take a2.length a2) 0
                                      (scanV (List.take a0.length a0) 0 ([], true)).snd).snd.fst.length) then
                        bif decide (0 + a4.length ≤ a4.length) then
                          bif decide (0 + a4.length ≤ a4.length) then
                            preLw
                              (scanV (List.take a2.length a2) 0 (scanV (List.take a0.length a0) 0 ([], true)).snd).snd
                              (List.take a4.length a4) (List.take a4.length a4) (↑a4.length : Int) 0
                          else false
                        else false
                      else false)
                      (bif
                          decide
                            ((scanV (List.take a4.length a4) 0
                                  (scanV (List.take a2.length a2) 0
                                      (scanV (List.take a0.length a0) 0 ([], true)).snd).snd).fst =
                              0) then
                        bif decide ((↑a6.length : Int) > 60) then
                          some
                            (PV.sc (Value.bool true),
                              [Blk.fix false
                                  [PV.sl 1 0 6 a0.length a0.length false a1, PV.sl 2 0 6 a2.length a2.length false a3,
                                    PV.sl 3 0 6 a4.length a4.length false a5, PV.sl 4 0 6 a6.length a6.length false a7],
                                Blk.row false
                                  ((Kd.int IntKind.i64).pair
                                    ((Kd.int IntKind.i64).pair
                                      ((Kd.int IntKind.i64).pair
                                        ((Kd.int IntKind.i64).pair ((Kd.int IntKind.i64).pair (Kd.int IntKind.i64))))))
                                  a0,
                                Blk.row false
                                  ((Kd.int IntKind.i64).pair
                                    ((Kd.int IntKind.i64).pair
                                      ((Kd.int IntKind.i64).pair
                                        ((Kd.int IntKind.i64).pair ((Kd.int IntKind.i64).pair (Kd.int IntKind.i64))))))
                                  a2,
                                Blk.row false
                                  ((Kd.int IntKind.i64).pair
                                    ((Kd.int IntKind.i64).pair
                                      ((Kd.int IntKind.i64).pair
                                        ((Kd.int IntKind.i64).pair ((Kd.int IntKind.i64).pair (Kd.int IntKind.i64))))))
                                  a4,
                                Blk.row false
                                  ((Kd.int IntKind.i64).pair
                                    ((Kd.int IntKind.i64).pair
                                      ((Kd.int IntKind.i64).pair
                                        ((Kd.int IntKind.i64).pair ((Kd.int IntKind.i64).pair (Kd.int IntKind.i64))))))
                                  a6])
                        else
                          guardB
                            (bif
                                decide
                                  ((scanV (List.take a4.length a4) 0
                                            (scanV (List.take a2.length a2) 0
                                                (scanV (List.take a0.length a0) 0 ([], true)).snd).snd).snd.fst.length =
                                    (scanV (List.take a4.length a4) 0
                                            (scanV (List.take a2.length a2) 0
                                                (scanV (List.take a0.length a0) 0
                                                    ([], true)).snd).snd).snd.fst.length) then
                              bif decide (0 + a6.length ≤ a6.length) then
                                bif decide (0 + a6.length ≤ a6.length) then
                                  preLw
                                    (scanV (List.take a4.length a4) 0
                                        (scanV (List.take a2.length a2) 0
                                            (scanV (List.take a0.length a0) 0 ([], true)).snd).snd).snd
                                    (List.take a6.length a6) (List.take a6.length a6) (↑a6.length : Int) 0
                                else false
                              else false
                            else false)
                            (bif
                                decide
                                  ((scanV (List.take a6.length a6) 0
                                        (scanV (List.take a4.length a4) 0
                                            (scanV (List.take a2.length a2) 0
                                                (scanV (List.take a0.length a0) 0 ([], true)).snd).snd).snd).fst =
                                    0) then
                              bif
                                  mgE
                                      (fs4
                                        (((List.take a0.length a0, a1), (List.take a2.length a2, a3),
                                            (List.take a4.length a4, a5), (List.take a6.length a6, a7), PUnit.unit),
                                          PUnit.unit)) ==
                                    0 then
                                guardB
                                  (bif
                                      decide
                                        (0 +
                                            (scanV (List.take a6.length a6) 0
                                                    (scanV (List.take a4.length a4) 0
                                                        (scanV (List.take a2.length a2) 0
                                                            (scanV (List.take a0.length a0) 0
                                                                ([], true)).snd).snd).snd).snd.fst.length ≤
                                          (scanV (List.take a6.length a6) 0
                                                  (scanV (List.take a4.length a4) 0
                                                      (scanV (List.take a2.length a2) 0
                                                          (scanV (List.take a0.length a0) 0
                                                              ([], true)).snd).snd).snd).snd.fst.length) then
                                    true
                                  else false)
                                  (some
                                    (PV.sc
                                        (Value.bool
                                          (bp
                                            ([] =
                                              List.take
                                                (scanV (List.take a6.length a6) 0
                                                        (scanV (List.take a4.length a4) 0
                                                            (scanV (List.take a2.length a2) 0
                                                                (scanV (List.take a0.length a0) 0
                                                                    ([], true)).snd).snd).snd).snd.fst.length
                                                (scanV (List.take a6.length a6) 0
                                                      (scanV (List.take a4.length a4) 0
                                                          (scanV (List.take a2.length a2) 0
                                                              (scanV (List.take a0.length a0) 0
                                                                  ([], true)).snd).snd).snd).snd.fst))),
                                      [Blk.fix false
                                          [PV.sl 1 0 6 a0.length a0.length false a1,
                                            PV.sl 2 0 6 a2.length a2.length false a3,
                                            PV.sl 3 0 6 a4.length a4.length false a5,
                                            PV.sl 4 0 6 a6.length a6.length false a7],
                                        Blk.row false
                                          ((Kd.int IntKind.i64).pair
                                            ((Kd.int IntKind.i64).pair
                                              ((Kd.int IntKind.i64).pair
                                                ((Kd.int IntKind.i64).pair
                                                  ((Kd.int IntKind.i64).pair (Kd.int IntKind.i64))))))
                                          a0,
                                        Blk.row false
                                          ((Kd.int IntKind.i64).pair
                                            ((Kd.int IntKind.i64).pair
                                              ((Kd.int IntKind.i64).pair
                                                ((Kd.int IntKind.i64).pair
                                                  ((Kd.int IntKind.i64).pair (Kd.int IntKind.i64))))))
                                          a2,
                                        Blk.row false
                                          ((Kd.int IntKind.i64).pair
                                            ((Kd.int IntKind.i64).pair
                                              ((Kd.int IntKind.i64).pair
                                                ((Kd.int IntKind.i64).pair
                                                  ((Kd.int IntKind.i64).pair (Kd.int IntKind.i64))))))
                                          a4,
                                        Blk.row false
                                          ((Kd.int IntKind.i64).pair
                                            ((Kd.int IntKind.i64).pair
                                              ((Kd.int IntKind.i64).pair
                                                ((Kd.int IntKind.i64).pair
                                                  ((Kd.int IntKind.i64).pair (Kd.int IntKind.i64))))))
                                          a6]))
                              else
                                some
                                  (PV.sc (Value.bool false),
                                    [Blk.fix false
                                        [PV.sl 1 0 6 a0.length a0.length false a1,
                                          PV.sl 2 0 6 a2.length a2.length false a3,
                                          PV.sl 3 0 6 a4.length a4.length false a5,
                                          PV.sl 4 0 6 a6.length a6.length false a7],
                                      Blk.row false
                                        ((Kd.int IntKind.i64).pair
                                          ((Kd.int IntKind.i64).pair
                                            ((Kd.int IntKind.i64).pair
                                              ((Kd.int IntKind.i64).pair
                                                ((Kd.int IntKind.i64).pair (Kd.int IntKind.i64))))))
                                        a0,
                                      Blk.row false
                                        ((Kd.int IntKind.i64).pair
                                          ((Kd.int IntKind.i64).pair
                                            ((Kd.int IntKind.i64).pair
                                              ((Kd.int IntKind.i64).pair
                                                ((Kd.int IntKind.i64).pair (Kd.int IntKind.i64))))))
                                        a2,
                                      Blk.row false
                                        ((Kd.int IntKind.i64).pair
                                          ((Kd.int IntKind.i64).pair
                                            ((Kd.int IntKind.i64).pair
                                              ((Kd.int IntKind.i64).pair
                                                ((Kd.int IntKind.i64).pair (Kd.int IntKind.i64))))))
                                        a4,
                                      Blk.row false
                                        ((Kd.int IntKind.i64).pair
                                          ((Kd.int IntKind.i64).pair
                                            ((Kd.int IntKind.i64).pair
                                              ((Kd.int IntKind.i64).pair
                                                ((Kd.int IntKind.i64).pair (Kd.int IntKind.i64))))))
                                        a6])
                            else
                              some
                                (PV.sc
                                    (Value.bool
                                      (lawR []
                                        (mgE
                                          (fs4
                                            (((List.take a0.length a0, a1), (List.take a2.length a2, a3),
                                                (List.take a4.length a4, a5), (List.take a6.length a6, a7), PUnit.unit),
                                              PUnit.unit)))
                                        (scanV (List.take a6.length a6) 0
                                            (scanV (List.take a4.length a4) 0
                                                (scanV (List.take a2.length a2) 0
                                                    (scanV (List.take a0.length a0) 0 ([], true)).snd).snd).snd).fst)),
                                  [Blk.fix false
                                      [PV.sl 1 0 6 a0.length a0.length false a1,
                                        PV.sl 2 0 6 a2.length a2.length false a3,
                                        PV.sl 3 0 6 a4.length a4.length false a5,
                                        PV.sl 4 0 6 a6.length a6.length false a7],
                                    Blk.row false
                                      ((Kd.int IntKind.i64).pair
                                        ((Kd.int IntKind.i64).pair
                                          ((Kd.int IntKind.i64).pair
                                            ((Kd.int IntKind.i64).pair
                                              ((Kd.int IntKind.i64).pair (Kd.int IntKind.i64))))))
                                      a0,
                                    Blk.row false
                                      ((Kd.int IntKind.i64).pair
                                        ((Kd.int IntKind.i64).pair
                                          ((Kd.int IntKind.i64).pair
                                            ((Kd.int IntKind.i64).pair
                                              ((Kd.int IntKind.i64).pair (Kd.int IntKind.i64))))))
                                      a2,
                                    Blk.row false
                                      ((Kd.int IntKind.i64).pair
                                        ((Kd.int IntKind.i64).pair
                                          ((Kd.int IntKind.i64).pair
                                            ((Kd.int IntKind.i64).pair
                                              ((Kd.int IntKind.i64).pair (Kd.int IntKind.i64))))))
                                      a4,
                                    Blk.row false
                                      ((Kd.int IntKind.i64).pair
                                        ((Kd.int IntKind.i64).pair
                                          ((Kd.int IntKind.i64).pair
                                            ((Kd.int IntKind.i64).pair
                                              ((Kd.int IntKind.i64).pair (Kd.int IntKind.i64))))))
                                      a6]))
                      else
                        some
                          (PV.sc
                              (Value.bool
                                (lawR []
                                  (mgE
                                    (fs4
                                      (((List.take a0.length a0, a1), (List.take a2.length a2, a3),
                                          (List.take a4.length a4, a5), (List.take a6.length a6, a7), PUnit.unit),
                                        PUnit.unit)))
                                  (scanV (List.take a4.length a4) 0
                                      (scanV (List.take a2.length a2) 0
                                          (scanV (List.take a0.length a0) 0 ([], true)).snd).snd).fst)),
                            [Blk.fix false
                                [PV.sl 1 0 6 a0.length a0.length false a1, PV.sl 2 0 6 a2.length a2.length false a3,
                                  PV.sl 3 0 6 a4.length a4.length false a5, PV.sl 4 0 6 a6.length a6.length false a7],
                              Blk.row false
                                ((Kd.int IntKind.i64).pair
                                  ((Kd.int IntKind.i64).pair
                                    ((Kd.int IntKind.i64).pair
                                      ((Kd.int IntKind.i64).pair ((Kd.int IntKind.i64).pair (Kd.int IntKind.i64))))))
                                a0,
                              Blk.row false
                                ((Kd.int IntKind.i64).pair
                                  ((Kd.int IntKind.i64).pair
                                    ((Kd.int IntKind.i64).pair
                                      ((Kd.int IntKind.i64).pair ((Kd.int IntKind.i64).pair (Kd.int IntKind.i64))))))
                                a2,
                              Blk.row false
                                ((Kd.int IntKind.i64).pair
                                  ((Kd.int IntKind.i64).pair
                                    ((Kd.int IntKind.i64).pair
                                      ((Kd.int IntKind.i64).pair ((Kd.int IntKind.i64).pair (Kd.int IntKind.i64))))))
                                a4,
                              Blk.row false
                                ((Kd.int IntKind.i64).pair
                                  ((Kd.int IntKind.i64).pair
                                    ((Kd.int IntKind.i64).pair
                                      ((Kd.int IntKind.i64).pair ((Kd.int IntKind.i64).pair (Kd.int IntKind.i64))))))
                                a6]))
                else
                  some
                    (PV.sc
                        (Value.bool
                          (lawR []
                            (mgE
                              (fs4
                                (((List.take a0.length a0, a1), (List.take a2.length a2, a3),
                                    (List.take a4.length a4, a5), (List.take a6.length a6, a7), PUnit.unit),
                                  PUnit.unit)))
                            (scanV (List.take a2.length a2) 0 (scanV (List.take a0.length a0) 0 ([], true)).snd).fst)),
                      [Blk.fix false
                          [PV.sl 1 0 6 a0.length a0.length false a1, PV.sl 2 0 6 a2.length a2.length false a3,
                            PV.sl 3 0 6 a4.length a4.length false a5, PV.sl 4 0 6 a6.length a6.length false a7],
                        Blk.row false
                          ((Kd.int IntKind.i64).pair
                            ((Kd.int IntKind.i64).pair
                              ((Kd.int IntKind.i64).pair
                                ((Kd.int IntKind.i64).pair ((Kd.int IntKind.i64).pair (Kd.int IntKind.i64))))))
                          a0,
                        Blk.row false
                          ((Kd.int IntKind.i64).pair
                            ((Kd.int IntKind.i64).pair
                              ((Kd.int IntKind.i64).pair
                                ((Kd.int IntKind.i64).pair ((Kd.int IntKind.i64).pair (Kd.int IntKind.i64))))))
                          a2,
                        Blk.row false
                          ((Kd.int IntKind.i64).pair
                            ((Kd.int IntKind.i64).pair
                              ((Kd.int IntKind.i64).pair
                                ((Kd.int IntKind.i64).pair ((Kd.int IntKind.i64).pair (Kd.int IntKind.i64))))))
                          a4,
                        Blk.row false
                          ((Kd.int IntKind.i64).pair
                            ((Kd.int IntKind.i64).pair
                              ((Kd.int IntKind.i64).pair
                                ((Kd.int IntKind.i64).pair ((Kd.int IntKind.i64).pair (Kd.int IntKind.i64))))))
                          a6]))
          else
            some
              (PV.sc
                  (Value.bool
                    (lawR []
                      (mgE
                        (fs4
                          (((List.take a0.length a0, a1), (List.take a2.length a2, a3), (List.take a4.length a4, a5),
                              (List.take a6.length a6, a7), PUnit.unit),
                            PUnit.unit)))
                      (scanV (List.take a0.length a0) 0 ([], true)).fst)),
                [Blk.fix false
                    [PV.sl 1 0 6 a0.length a0.length false a1, PV.sl 2 0 6 a2.length a2.length false a3,
                      PV.sl 3 0 6 a4.length a4.length false a5, PV.sl 4 0 6 a6.length a6.length false a7],
                  Blk.row false
                    ((Kd.int IntKind.i64).pair
                      ((Kd.int IntKind.i64).pair
                        ((Kd.int IntKind.i64).pair
                          ((Kd.int IntKind.i64).pair ((Kd.int IntKind.i64).pair (Kd.int IntKind.i64))))))
                    a0,
                  Blk.row false
                    ((Kd.int IntKind.i64).pair
                      ((Kd.int IntKind.i64).pair
                        ((Kd.int IntKind.i64).pair
                          ((Kd.int IntKind.i64).pair ((Kd.int IntKind.i64).pair (Kd.int IntKind.i64))))))
                    a2,
                  Blk.row false
                    ((Kd.int IntKind.i64).pair
                      ((Kd.int IntKind.i64).pair
                        ((Kd.int IntKind.i64).pair
                          ((Kd.int IntKind.i64).pair ((Kd.int IntKind.i64).pair (Kd.int IntKind.i64))))))
                    a4,
                  Blk.row false
                    ((Kd.int IntKind.i64).pair
                      ((Kd.int IntKind.i64).pair
                        ((Kd.int IntKind.i64).pair
                          ((Kd.int IntKind.i64).pair ((Kd.int IntKind.i64).pair (Kd.int IntKind.i64))))))
                    a6])))) := by kernel_rfl
/-! ### Merging is inserting one after the other -/
abbrev SS (l : List Pl) : Prop := l.Pairwise fun a b => cmpP a b < 0
theorem ss_uniq : ∀ (l m : List Pl), SS l → SS m → (∀ x, x ∈ l ↔ x ∈ m) → l = m
  | [], [], _, _, _ => rfl
  | [], b :: m, _, _, h => by have := (h b).2 List.mem_cons_self; simp at this
  | a :: l, [], _, _, h => by have := (h a).1 List.mem_cons_self; simp at this
  | a :: l, b :: m, h1, h2, h => by
    obtain ⟨a1, a2⟩ := List.pairwise_cons.1 h1
    obtain ⟨b1, b2⟩ := List.pairwise_cons.1 h2
    have hab : a = b := by
      rcases List.mem_cons.1 ((h a).1 List.mem_cons_self) with e | e
      · exact e
      · rcases List.mem_cons.1 ((h b).2 List.mem_cons_self) with e2 | e2
        · exact e2.symm
        · have g1 := b1 a e; have g2 := a1 b e2; have := cmpP_flip a b; omega
    subst hab
    have : l = m := ss_uniq l m a2 b2 fun x => by
      constructor
      · intro hx
        rcases List.mem_cons.1 ((h x).1 (List.mem_cons_of_mem _ hx)) with e | e
        · subst e; have := a1 x hx; rw [cmpP_self] at this; omega
        · exact e
      · intro hx
        rcases List.mem_cons.1 ((h x).2 (List.mem_cons_of_mem _ hx)) with e | e
        · subst e; have := b1 x hx; rw [cmpP_self] at this; omega
        · exact e
    rw [this]
theorem ded_ss : ∀ (r : List Pl) (p : Pl), (p :: r).Pairwise (fun a b => cmpP a b ≤ 0) → SS (p :: ded p r) ∧ ∀ x, x ∈ p :: ded p r ↔ x ∈ p :: r
  | [], p, h => ⟨List.pairwise_cons.2 ⟨fun y hy => by simp [ded] at hy, List.Pairwise.nil⟩, fun x => Iff.rfl⟩
  | a :: r, p, h => by
    obtain ⟨h1, h2⟩ := List.pairwise_cons.1 h
    obtain ⟨i1, i2⟩ := ded_ss r a h2
    have e : ded p (a :: r) = bif eqP a p then ded a r else a :: ded a r := rfl
    by_cases hap : a = p
    · subst hap
      rw [e, eqP_self]
      exact ⟨i1, fun x => (i2 x).trans ⟨fun hx => List.mem_cons_of_mem _ hx, fun hx => by
        rcases List.mem_cons.1 hx with e | e
        · subst e; exact List.mem_cons_self
        · exact e⟩⟩
    · rw [e, show eqP a p = false from bpN hap]
      have hlt : cmpP p a < 0 := by
        have g := h1 a List.mem_cons_self
        have : cmpP p a ≠ 0 := fun e => hap (cmpP_zero e).symm
        omega
      refine ⟨List.pairwise_cons.2 ⟨fun y hy => ?_, i1⟩, fun x => ?_⟩
      · have hy2 := (i2 y).1 hy
        rcases List.mem_cons.1 hy2 with e | e
        · subst e; exact hlt
        · exact (cmpP_trans (h1 a List.mem_cons_self) ((List.pairwise_cons.1 h2).1 y e)).2 (Or.inl hlt)
      · show x ∈ p :: (a :: ded a r) ↔ _
        rw [List.mem_cons, i2 x, ← List.mem_cons]
theorem srt_sorted (l : List Pl) : (srtP l).Pairwise (fun a b => cmpP a b ≤ 0) ∧ ∀ x, x ∈ srtP l ↔ x ∈ l := by
  have le_tr : ∀ a b c : Pl, (!decide (cmpP b a < 0)) = true → (!decide (cmpP c b < 0)) = true → (!decide (cmpP c a < 0)) = true := fun a b c h1 h2 => by
    have h1 : ¬ cmpP b a < 0 := by simpa using h1
    have h2 : ¬ cmpP c b < 0 := by simpa using h2
    have e1 := cmpP_flip a b; have e2 := cmpP_flip b c; have e3 := cmpP_flip a c
    have := (cmpP_trans (a := a) (b := b) (c := c) (by omega) (by omega)).1
    simp; omega
  have le_to : ∀ a b : Pl, (!decide (cmpP b a < 0) || !decide (cmpP a b < 0)) = true := fun a b => by
    have := cmpP_flip a b
    simp; omega
  have s1 : (srtP l).Pairwise (fun a b => (!decide (cmpP b a < 0)) = true) := List.pairwise_mergeSort le_tr le_to l
  refine ⟨s1.imp fun {a b} h => ?_, fun x => (List.mergeSort_perm l _).mem_iff⟩
  have h : ¬ cmpP b a < 0 := by simpa using h
  have := cmpP_flip a b
  omega
theorem cpt_ss (l : List Pl) : SS (cpt (srtP l)) ∧ ∀ x, x ∈ cpt (srtP l) ↔ x ∈ l := by
  obtain ⟨h1, h2⟩ := srt_sorted l
  generalize srtP l = m at *
  cases m with
  | nil => exact ⟨List.Pairwise.nil, h2⟩
  | cons a r =>
    obtain ⟨i1, i2⟩ := ded_ss r a h1
    exact ⟨i1, fun x => (i2 x).trans (h2 x)⟩
theorem hd_drop : ∀ (q : Pl → Bool) (l : List Pl) (y : Pl) (r : List Pl), l.dropWhile q = y :: r → q y = false
  | q, [], y, r, h => by simp at h
  | q, a :: l, y, r, h => by
    rw [List.dropWhile_cons] at h
    cases hq : q a with
    | true => rw [hq] at h; exact hd_drop q l y r (by simpa using h)
    | false => rw [hq] at h; simp at h; rw [← h.1]; exact hq
theorem mem_tw {q : Pl → Bool} : ∀ {l : List Pl} {y : Pl}, y ∈ l.takeWhile q → q y = true
  | [], y, h => by simp at h
  | a :: l, y, h => by
    rw [List.takeWhile_cons] at h
    cases hq : q a with
    | true =>
      rw [hq] at h
      rcases List.mem_cons.1 (by simpa using h) with e | e
      · rw [e]; exact hq
      · exact mem_tw e
    | false => rw [hq] at h; simp at h
theorem ins_ss (w : WS) (p : Pl) (h : SS w.1) : SS (insS w p).1 ∧ ∀ x, x ∈ (insS w p).1 ↔ x = p ∨ x ∈ w.1 := by
  obtain ⟨l, nl⟩ := w
  have hk : insK l p 0 = (l.takeWhile (befP · p)).length := by
    unfold insK
    rw [show l.drop (Int.toNat 0) = l from rfl]; omega
  have hsp : l.takeWhile (befP · p) ++ l.dropWhile (befP · p) = l := List.takeWhile_append_dropWhile
  have ht : ∀ y ∈ l.takeWhile (befP · p), cmpP y p < 0 := fun y hy => of_decide_eq_true (mem_tw hy)
  have hd := hd_drop (befP · p) l
  unfold insS hasP
  simp only [hk, Int.toNat_natCast]
  generalize l.takeWhile (befP · p) = t at *
  generalize l.dropWhile (befP · p) = d at *
  subst hsp
  obtain ⟨s1, s2, s3⟩ := List.pairwise_append.1 h
  rw [List.take_left, List.drop_left]
  cases d with
  | nil =>
    rw [show decide (((t.length : Nat) : Int) < (((t ++ ([] : List Pl)).length : Nat) : Int)) = false from decide_eq_false (by simp), Bool.false_and]
    refine ⟨List.pairwise_append.2 ⟨s1, List.pairwise_cons.2 ⟨fun y hy => by simp at hy, List.Pairwise.nil⟩, fun a ha b hb => ?_⟩, fun x => ?_⟩
    · rw [List.mem_singleton.1 hb]; exact ht a ha
    · simp; exact Or.comm
  | cons y r =>
    have hy := hd y r rfl
    have hyp : ¬ cmpP y p < 0 := of_decide_eq_false hy
    have hg : (t ++ y :: r)[t.length]? = some y := by rw [List.getElem?_append_right (Nat.le_refl _), Nat.sub_self]; rfl
    rw [show decide (((t.length : Nat) : Int) < (((t ++ y :: r : List Pl).length : Nat) : Int)) = true from decide_eq_true (by simp; omega), Bool.true_and, getDo hg]
    by_cases e : y = p
    · subst e
      rw [eqP_self]
      exact ⟨h, fun x => ⟨fun hx => Or.inr hx, fun hx => by
        rcases hx with rfl | hx
        · simp
        · exact hx⟩⟩
    · rw [show eqP y p = false from bpN e]
      have hlt : cmpP p y < 0 := by
        have f := cmpP_flip y p
        have : cmpP y p ≠ 0 := fun h => e (cmpP_zero h)
        omega
      obtain ⟨r1, r2⟩ := List.pairwise_cons.1 s2
      have hall : ∀ z ∈ y :: r, cmpP p z < 0 := fun z hz => by
        rcases List.mem_cons.1 hz with e | e
        · subst e; exact hlt
        · have g := r1 z e
          exact (cmpP_trans (by omega) (by omega)).2 (Or.inl hlt)
      refine ⟨List.pairwise_append.2 ⟨s1, List.pairwise_cons.2 ⟨hall, s2⟩, fun a ha b hb => ?_⟩, fun x => ?_⟩
      · rcases List.mem_cons.1 hb with e | e
        · subst e; exact ht a ha
        · exact s3 a ha b e
      · simp only [cond_false, List.mem_append, List.mem_cons]
        constructor
        · rintro (h | h | h | h)
          · exact Or.inr (Or.inl h)
          · exact Or.inl h
          · exact Or.inr (Or.inr (Or.inl h))
          · exact Or.inr (Or.inr (Or.inr h))
        · rintro (h | h | h | h)
          · exact Or.inr (Or.inl h)
          · exact Or.inl h
          · exact Or.inr (Or.inr (Or.inl h))
          · exact Or.inr (Or.inr (Or.inr h))
theorem fold_ss : ∀ (l : List Pl) (w : WS), SS w.1 → SS (l.foldl insS w).1 ∧ ∀ x, x ∈ (l.foldl insS w).1 ↔ x ∈ l ∨ x ∈ w.1
  | [], w, h => ⟨h, fun x => by simp⟩
  | p :: l, w, h => by
    obtain ⟨a, b⟩ := ins_ss w p h
    obtain ⟨c, d⟩ := fold_ss l (insS w p) a
    refine ⟨c, fun x => (d x).trans ?_⟩
    rw [b x, List.mem_cons]
    constructor
    · rintro (h | h | h)
      · exact Or.inl (Or.inr h)
      · exact Or.inl (Or.inl h)
      · exact Or.inr h
    · rintro ((h | h) | h)
      · exact Or.inr (Or.inl h)
      · exact Or.inl h
      · exact Or.inr (Or.inr h)
theorem merge_fold (l : List Pl) : cpt (srtP l) = (l.foldl insS ([], true)).1 := by
  obtain ⟨a, b⟩ := cpt_ss l
  obtain ⟨c, d⟩ := fold_ss l ([], true) List.Pairwise.nil
  exact ss_uniq _ _ a c fun x => (b x).trans ((d x).trans (by simp)).symm
/-! ### The scan -/
theorem scan_fst : ∀ (l : List Pl) (pv : Int) (w : WS), (scan pv l w).1 = chkL pv l ∧ ((scan pv l w).1 = 0 → (scan pv l w).2 = l.foldl insS w)
  | [], pv, w => ⟨rfl, fun _ => rfl⟩
  | x :: r, pv, w => by
    have e1 : scan pv (x :: r) w = bif decide (plE x = 0) then (bif decide (pv > tmP x) then (12, w) else scan (tmP x) r (insS w x)) else (4, w) := rfl
    have e2 : chkL pv (x :: r) = bif decide (plE x = 0) then (bif decide (pv > tmP x) then 12 else chkL (tmP x) r) else 4 := rfl
    rw [e1, e2]
    cases decide (plE x = 0) with
    | false => exact ⟨rfl, fun h => absurd (show (4 : Int) = 0 from h) (by decide)⟩
    | true =>
      cases decide (pv > tmP x) with
      | true => exact ⟨rfl, fun h => absurd (show (12 : Int) = 0 from h) (by decide)⟩
      | false => exact scan_fst r (tmP x) (insS w x)
theorem scan_chk (l : List Pl) (k : Int) (w : WS) : (scanV l k w).1 = chkV l k := (scan_fst _ _ w).1
theorem scan_fold {l : List Pl} {w : WS} (h : (scanV l 0 w).1 = 0) : (scanV l 0 w).2 = l.foldl insS w := (scan_fst _ _ w).2 h
theorem insS_len (w : WS) (p : Pl) : (insS w p).1.length ≤ w.1.length + 1 := by
  unfold insS
  cases hasP w.1 p with
  | true => simp only [cond_true]; omega
  | false => simp only [cond_false, List.length_append, List.length_cons, List.length_take, List.length_drop]; omega
theorem fold_len : ∀ (l : List Pl) (w : WS), (l.foldl insS w).1.length ≤ w.1.length + l.length
  | [], w => Nat.le_refl _
  | p :: l, w => by have h1 := fold_len l (insS w p); have h2 := insS_len w p; simp only [List.foldl_cons, List.length_cons]; omega
theorem scan_step {l : List Pl} {k : Int} {x : Pl} {w : WS} (h : 0 ≤ k) (hx : l[k.toNat]? = some x) : scanV l k w = bif decide (plE x = 0) then (bif decide (prv l k > tmP x) then (12, w) else scanV l (k + 1) (insS w x)) else (4, w) := by
  unfold scanV
  rw [dropC hx, show (k + 1).toNat = k.toNat + 1 by omega, show prv l (k + 1) = tmP x by unfold prv; rw [decide_eq_false (show ¬ k + 1 ≤ 0 by omega), show k + 1 - 1 = k by omega, getDo hx]; rfl]
  rfl
theorem scan_end {l : List Pl} {k : Int} {w : WS} (h : (l.length : Int) ≤ k) : scanV l k w = (0, w) := by
  unfold scanV; rw [List.drop_eq_nil_of_le (by omega)]; rfl
theorem lawR_at (out : List Pl) (e c : Int) {S : PV} {X : List Blk} : (bif e == c then some (Xt.ret, [PV.sc (.bool ((out.length : Int) == 0)), S], X) else some (Xt.ret, [PV.sc (.bool false), S], X)) = some (Xt.ret, [PV.sc (.bool (lawR out e c)), S], X) := by
  unfold lawR
  rw [show (e == c) = decide (e = c) from rfl]
  cases decide (e = c) <;> rfl
abbrev slP (n : Nat) (w : WS) : PV := .sl n 0 6 w.1.length w.1.length false w.2
theorem q13l (out : List Pl) (on : Bool) (e : Int) (a : List Pl) (an : Bool) (l : List Pl) (nl : Bool) (l2 : List Pl) (nl2 : Bool) (n k : Int) (h : preLw (a, an) l l2 n k = true) :
    z13lL out on e a an l nl l2 nl2 n k = cond (decide ((scanV l k (a, an)).1 = 0)) (some (.exit 2, [.undef, slP 4 (scanV l k (a, an)).2], [.row false kPl out, .dead, .row false kPl l, .row false kPl l2, .row true kPl (scanV l k (a, an)).2.1]))
      (some (.ret, [.sc (.bool (lawR out e (scanV l k (a, an)).1)), slP 4 (scanV l k (a, an)).2], [.row false kPl out, .dead, .row false kPl l, .row false kPl l2, .row true kPl (scanV l k (a, an)).2.1])) := by
  unfold preLw at h
  rw [Bool.and_eq_true, bp_true] at h
  obtain ⟨rfl, h⟩ := h
  obtain ⟨h1, h2, h3, h4, h5⟩ := of_decide_eq_true h
  simp only at h5
  rw [z13l]
  simp only [List.take_length, Nat.zero_add, lenT, lenS, cond_true]
  refine cond_split (fun hk => ?_) (fun hk => ?_)
  · have hk := of_decide_eq_true hk
    obtain ⟨x, hx⟩ := getE (l := l) (k := k.toNat) (by omega)
    have hw : IntKind.i64.wrap (k + 1) = k + 1 := W_id _ (by omega) (by omega)
    have hin := insS_len (a, an) x
    simp only at hin
    have hmu : decide (muLw ((out, on), e, insS (a, an) x, (l, nl), (l, nl2), n, k + 1, PUnit.unit) < muLw ((out, on), e, (a, an), (l, nl), (l, nl2), n, k, ())) = true := decide_eq_true (show (n - (k + 1)).toNat < (n - k).toNat by omega)
    have hpre : preLw (insS (a, an) x) l l n (k + 1) = true := by
      unfold preLw; rw [Bool.and_eq_true, bp_true]
      exact ⟨rfl, decide_eq_true ⟨h1, h2, by omega, by omega, by omega⟩⟩
    rw [hx, hw, scan_step h3 hx]
    refine guard_split (by simp; omega) ?_
    simp only [bindO]
    rcases plE_or x with he | he
    · rw [he]
      simp only [show ((0 : Int) != 0) = false from rfl, show decide ((0 : Int) = 0) = true from rfl, cond_false, cond_true]
      refine cond_split (fun hp => ?_) (fun hp => ?_)
      · have hp := of_decide_eq_true hp
        have hw1 : IntKind.i64.wrap (k - 1) = k - 1 := W_id _ (by omega) (by omega)
        obtain ⟨y, hy⟩ := getE (l := l) (k := (k - 1).toNat) (by omega)
        rw [hw1, hy, prv_pos (by omega) hy]
        refine guard_split (by simp; omega) ?_
        simp only [bindO]
        refine cond_split (fun ht => ?_) (fun ht => ?_)
        · rw [show decide (tmP y > tmP x) = true from ht]; exact lawR_at out e 12
        · rw [show decide (tmP y > tmP x) = false from ht]
          exact guard_split (decide_eq_true (by omega)) (guard_split hmu (guard_split hpre rfl))
      · have hp := of_decide_eq_false hp
        have : decide (prv l k > tmP x) = false := by
          have := plE_tm he
          unfold prv
          rw [decide_eq_true (show k ≤ 0 by omega)]
          exact decide_eq_false (by simp only [cond_true]; omega)
        rw [this]
        exact guard_split (decide_eq_true (by omega)) (guard_split hmu (guard_split hpre rfl))
    · rw [he]; exact lawR_at out e 4
  · have hk := of_decide_eq_false hk
    rw [scan_end (by omega)]; rfl
/-! ### The law -/
noncomputable def lawF (E : Int) (O : List Pl) : List WS → WS → Bool
  | [], w => decide (E = 0) && bp (O = w.1)
  | f :: r, w => bif decide (60 < f.1.length) then true else bif decide ((scanV f.1 0 w).1 = 0) then lawF E O r (scanV f.1 0 w).2 else lawR O E (scanV f.1 0 w).1
theorem catP_app : ∀ (a b : List WS), catP (a ++ b) = catP a ++ catP b
  | [], b => rfl
  | w :: a, b => by show w.1 ++ catP (a ++ b) = w.1 ++ catP a ++ catP b; rw [catP_app a b, List.append_assoc]
theorem lawF_true (O0 : List Pl) : ∀ (fs pre : List WS) (w : WS), w = (catP pre).foldl insS ([], true) → O0 = cpt (srtP (catP (pre ++ fs))) → lawF (mgE fs) (bif decide (mgE fs = 0) then O0 else []) fs w = true
  | [], pre, w, hw, hO => by
    show (decide ((0 : Int) = 0) && bp (O0 = w.1)) = true
    rw [hO, List.append_nil, merge_fold, hw]
    exact bp_mk rfl
  | f :: r, pre, w, hw, hO => by
    unfold lawF
    refine cond_split (fun _ => rfl) (fun hb => ?_)
    have hb := of_decide_eq_false hb
    have hb2 : ¬ 256 < f.1.length := by omega
    refine cond_split (fun hc => ?_) (fun hc => ?_)
    · have hc0 := of_decide_eq_true hc
      rw [scan_chk] at hc
      rw [mgE_ok hb2 hc]
      refine lawF_true O0 r (pre ++ [f]) _ ?_ (by rw [hO]; simp)
      rw [scan_fold hc0, hw, catP_app, List.foldl_append]
      show _ = List.foldl insS _ (f.1 ++ [])
      rw [List.append_nil]
    · rw [scan_chk] at hc ⊢
      rw [mgE_bad hb2 hc, hc]
      unfold lawR
      rw [decide_eq_true rfl]; rfl
theorem law_at (fs : List WS) : lawF (mgE fs) (bif decide (mgE fs = 0) then mgL fs else []) fs ([], true) = true := lawF_true (mgL fs) fs [] ([], true) rfl rfl
theorem mgL_len (fs : List WS) : (mgL fs).length ≤ (catP fs).length := by
  have h1 := cpt_len (srtP (catP fs))
  rw [srtP_len] at h1
  exact h1
theorem first_at : mgL (fs2 ((([(0, 1, 0, 0, 0, 0)], false), ([(0, 1, 0, 0, 0, 0)], false), PUnit.unit), PUnit.unit)) = [(0, 1, 0, 0, 0, 0)] := by
  have h : srtP [(0, 1, 0, 0, 0, 0), (0, 1, 0, 0, 0, 0)] = List.replicate 2 (0, 1, 0, 0, 0, 0) := by
    refine List.eq_replicate_iff.2 ⟨srtP_len _, fun b hb => ?_⟩
    have := ((srt_sorted _).2 b).1 hb
    simpa using this
  show cpt (srtP [(0, 1, 0, 0, 0, 0), (0, 1, 0, 0, 0, 0)]) = _
  rw [h]
  show (0, 1, 0, 0, 0, 0) :: (bif eqP (0, 1, 0, 0, 0, 0) (0, 1, 0, 0, 0, 0) then [] else [_]) = _
  rw [eqP_self]; rfl
theorem lawF_go {E : Int} {O : List Pl} {f : WS} {r : List WS} {w : WS} (hb : ¬ 60 < f.1.length) (H : lawF E O (f :: r) w = true) : (bif decide ((scanV f.1 0 w).1 = 0) then lawF E O r (scanV f.1 0 w).2 else lawR O E (scanV f.1 0 w).1) = true := by
  unfold lawF at H
  rwa [decide_eq_false hb] at H
theorem scan_le {l : List Pl} {w : WS} (hb : ¬ 60 < l.length) (hs : decide ((scanV l 0 w).1 = 0) = true) : (scanV l 0 w).2.1.length ≤ w.1.length + 60 := by
  rw [scan_fold (of_decide_eq_true hs)]
  have := fold_len l w
  omega
theorem preLw_mk {l : List Pl} {w : WS} (hb : ¬ 60 < l.length) (hw : w.1.length ≤ 240) : preLw w l l (l.length : Int) 0 = true := by
  unfold preLw; rw [Bool.and_eq_true, bp_true]
  exact ⟨rfl, decide_eq_true ⟨by omega, rfl, by omega, by omega, by omega⟩⟩
theorem q13a (l1 : List Pl) (n1 : Bool) : z13aL l1 n1 = some (.sc (.bool true), [.fix false [.sl 1 0 6 l1.length l1.length false n1], .row false kPl l1]) := by
  rw [z13a, first_at]
  simp only [List.take_length, Nat.zero_add, lenT, lenS, cond_true]
  have H := law_at [(l1, n1)]
  have hcat : (mgL [(l1, n1)]).length ≤ l1.length := by have := mgL_len [(l1, n1)]; simp [catP] at this; omega
  have hfs : fs1 ((((l1, n1), PUnit.unit)), PUnit.unit) = [(l1, n1)] := rfl
  simp only [hfs]
  rw [show ((([(0, 1, 0, 0, 0, 0)] : List Pl).length : Int) != 1) = false from rfl]
  simp only [cond_false]
  refine guard_split rfl ?_
  generalize mgL [(l1, n1)] = O at *
  generalize mgE [(l1, n1)] = E at *
  refine cond_split (fun hE => ?_) (fun hE => ?_)
  · have hE0 := of_decide_eq_true hE
    rw [hE] at H
    simp only [cond_true] at H
    refine cond_split (fun _ => rfl) (fun hb => ?_)
    have b1 : ¬ 60 < l1.length := by have := of_decide_eq_false hb; omega
    have H := lawF_go b1 H
    refine guard_split (preLw_mk b1 (by simp)) ?_
    refine cond_split (fun hs => ?_) (fun hs => ?_)
    rotate_left
    · rw [hs, hE0] at H
      simp only [cond_false] at H
      rw [H]
    have c1 := scan_le b1 hs
    rw [hs] at H
    simp only [cond_true] at H
    refine guard_split (decide_eq_true (by omega)) ?_
    unfold lawF at H
    rw [Bool.and_eq_true] at H
    rw [H.2]
  · have hE0 := of_decide_eq_false hE
    rw [hE] at H
    simp only [cond_false] at H
    refine cond_split (fun _ => rfl) (fun hb => ?_)
    have b1 : ¬ 60 < l1.length := by have := of_decide_eq_false hb; omega
    have H := lawF_go b1 H
    refine guard_split (preLw_mk b1 (by simp)) ?_
    refine cond_split (fun hs => ?_) (fun hs => ?_)
    rotate_left
    · rw [hs] at H
      simp only [cond_false] at H
      rw [H]
    have c1 := scan_le b1 hs
    rw [hs] at H
    simp only [cond_true] at H
    unfold lawF at H
    rw [hE] at H
    exact absurd H (by simp)
theorem q13b (l1 : List Pl) (n1 : Bool) (l2 : List Pl) (n2 : Bool) : z13bL l1 n1 l2 n2 = some (.sc (.bool true), [.fix false [.sl 1 0 6 l1.length l1.length false n1, .sl 2 0 6 l2.length l2.length false n2], .row false kPl l1, .row false kPl l2]) := by
  rw [z13b, first_at]
  simp only [List.take_length, Nat.zero_add, lenT, lenS, cond_true]
  have H := law_at [(l1, n1), (l2, n2)]
  have hcat : (mgL [(l1, n1), (l2, n2)]).length ≤ l1.length + l2.length := by have := mgL_len [(l1, n1), (l2, n2)]; simp [catP] at this; omega
  have hfs : fs2 ((((l1, n1), (l2, n2), PUnit.unit)), PUnit.unit) = [(l1, n1), (l2, n2)] := rfl
  simp only [hfs]
  rw [show ((([(0, 1, 0, 0, 0, 0)] : List Pl).length : Int) != 1) = false from rfl]
  simp only [cond_false]
  refine guard_split rfl ?_
  generalize mgL [(l1, n1), (l2, n2)] = O at *
  generalize mgE [(l1, n1), (l2, n2)] = E at *
  refine cond_split (fun hE => ?_) (fun hE => ?_)
  · have hE0 := of_decide_eq_true hE
    rw [hE] at H
    simp only [cond_true] at H
    refine cond_split (fun _ => rfl) (fun hb => ?_)
    have b1 : ¬ 60 < l1.length := by have := of_decide_eq_false hb; omega
    have H := lawF_go b1 H
    refine guard_split (preLw_mk b1 (by simp)) ?_
    refine cond_split (fun hs => ?_) (fun hs => ?_)
    rotate_left
    · rw [hs, hE0] at H
      simp only [cond_false] at H
      rw [H]
    have c1 := scan_le b1 hs
    rw [hs] at H
    simp only [cond_true] at H
    refine cond_split (fun _ => rfl) (fun hb => ?_)
    have b2 : ¬ 60 < l2.length := by have := of_decide_eq_false hb; omega
    have H := lawF_go b2 H
    refine guard_split (preLw_mk b2 (by simp only [List.length_nil] at *; omega)) ?_
    refine cond_split (fun hs => ?_) (fun hs => ?_)
    rotate_left
    · rw [hs, hE0] at H
      simp only [cond_false] at H
      rw [H]
    have c2 := scan_le b2 hs
    rw [hs] at H
    simp only [cond_true] at H
    refine guard_split (decide_eq_true (by omega)) ?_
    unfold lawF at H
    rw [Bool.and_eq_true] at H
    rw [H.2]
  · have hE0 := of_decide_eq_false hE
    rw [hE] at H
    simp only [cond_false] at H
    refine cond_split (fun _ => rfl) (fun hb => ?_)
    have b1 : ¬ 60 < l1.length := by have := of_decide_eq_false hb; omega
    have H := lawF_go b1 H
    refine guard_split (preLw_mk b1 (by simp)) ?_
    refine cond_split (fun hs => ?_) (fun hs => ?_)
    rotate_left
    · rw [hs] at H
      simp only [cond_false] at H
      rw [H]
    have c1 := scan_le b1 hs
    rw [hs] at H
    simp only [cond_true] at H
    refine cond_split (fun _ => rfl) (fun hb => ?_)
    have b2 : ¬ 60 < l2.length := by have := of_decide_eq_false hb; omega
    have H := lawF_go b2 H
    refine guard_split (preLw_mk b2 (by simp only [List.length_nil] at *; omega)) ?_
    refine cond_split (fun hs => ?_) (fun hs => ?_)
    rotate_left
    · rw [hs] at H
      simp only [cond_false] at H
      rw [H]
    have c2 := scan_le b2 hs
    rw [hs] at H
    simp only [cond_true] at H
    unfold lawF at H
    rw [hE] at H
    exact absurd H (by simp)
theorem q13c (l1 : List Pl) (n1 : Bool) (l2 : List Pl) (n2 : Bool) (l3 : List Pl) (n3 : Bool) : z13cL l1 n1 l2 n2 l3 n3 = some (.sc (.bool true), [.fix false [.sl 1 0 6 l1.length l1.length false n1, .sl 2 0 6 l2.length l2.length false n2, .sl 3 0 6 l3.length l3.length false n3], .row false kPl l1, .row false kPl l2, .row false kPl l3]) := by
  rw [z13c, first_at]
  simp only [List.take_length, Nat.zero_add, lenT, lenS, cond_true]
  have H := law_at [(l1, n1), (l2, n2), (l3, n3)]
  have hcat : (mgL [(l1, n1), (l2, n2), (l3, n3)]).length ≤ l1.length + l2.length + l3.length := by have := mgL_len [(l1, n1), (l2, n2), (l3, n3)]; simp [catP] at this; omega
  have hfs : fs3 ((((l1, n1), (l2, n2), (l3, n3), PUnit.unit)), PUnit.unit) = [(l1, n1), (l2, n2), (l3, n3)] := rfl
  simp only [hfs]
  rw [show ((([(0, 1, 0, 0, 0, 0)] : List Pl).length : Int) != 1) = false from rfl]
  simp only [cond_false]
  refine guard_split rfl ?_
  generalize mgL [(l1, n1), (l2, n2), (l3, n3)] = O at *
  generalize mgE [(l1, n1), (l2, n2), (l3, n3)] = E at *
  refine cond_split (fun hE => ?_) (fun hE => ?_)
  · have hE0 := of_decide_eq_true hE
    rw [hE] at H
    simp only [cond_true] at H
    refine cond_split (fun _ => rfl) (fun hb => ?_)
    have b1 : ¬ 60 < l1.length := by have := of_decide_eq_false hb; omega
    have H := lawF_go b1 H
    refine guard_split (preLw_mk b1 (by simp)) ?_
    refine cond_split (fun hs => ?_) (fun hs => ?_)
    rotate_left
    · rw [hs, hE0] at H
      simp only [cond_false] at H
      rw [H]
    have c1 := scan_le b1 hs
    rw [hs] at H
    simp only [cond_true] at H
    refine cond_split (fun _ => rfl) (fun hb => ?_)
    have b2 : ¬ 60 < l2.length := by have := of_decide_eq_false hb; omega
    have H := lawF_go b2 H
    refine guard_split (preLw_mk b2 (by simp only [List.length_nil] at *; omega)) ?_
    refine cond_split (fun hs => ?_) (fun hs => ?_)
    rotate_left
    · rw [hs, hE0] at H
      simp only [cond_false] at H
      rw [H]
    have c2 := scan_le b2 hs
    rw [hs] at H
    simp only [cond_true] at H
    refine cond_split (fun _ => rfl) (fun hb => ?_)
    have b3 : ¬ 60 < l3.length := by have := of_decide_eq_false hb; omega
    have H := lawF_go b3 H
    refine guard_split (preLw_mk b3 (by simp only [List.length_nil] at *; omega)) ?_
    refine cond_split (fun hs => ?_) (fun hs => ?_)
    rotate_left
    · rw [hs, hE0] at H
      simp only [cond_false] at H
      rw [H]
    have c3 := scan_le b3 hs
    rw [hs] at H
    simp only [cond_true] at H
    refine guard_split (decide_eq_true (by omega)) ?_
    unfold lawF at H
    rw [Bool.and_eq_true] at H
    rw [H.2]
  · have hE0 := of_decide_eq_false hE
    rw [hE] at H
    simp only [cond_false] at H
    refine cond_split (fun _ => rfl) (fun hb => ?_)
    have b1 : ¬ 60 < l1.length := by have := of_decide_eq_false hb; omega
    have H := lawF_go b1 H
    refine guard_split (preLw_mk b1 (by simp)) ?_
    refine cond_split (fun hs => ?_) (fun hs => ?_)
    rotate_left
    · rw [hs] at H
      simp only [cond_false] at H
      rw [H]
    have c1 := scan_le b1 hs
    rw [hs] at H
    simp only [cond_true] at H
    refine cond_split (fun _ => rfl) (fun hb => ?_)
    have b2 : ¬ 60 < l2.length := by have := of_decide_eq_false hb; omega
    have H := lawF_go b2 H
    refine guard_split (preLw_mk b2 (by simp only [List.length_nil] at *; omega)) ?_
    refine cond_split (fun hs => ?_) (fun hs => ?_)
    rotate_left
    · rw [hs] at H
      simp only [cond_false] at H
      rw [H]
    have c2 := scan_le b2 hs
    rw [hs] at H
    simp only [cond_true] at H
    refine cond_split (fun _ => rfl) (fun hb => ?_)
    have b3 : ¬ 60 < l3.length := by have := of_decide_eq_false hb; omega
    have H := lawF_go b3 H
    refine guard_split (preLw_mk b3 (by simp only [List.length_nil] at *; omega)) ?_
    refine cond_split (fun hs => ?_) (fun hs => ?_)
    rotate_left
    · rw [hs] at H
      simp only [cond_false] at H
      rw [H]
    have c3 := scan_le b3 hs
    rw [hs] at H
    simp only [cond_true] at H
    unfold lawF at H
    rw [hE] at H
    exact absurd H (by simp)
theorem q13d (l1 : List Pl) (n1 : Bool) (l2 : List Pl) (n2 : Bool) (l3 : List Pl) (n3 : Bool) (l4 : List Pl) (n4 : Bool) : z13dL l1 n1 l2 n2 l3 n3 l4 n4 = some (.sc (.bool true), [.fix false [.sl 1 0 6 l1.length l1.length false n1, .sl 2 0 6 l2.length l2.length false n2, .sl 3 0 6 l3.length l3.length false n3, .sl 4 0 6 l4.length l4.length false n4], .row false kPl l1, .row false kPl l2, .row false kPl l3, .row false kPl l4]) := by
  rw [z13d, first_at]
  simp only [List.take_length, Nat.zero_add, lenT, lenS, cond_true]
  have H := law_at [(l1, n1), (l2, n2), (l3, n3), (l4, n4)]
  have hcat : (mgL [(l1, n1), (l2, n2), (l3, n3), (l4, n4)]).length ≤ l1.length + l2.length + l3.length + l4.length := by have := mgL_len [(l1, n1), (l2, n2), (l3, n3), (l4, n4)]; simp [catP] at this; omega
  have hfs : fs4 ((((l1, n1), (l2, n2), (l3, n3), (l4, n4), PUnit.unit)), PUnit.unit) = [(l1, n1), (l2, n2), (l3, n3), (l4, n4)] := rfl
  simp only [hfs]
  rw [show ((([(0, 1, 0, 0, 0, 0)] : List Pl).length : Int) != 1) = false from rfl]
  simp only [cond_false]
  refine guard_split rfl ?_
  generalize mgL [(l1, n1), (l2, n2), (l3, n3), (l4, n4)] = O at *
  generalize mgE [(l1, n1), (l2, n2), (l3, n3), (l4, n4)] = E at *
  refine cond_split (fun hE => ?_) (fun hE => ?_)
  · have hE0 := of_decide_eq_true hE
    rw [hE] at H
    simp only [cond_true] at H
    refine cond_split (fun _ => rfl) (fun hb => ?_)
    have b1 : ¬ 60 < l1.length := by have := of_decide_eq_false hb; omega
    have H := lawF_go b1 H
    refine guard_split (preLw_mk b1 (by simp)) ?_
    refine cond_split (fun hs => ?_) (fun hs => ?_)
    rotate_left
    · rw [hs, hE0] at H
      simp only [cond_false] at H
      rw [H]
    have c1 := scan_le b1 hs
    rw [hs] at H
    simp only [cond_true] at H
    refine cond_split (fun _ => rfl) (fun hb => ?_)
    have b2 : ¬ 60 < l2.length := by have := of_decide_eq_false hb; omega
    have H := lawF_go b2 H
    refine guard_split (preLw_mk b2 (by simp only [List.length_nil] at *; omega)) ?_
    refine cond_split (fun hs => ?_) (fun hs => ?_)
    rotate_left
    · rw [hs, hE0] at H
      simp only [cond_false] at H
      rw [H]
    have c2 := scan_le b2 hs
    rw [hs] at H
    simp only [cond_true] at H
    refine cond_split (fun _ => rfl) (fun hb => ?_)
    have b3 : ¬ 60 < l3.length := by have := of_decide_eq_false hb; omega
    have H := lawF_go b3 H
    refine guard_split (preLw_mk b3 (by simp only [List.length_nil] at *; omega)) ?_
    refine cond_split (fun hs => ?_) (fun hs => ?_)
    rotate_left
    · rw [hs, hE0] at H
      simp only [cond_false] at H
      rw [H]
    have c3 := scan_le b3 hs
    rw [hs] at H
    simp only [cond_true] at H
    refine cond_split (fun _ => rfl) (fun hb => ?_)
    have b4 : ¬ 60 < l4.length := by have := of_decide_eq_false hb; omega
    have H := lawF_go b4 H
    refine guard_split (preLw_mk b4 (by simp only [List.length_nil] at *; omega)) ?_
    refine cond_split (fun hs => ?_) (fun hs => ?_)
    rotate_left
    · rw [hs, hE0] at H
      simp only [cond_false] at H
      rw [H]
    have c4 := scan_le b4 hs
    rw [hs] at H
    simp only [cond_true] at H
    refine guard_split (decide_eq_true (by omega)) ?_
    unfold lawF at H
    rw [Bool.and_eq_true] at H
    rw [H.2]
  · have hE0 := of_decide_eq_false hE
    rw [hE] at H
    simp only [cond_false] at H
    refine cond_split (fun _ => rfl) (fun hb => ?_)
    have b1 : ¬ 60 < l1.length := by have := of_decide_eq_false hb; omega
    have H := lawF_go b1 H
    refine guard_split (preLw_mk b1 (by simp)) ?_
    refine cond_split (fun hs => ?_) (fun hs => ?_)
    rotate_left
    · rw [hs] at H
      simp only [cond_false] at H
      rw [H]
    have c1 := scan_le b1 hs
    rw [hs] at H
    simp only [cond_true] at H
    refine cond_split (fun _ => rfl) (fun hb => ?_)
    have b2 : ¬ 60 < l2.length := by have := of_decide_eq_false hb; omega
    have H := lawF_go b2 H
    refine guard_split (preLw_mk b2 (by simp only [List.length_nil] at *; omega)) ?_
    refine cond_split (fun hs => ?_) (fun hs => ?_)
    rotate_left
    · rw [hs] at H
      simp only [cond_false] at H
      rw [H]
    have c2 := scan_le b2 hs
    rw [hs] at H
    simp only [cond_true] at H
    refine cond_split (fun _ => rfl) (fun hb => ?_)
    have b3 : ¬ 60 < l3.length := by have := of_decide_eq_false hb; omega
    have H := lawF_go b3 H
    refine guard_split (preLw_mk b3 (by simp only [List.length_nil] at *; omega)) ?_
    refine cond_split (fun hs => ?_) (fun hs => ?_)
    rotate_left
    · rw [hs] at H
      simp only [cond_false] at H
      rw [H]
    have c3 := scan_le b3 hs
    rw [hs] at H
    simp only [cond_true] at H
    refine cond_split (fun _ => rfl) (fun hb => ?_)
    have b4 : ¬ 60 < l4.length := by have := of_decide_eq_false hb; omega
    have H := lawF_go b4 H
    refine guard_split (preLw_mk b4 (by simp only [List.length_nil] at *; omega)) ?_
    refine cond_split (fun hs => ?_) (fun hs => ?_)
    rotate_left
    · rw [hs] at H
      simp only [cond_false] at H
      rw [H]
    have c4 := scan_le b4 hs
    rw [hs] at H
    simp only [cond_true] at H
    unfold lawF at H
    rw [hE] at H
    exact absurd H (by simp)
theorem q13r (n lo : Nat) (fu nl : Bool) (h : n = 0 ∨ 4 < n) : z13rL n lo fu nl = some (.sc (.bool true), [.row false I []]) := by
  rw [z13r, first_at, decide_eq_true h]
  rcases h with h | h
  · subst h
    rw [show bp (([] : List Pl) = []) = true from bp_mk rfl]; rfl
  · rw [decide_eq_false (show ¬ n = 0 by omega)]
    have : decide ((n : Int) > 4) = true := decide_eq_true (by omega)
    rw [this]; rfl
theorem in13 : CutOK Try.prog Try.f13.ntmps (codeAt 2 (bodyF Try.f13)) [5, 6, 7, 9, 52, 53, 54] [2, 7] (entC kLw cLw) := loop_cutW (kill := killA 0 kLw) M3_ok mixed muLw (by kernel_rfl) (noCuts_ok _) fun v h => q13l v.1.1 v.1.2 v.2.1 v.2.2.1.1 v.2.2.1.2 v.2.2.2.1.1 v.2.2.2.1.2 v.2.2.2.2.1.1 v.2.2.2.2.1.2 v.2.2.2.2.2.1 v.2.2.2.2.2.2.1 h
theorem Placed.imp {W : World} {n : Nat} {Q R : Inj → Prop} {Bs : List Blk} (f : ∀ m, Q m → R m) (h : Placed W n Q Bs) : Placed W n R Bs := by
  obtain ⟨pls, a, b⟩ := h
  exact ⟨pls, a, fun m hm => ⟨f m (b m hm).1, (b m hm).2⟩⟩
theorem run13 {xs : List PV} {H H' : List Blk} {kill : List Nat} (h : evFuncV Try.prog M3 (addCut 2 [5, 6, 7, 9, 52, 53, 54] [2, 7] (entC kLw cLw) noCuts) Try.f13 kill xs H = some (.sc (.bool true), H')) (hn : xs.length ≤ 1) : CallOK Try.prog 13 xs H (.sc (.bool true)) H' :=
  evFuncV_sound M3_ok mixed Try.func13 (show Try.f13.body = some (bodyF Try.f13) from rfl) (cut_cons (by kernel_rfl) in13 (noCuts_ok _)) h (Nat.le_trans hn (by decide))
theorem lawAny {W : World} {v : Value} {B : Nat} {G : kPl.den → Prop} (h : SlsAt W kPl B G v) : Calls Try.prog 13 #[v] W fun e w' => e = .returned (.bool true) ∧ RowKit.Below W.heap.size W w' := by
  have one : ∀ {p : PV} {m : Inj} {u : Value}, Rv m p u → Rvs m [p] [u] := fun h => Rvs.one h
  rcases h with ⟨a, rfl⟩ | ⟨ab, ao, cap, fs, l, c, el, fz, rfl, hcap, hh, hfit, hg, hl, hcell, hs⟩
  · exact law_belowP (vs := [.slice a 0 0]) (run13 (q13r 0 0 false a.isNone (Or.inl rfl)) (Nat.le_refl _)) (Placed.imp (fun m h => one h) (none_placed (k := I) a))
  by_cases hn : fs.length = 0 ∨ 4 < fs.length
  · exact law_belowP (vs := [.slice (some ⟨ab, ao, none⟩) fs.length cap]) (run13 (q13r fs.length fs.length false false hn) (Nat.le_refl _)) (Placed.imp (fun m h => one h) (len_placed (k := I) hh hcap hfit))
  match fs, l, hl, hn, hcap, hs with
  | [f1], [u1], _, _, hcap, hs => exact law_belowP (vs := [.slice (some ⟨ab, ao, none⟩) 1 cap]) (run13 (q13a f1.1 f1.2) (Nat.le_refl _)) (Placed.imp (fun m h => one h) (ss_placed (n := 0) (cs := [.ro kPl]) (x := (f1, ())) (l := [u1]) hh ⟨[u1], [], rfl, ⟨u1, rfl, hs 0 f1 u1 rfl rfl⟩, rfl⟩ hcap hfit hcell))
  | [f1, f2], [u1, u2], _, _, hcap, hs => exact law_belowP (vs := [.slice (some ⟨ab, ao, none⟩) 2 cap]) (run13 (q13b f1.1 f1.2 f2.1 f2.2) (Nat.le_refl _)) (Placed.imp (fun m h => one h) (ss_placed (n := 0) (cs := [.ro kPl, .ro kPl]) (x := (f1, f2, ())) (l := [u1, u2]) hh ⟨[u1], [u2], rfl, ⟨u1, rfl, hs 0 f1 u1 rfl rfl⟩, ⟨[u2], [], rfl, ⟨u2, rfl, hs 1 f2 u2 rfl rfl⟩, rfl⟩⟩ hcap hfit hcell))
  | [f1, f2, f3], [u1, u2, u3], _, _, hcap, hs => exact law_belowP (vs := [.slice (some ⟨ab, ao, none⟩) 3 cap]) (run13 (q13c f1.1 f1.2 f2.1 f2.2 f3.1 f3.2) (Nat.le_refl _)) (Placed.imp (fun m h => one h) (ss_placed (n := 0) (cs := [.ro kPl, .ro kPl, .ro kPl]) (x := (f1, f2, f3, ())) (l := [u1, u2, u3]) hh ⟨[u1], [u2, u3], rfl, ⟨u1, rfl, hs 0 f1 u1 rfl rfl⟩, ⟨[u2], [u3], rfl, ⟨u2, rfl, hs 1 f2 u2 rfl rfl⟩, ⟨[u3], [], rfl, ⟨u3, rfl, hs 2 f3 u3 rfl rfl⟩, rfl⟩⟩⟩ hcap hfit hcell))
  | [f1, f2, f3, f4], [u1, u2, u3, u4], _, _, hcap, hs => exact law_belowP (vs := [.slice (some ⟨ab, ao, none⟩) 4 cap]) (run13 (q13d f1.1 f1.2 f2.1 f2.2 f3.1 f3.2 f4.1 f4.2) (Nat.le_refl _)) (Placed.imp (fun m h => one h) (ss_placed (n := 0) (cs := [.ro kPl, .ro kPl, .ro kPl, .ro kPl]) (x := (f1, f2, f3, f4, ())) (l := [u1, u2, u3, u4]) hh ⟨[u1], [u2, u3, u4], rfl, ⟨u1, rfl, hs 0 f1 u1 rfl rfl⟩, ⟨[u2], [u3, u4], rfl, ⟨u2, rfl, hs 1 f2 u2 rfl rfl⟩, ⟨[u3], [u4], rfl, ⟨u3, rfl, hs 2 f3 u3 rfl rfl⟩, ⟨[u4], [], rfl, ⟨u4, rfl, hs 3 f4 u4 rfl rfl⟩, rfl⟩⟩⟩⟩ hcap hfit hcell))
  | [], _, _, hn, _, _ => exact absurd (Or.inl rfl) hn
  | f1 :: f2 :: f3 :: f4 :: f5 :: r, _, _, hn, _, _ => exact absurd (Or.inr (by simp only [List.length_cons]; omega)) hn
end Go.Proofs.YtpndjpjpmcehbaaMm
