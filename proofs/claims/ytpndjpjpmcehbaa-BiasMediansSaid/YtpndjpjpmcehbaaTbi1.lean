/- What is proved: the functions on plots and offsets that the law BiasMedians reaches answer what their plain functions say. No condition. -/
import Derived.Test.YtpndjpjpmcehbaaTbi0
namespace Go.Proofs.YtpndjpjpmcehbaaBi
open Go Go.Proofs Go.Proofs.YtpndjpjpmcehbaaEv Go.Proofs.YtpndjpjpmcehbaaTk
set_option maxRecDepth 100000
set_option linter.unusedSimpArgs false
set_option linter.unusedVariables false
noncomputable abbrev b97L (a0 : Pl) := evFuncV Try.prog T2 noCuts Try.f97 (killA 0 [sPl]) (showA 0 [sPl] (a0, ())).1 (showA 0 [sPl] (a0, ())).2
theorem b97 (a0 : Pl) : b97L a0 = (bif decide (a0.fst < 0) then some (PV.sc (Value.int IntKind.i64 4), [])
else
  bif decide (a0.fst > 255) then some (PV.sc (Value.int IntKind.i64 4), [])
  else
    bif decide (a0.snd.fst < 0) then some (PV.sc (Value.int IntKind.i64 4), [])
    else
      bif decide (a0.snd.fst > 200000) then some (PV.sc (Value.int IntKind.i64 4), [])
      else
        bif decide (a0.snd.snd.fst < 0) then some (PV.sc (Value.int IntKind.i64 4), [])
        else
          bif decide (a0.snd.snd.fst > 2000000) then some (PV.sc (Value.int IntKind.i64 4), [])
          else
            bif decide (a0.snd.snd.snd.fst < 0) then some (PV.sc (Value.int IntKind.i64 4), [])
            else
              bif decide (a0.snd.snd.snd.fst > 4095) then some (PV.sc (Value.int IntKind.i64 4), [])
              else
                bif decide (a0.snd.snd.snd.snd.fst < 0) then some (PV.sc (Value.int IntKind.i64 4), [])
                else
                  bif decide (a0.snd.snd.snd.snd.fst > 60000) then some (PV.sc (Value.int IntKind.i64 4), [])
                  else
                    bif decide (a0.snd.snd.snd.snd.snd < -1) then some (PV.sc (Value.int IntKind.i64 4), [])
                    else
                      bif decide (a0.snd.snd.snd.snd.snd > 4095) then some (PV.sc (Value.int IntKind.i64 4), [])
                      else some (PV.sc (Value.int IntKind.i64 0), [])) := by kernel_rfl
noncomputable abbrev b54L (a0 : Pl) := evFuncV Try.prog T2 noCuts Try.f54 (killA 0 [sPl]) (showA 0 [sPl] (a0, ())).1 (showA 0 [sPl] (a0, ())).2
theorem b54 (a0 : Pl) : b54L a0 = (bif inS a0.fst 0 255 then
  bif inS a0.snd.fst 0 200000 then
    bif inS a0.snd.snd.fst 0 2000000 then
      bif inS a0.snd.snd.snd.fst 0 4095 then
        bif inS a0.snd.snd.snd.snd.fst 0 60000 then
          bif inS a0.snd.snd.snd.snd.snd (-1) 4095 then some (PV.sc (Value.int IntKind.i64 0), [])
          else some (PV.sc (Value.int IntKind.i64 4), [])
        else some (PV.sc (Value.int IntKind.i64 4), [])
      else some (PV.sc (Value.int IntKind.i64 4), [])
    else some (PV.sc (Value.int IntKind.i64 4), [])
  else some (PV.sc (Value.int IntKind.i64 4), [])
else some (PV.sc (Value.int IntKind.i64 4), [])) := by kernel_rfl
noncomputable abbrev b57L (a0 : Of) := evFuncV Try.prog T2 noCuts Try.f57 (killA 0 [sOf]) (showA 0 [sOf] (a0, ())).1 (showA 0 [sOf] (a0, ())).2
theorem b57 (a0 : Of) : b57L a0 = (bif decide (a0.fst < -10000) then some (PV.sc (Value.int IntKind.i64 4), [])
else
  bif decide (a0.fst > 10000) then some (PV.sc (Value.int IntKind.i64 4), [])
  else
    bif decide (a0.snd.fst < -2047) then some (PV.sc (Value.int IntKind.i64 4), [])
    else
      bif decide (a0.snd.fst > 2048) then some (PV.sc (Value.int IntKind.i64 4), [])
      else
        bif decide (a0.snd.snd < -1000) then some (PV.sc (Value.int IntKind.i64 4), [])
        else
          bif decide (a0.snd.snd > 1000) then some (PV.sc (Value.int IntKind.i64 4), [])
          else some (PV.sc (Value.int IntKind.i64 0), [])) := by kernel_rfl
noncomputable abbrev b126L (a0 : Int) := evFuncV Try.prog T2 noCuts Try.f126 (killA 0 [sI]) (showA 0 [sI] (a0, ())).1 (showA 0 [sI] (a0, ())).2
theorem b126 (a0 : Int) : b126L a0 = (some
  (PV.sc
      (Value.int IntKind.i64
        (IntKind.i64.wrap (↑(BitVec.ofInt IntKind.i64.bits a0 &&& BitVec.ofInt IntKind.i64.bits 4095).toNat : Int))),
    [])) := by kernel_rfl
noncomputable abbrev b98L (a0 : Int) (a1 : Int) := evFuncV Try.prog B1 noCuts Try.f98 (killA 0 [sI, sI]) (showA 0 [sI, sI] (a0, (a1, ()))).1 (showA 0 [sI, sI] (a0, (a1, ()))).2
theorem b98 (a0 : Int) (a1 : Int) : b98L a0 a1 = (guardB (decide (-4096 ≤ IntKind.i64.wrap (a1 - a0) ∧ IntKind.i64.wrap (a1 - a0) ≤ 4096))
  (bif decide (normS (IntKind.i64.wrap (a1 - a0)) > 2048) then
    some (PV.sc (Value.int IntKind.i64 (IntKind.i64.wrap (normS (IntKind.i64.wrap (a1 - a0)) - 4096))), [])
  else some (PV.sc (Value.int IntKind.i64 (normS (IntKind.i64.wrap (a1 - a0)))), []))) := by kernel_rfl
noncomputable abbrev b55lL (a0 : Int) (a1 : Int) (a2 : Int) := evRound Try.prog B1 noCuts 20 (loopOf (codeAt 0 (bodyF Try.f55))) k55 mu55 (killA 0 k55) [0, 1, 5] [4] c55 (a0, (a1, (a2, ())))
theorem b55l (a0 : Int) (a1 : Int) (a2 : Int) : b55lL a0 a1 a2 = (bif decide (a2 ≤ 2048) then
  bif (IntKind.i64.wrap ((IntKind.i64.wrap (IntKind.i64.wrap (a1 - a0) - a2)).tmod 4096 + 4096)).tmod 4096 == 0 then
    some (Xt.ret, [PV.sc (Value.int IntKind.i64 a2)], [])
  else
    guardB (decide (mu55 (a0, a1, IntKind.i64.wrap (a2 + 1), PUnit.unit) < mu55 (a0, a1, a2, ())))
      (guardB (pre55 a0 a1 (IntKind.i64.wrap (a2 + 1)))
        (some (Xt.ret, [PV.sc (Value.int IntKind.i64 (diffS a0 a1))], [])))
else some (Xt.exit 0, [PV.undef], [])) := by kernel_rfl
noncomputable abbrev b55L (a0 : Int) (a1 : Int) := evFuncV Try.prog B1 (addCut 0 [0, 1, 5] [4] (entC k55 c55) noCuts) Try.f55 (killA 0 [sI, sI]) (showA 0 [sI, sI] (a0, (a1, ()))).1 (showA 0 [sI, sI] (a0, (a1, ()))).2
theorem b55 (a0 : Int) (a1 : Int) : b55L a0 a1 = (guardB (pre55 a0 a1 (-2047)) (some (PV.sc (Value.int IntKind.i64 (diffS a0 a1)), []))) := by kernel_rfl
noncomputable abbrev b56bL (a0 : Int) (a1 : Int) (a2 : Int) (a3 : List Int) (a4 : Bool) (a5 : Int) (a6 : Int) := evRound Try.prog B1 noCuts 49 (loopOf (codeAt 2 (bodyF Try.f56))) k56b mu56b (killA 0 k56b) [4, 5, 6, 16, 17, 18] [5, 6] c56b (a0, (a1, (a2, ((a3, a4), (a5, (a6, ()))))))
theorem b56b (a0 : Int) (a1 : Int) (a2 : Int) (a3 : List Int) (a4 : Bool) (a5 : Int) (a6 : Int) : b56bL a0 a1 a2 a3 a4 a5 a6 = (bif decide (a6 < a5) then
  guardB (decide (0 ≤ a6) && decide (a6 < (↑a3.length : Int)))
    (bindO a3[0 + a6.toNat]? fun x =>
      bif decide (x < a0) then
        bif x == a0 then
          guardB
            (decide
              (mu56b
                  (a0, IntKind.i64.wrap (a1 + 1), IntKind.i64.wrap (a2 + 1), (List.take a3.length a3, a4), a5,
                    IntKind.i64.wrap (a6 + 1), PUnit.unit) <
                mu56b (a0, a1, a2, (a3, a4), a5, a6, ())))
            (guardB
              (bif decide (0 + a3.length ≤ a3.length) then
                pre56b (List.take a3.length a3) (IntKind.i64.wrap (a1 + 1)) (IntKind.i64.wrap (a2 + 1)) a5
                  (IntKind.i64.wrap (a6 + 1))
              else false)
              (some
                (Xt.exit 2,
                  [PV.sc
                      (Value.int IntKind.i64
                        (IntKind.i64.wrap (a1 + 1) +
                          (↑(ltC (List.drop (IntKind.i64.wrap (a6 + 1)).toNat (List.take a3.length a3)) a0) : Int))),
                    PV.sc
                      (Value.int IntKind.i64
                        (IntKind.i64.wrap (a2 + 1) +
                          (↑(eqC (List.drop (IntKind.i64.wrap (a6 + 1)).toNat (List.take a3.length a3)) a0) : Int)))],
                  [Blk.row false (Kd.int IntKind.i64) a3])))
        else
          guardB
            (decide
              (mu56b
                  (a0, IntKind.i64.wrap (a1 + 1), a2, (List.take a3.length a3, a4), a5, IntKind.i64.wrap (a6 + 1),
                    PUnit.unit) <
                mu56b (a0, a1, a2, (a3, a4), a5, a6, ())))
            (guardB
              (bif decide (0 + a3.length ≤ a3.length) then
                pre56b (List.take a3.length a3) (IntKind.i64.wrap (a1 + 1)) a2 a5 (IntKind.i64.wrap (a6 + 1))
              else false)
              (some
                (Xt.exit 2,
                  [PV.sc
                      (Value.int IntKind.i64
                        (IntKind.i64.wrap (a1 + 1) +
                          (↑(ltC (List.drop (IntKind.i64.wrap (a6 + 1)).toNat (List.take a3.length a3)) a0) : Int))),
                    PV.sc
                      (Value.int IntKind.i64
                        (a2 +
                          (↑(eqC (List.drop (IntKind.i64.wrap (a6 + 1)).toNat (List.take a3.length a3)) a0) : Int)))],
                  [Blk.row false (Kd.int IntKind.i64) a3])))
      else
        bif x == a0 then
          guardB
            (decide
              (mu56b
                  (a0, a1, IntKind.i64.wrap (a2 + 1), (List.take a3.length a3, a4), a5, IntKind.i64.wrap (a6 + 1),
                    PUnit.unit) <
                mu56b (a0, a1, a2, (a3, a4), a5, a6, ())))
            (guardB
              (bif decide (0 + a3.length ≤ a3.length) then
                pre56b (List.take a3.length a3) a1 (IntKind.i64.wrap (a2 + 1)) a5 (IntKind.i64.wrap (a6 + 1))
              else false)
              (some
                (Xt.exit 2,
                  [PV.sc
                      (Value.int IntKind.i64
                        (a1 +
                          (↑(ltC (List.drop (IntKind.i64.wrap (a6 + 1)).toNat (List.take a3.length a3)) a0) : Int))),
                    PV.sc
                      (Value.int IntKind.i64
                        (IntKind.i64.wrap (a2 + 1) +
                          (↑(eqC (List.drop (IntKind.i64.wrap (a6 + 1)).toNat (List.take a3.length a3)) a0) : Int)))],
                  [Blk.row false (Kd.int IntKind.i64) a3])))
        else
          guardB
            (decide
              (mu56b (a0, a1, a2, (List.take a3.length a3, a4), a5, IntKind.i64.wrap (a6 + 1), PUnit.unit) <
                mu56b (a0, a1, a2, (a3, a4), a5, a6, ())))
            (guardB
              (bif decide (0 + a3.length ≤ a3.length) then
                pre56b (List.take a3.length a3) a1 a2 a5 (IntKind.i64.wrap (a6 + 1))
              else false)
              (some
                (Xt.exit 2,
                  [PV.sc
                      (Value.int IntKind.i64
                        (a1 +
                          (↑(ltC (List.drop (IntKind.i64.wrap (a6 + 1)).toNat (List.take a3.length a3)) a0) : Int))),
                    PV.sc
                      (Value.int IntKind.i64
                        (a2 +
                          (↑(eqC (List.drop (IntKind.i64.wrap (a6 + 1)).toNat (List.take a3.length a3)) a0) : Int)))],
                  [Blk.row false (Kd.int IntKind.i64) a3]))))
else
  some
    (Xt.exit 2, [PV.sc (Value.int IntKind.i64 a1), PV.sc (Value.int IntKind.i64 a2)],
      [Blk.row false (Kd.int IntKind.i64) a3])) := by kernel_rfl
noncomputable abbrev b56aL (a0 : List Int) (a1 : Bool) (a2 : List Int) (a3 : Bool) (a4 : Int) (a5 : Int) := evRound Try.prog B1 (addCut 2 [4, 5, 6, 16, 17, 18] [5, 6] (entC k56b c56b) noCuts) 49 (loopOf (codeAt 0 (bodyF Try.f56))) k56a mu56a (killA 0 k56a) [0, 10, 11, 12] [2] c56a ((a0, a1), ((a2, a3), (a4, (a5, ()))))
theorem b56a (a0 : List Int) (a1 : Bool) (a2 : List Int) (a3 : Bool) (a4 : Int) (a5 : Int) : b56aL a0 a1 a2 a3 a4 a5 = (bif decide (a5 < a4) then
  guardB (decide (0 ≤ a5) && decide (a5 < (↑a2.length : Int)))
    (bindO a2[0 + a5.toNat]? fun x =>
      guardB
        (bif decide (0 + a0.length ≤ a0.length) then pre56b (List.take a0.length a0) 0 0 (↑a0.length : Int) 0
        else false)
        (bif
            decide
              (0 + (↑(ltC (List.drop (Int.toNat 0) (List.take a0.length a0)) x) : Int) ≤
                IntKind.i64.wrap ((IntKind.i64.wrap ((↑a0.length : Int) - 1)).tdiv 2)) then
          bif
              decide
                (IntKind.i64.wrap ((IntKind.i64.wrap ((↑a0.length : Int) - 1)).tdiv 2) <
                  IntKind.i64.wrap
                    (0 + (↑(ltC (List.drop (Int.toNat 0) (List.take a0.length a0)) x) : Int) +
                      (0 + (↑(eqC (List.drop (Int.toNat 0) (List.take a0.length a0)) x) : Int)))) then
            some
              (Xt.ret, [PV.sc (Value.int IntKind.i64 x)],
                [Blk.row false (Kd.int IntKind.i64) a0, Blk.row false (Kd.int IntKind.i64) a2])
          else
            guardB
              (decide
                (mu56a
                    ((List.take a0.length a0, a1), (List.take a2.length a2, a3), a4, IntKind.i64.wrap (a5 + 1),
                      PUnit.unit) <
                  mu56a ((a0, a1), (a2, a3), a4, a5, ())))
              (guardB
                (bif decide (0 + a0.length ≤ a0.length) then
                  bif decide (0 + a2.length ≤ a2.length) then
                    pre56a (List.take a0.length a0) (List.take a2.length a2) a4 (IntKind.i64.wrap (a5 + 1))
                  else false
                else false)
                (bif
                    (List.find? (midP (List.take a0.length a0))
                        (List.drop (IntKind.i64.wrap (a5 + 1)).toNat (List.take a0.length a0))).isNone then
                  some
                    (Xt.exit 0, [PV.undef],
                      [Blk.row false (Kd.int IntKind.i64) a0, Blk.row false (Kd.int IntKind.i64) a2])
                else
                  some
                    (Xt.ret,
                      [PV.sc
                          (Value.int IntKind.i64
                            ((List.find? (midP (List.take a0.length a0))
                                  (List.drop (IntKind.i64.wrap (a5 + 1)).toNat (List.take a0.length a0))).getD
                              0))],
                      [Blk.row false (Kd.int IntKind.i64) a0, Blk.row false (Kd.int IntKind.i64) a2])))
        else
          guardB
            (decide
              (mu56a
                  ((List.take a0.length a0, a1), (List.take a2.length a2, a3), a4, IntKind.i64.wrap (a5 + 1),
                    PUnit.unit) <
                mu56a ((a0, a1), (a2, a3), a4, a5, ())))
            (guardB
              (bif decide (0 + a0.length ≤ a0.length) then
                bif decide (0 + a2.length ≤ a2.length) then
                  pre56a (List.take a0.length a0) (List.take a2.length a2) a4 (IntKind.i64.wrap (a5 + 1))
                else false
              else false)
              (bif
                  (List.find? (midP (List.take a0.length a0))
                      (List.drop (IntKind.i64.wrap (a5 + 1)).toNat (List.take a0.length a0))).isNone then
                some
                  (Xt.exit 0, [PV.undef],
                    [Blk.row false (Kd.int IntKind.i64) a0, Blk.row false (Kd.int IntKind.i64) a2])
              else
                some
                  (Xt.ret,
                    [PV.sc
                        (Value.int IntKind.i64
                          ((List.find? (midP (List.take a0.length a0))
                                (List.drop (IntKind.i64.wrap (a5 + 1)).toNat (List.take a0.length a0))).getD
                            0))],
                    [Blk.row false (Kd.int IntKind.i64) a0, Blk.row false (Kd.int IntKind.i64) a2])))))
else some (Xt.exit 0, [PV.undef], [Blk.row false (Kd.int IntKind.i64) a0, Blk.row false (Kd.int IntKind.i64) a2])) := by kernel_rfl
noncomputable abbrev b56L (a0 : List Int) (a1 : Bool) := evFuncV Try.prog B1 (addCut 0 [0, 10, 11, 12] [2] (entC k56a c56a) noCuts) Try.f56 (killA 0 [rI]) (showA 0 [rI] ((a0, a1), ())).1 (showA 0 [rI] ((a0, a1), ())).2
theorem b56 (a0 : List Int) (a1 : Bool) : b56L a0 a1 = (guardB
  (bif decide (0 + a0.length ≤ a0.length) then
    bif decide (0 + a0.length ≤ a0.length) then
      pre56a (List.take a0.length a0) (List.take a0.length a0) (↑a0.length : Int) 0
    else false
  else false)
  (bif (List.find? (midP (List.take a0.length a0)) (List.drop (Int.toNat 0) (List.take a0.length a0))).isNone then
    some (PV.sc (Value.int IntKind.i64 0), [Blk.row false (Kd.int IntKind.i64) a0])
  else
    some
      (PV.sc
          (Value.int IntKind.i64
            ((List.find? (midP (List.take a0.length a0)) (List.drop (Int.toNat 0) (List.take a0.length a0))).getD 0)),
        [Blk.row false (Kd.int IntKind.i64) a0]))) := by kernel_rfl
noncomputable abbrev b99L (a0 : List Int) (a1 : Bool) := evFuncV Try.prog B1 noCuts Try.f99 (killA 0 [iI]) (showA 0 [iI] ((a0, a1), ())).1 (showA 0 [iI] ((a0, a1), ())).2
theorem b99 (a0 : List Int) (a1 : Bool) : b99L a0 a1 = (guardB (bif decide (a0.length = a0.length) then decide (1 ≤ a0.length ∧ a0.length ≤ 1000) else false)
  (guardB
    (decide (0 ≤ IntKind.i64.wrap ((IntKind.i64.wrap ((↑a0.length : Int) - 1)).tdiv 2)) &&
      decide (IntKind.i64.wrap ((IntKind.i64.wrap ((↑a0.length : Int) - 1)).tdiv 2) < (↑a0.length : Int)))
    (bindO (srt a0)[0 + (IntKind.i64.wrap ((IntKind.i64.wrap ((↑a0.length : Int) - 1)).tdiv 2)).toNat]? fun x =>
      some (PV.sc (Value.int IntKind.i64 x), [Blk.row true (Kd.int IntKind.i64) (srt a0)])))) := by kernel_rfl
noncomputable abbrev b53bL (a0 : Of) (a1 : List (Int × Int × Int × Int × Int × Int)) (a2 : Bool) (a3 : Int) (a4 : Int) := evRound Try.prog B2 noCuts 112 (loopOf (codeAt 2 (bodyF Try.f53))) k53b mu53b (killA 0 k53b) [4, 33, 34, 35] [5] c53b ((a0, ()), ((a1, a2), (a3, (a4, ()))))
theorem b53b (a0 : Of) (a1 : List (Int × Int × Int × Int × Int × Int)) (a2 : Bool) (a3 : Int) (a4 : Int) : b53bL a0 a1 a2 a3 a4 = (bif decide (a4 < a3) then
  guardB (decide (0 ≤ a4) && decide (a4 < (↑a1.length : Int)))
    (bindO a1[0 + a4.toNat]? fun x =>
      bif plE x != 0 then
        some
          (Xt.ret, [PV.sc (Value.int IntKind.i64 (plE x))],
            [Blk.fix true
                [PV.sc (Value.int IntKind.i64 0), PV.sc (Value.int IntKind.i64 0), PV.sc (Value.int IntKind.i64 0)],
              Blk.row false
                ((Kd.int IntKind.i64).pair
                  ((Kd.int IntKind.i64).pair
                    ((Kd.int IntKind.i64).pair
                      ((Kd.int IntKind.i64).pair ((Kd.int IntKind.i64).pair (Kd.int IntKind.i64))))))
                a1])
      else
        guardB
          (decide
            (mu53b ((a0, PUnit.unit), (List.take a1.length a1, a2), a3, IntKind.i64.wrap (a4 + 1), PUnit.unit) <
              mu53b ((a0, ()), (a1, a2), a3, a4, ())))
          (guardB
            (bif decide (0 + a1.length ≤ a1.length) then
              pre53b a0 (List.take a1.length a1) a3 (IntKind.i64.wrap (a4 + 1))
            else false)
            (bif okP (List.drop (IntKind.i64.wrap (a4 + 1)).toNat (List.take a1.length a1)) then
              some
                (Xt.exit 2, [PV.undef],
                  [Blk.fix true
                      [PV.sc
                          (Value.int IntKind.i64
                            (same k53b
                                    ((a0, PUnit.unit), (List.take a1.length a1, a2), a3, IntKind.i64.wrap (a4 + 1),
                                      PUnit.unit)).fst.fst.fst),
                        PV.sc
                          (Value.int IntKind.i64
                            (same k53b
                                      ((a0, PUnit.unit), (List.take a1.length a1, a2), a3, IntKind.i64.wrap (a4 + 1),
                                        PUnit.unit)).fst.fst.snd.fst),
                        PV.sc
                          (Value.int IntKind.i64
                            (same k53b
                                      ((a0, PUnit.unit), (List.take a1.length a1, a2), a3, IntKind.i64.wrap (a4 + 1),
                                        PUnit.unit)).fst.fst.snd.snd)],
                    Blk.row false
                      ((Kd.int IntKind.i64).pair
                        ((Kd.int IntKind.i64).pair
                          ((Kd.int IntKind.i64).pair
                            ((Kd.int IntKind.i64).pair ((Kd.int IntKind.i64).pair (Kd.int IntKind.i64))))))
                      a1])
            else
              some
                (Xt.ret, [PV.sc (Value.int IntKind.i64 4)],
                  [Blk.fix true
                      [PV.sc
                          (Value.int IntKind.i64
                            (same k53b
                                    ((a0, PUnit.unit), (List.take a1.length a1, a2), a3, IntKind.i64.wrap (a4 + 1),
                                      PUnit.unit)).fst.fst.fst),
                        PV.sc
                          (Value.int IntKind.i64
                            (same k53b
                                      ((a0, PUnit.unit), (List.take a1.length a1, a2), a3, IntKind.i64.wrap (a4 + 1),
                                        PUnit.unit)).fst.fst.snd.fst),
                        PV.sc
                          (Value.int IntKind.i64
                            (same k53b
                                      ((a0, PUnit.unit), (List.take a1.length a1, a2), a3, IntKind.i64.wrap (a4 + 1),
                                        PUnit.unit)).fst.fst.snd.snd)],
                    Blk.row false
                      ((Kd.int IntKind.i64).pair
                        ((Kd.int IntKind.i64).pair
                          ((Kd.int IntKind.i64).pair
                            ((Kd.int IntKind.i64).pair ((Kd.int IntKind.i64).pair (Kd.int IntKind.i64))))))
                      a1]))))
else
  some
    (Xt.exit 2, [PV.undef],
      [Blk.fix true
          [PV.sc (Value.int IntKind.i64 a0.fst), PV.sc (Value.int IntKind.i64 a0.snd.fst),
            PV.sc (Value.int IntKind.i64 a0.snd.snd)],
        Blk.row false
          ((Kd.int IntKind.i64).pair
            ((Kd.int IntKind.i64).pair
              ((Kd.int IntKind.i64).pair ((Kd.int IntKind.i64).pair ((Kd.int IntKind.i64).pair (Kd.int IntKind.i64))))))
          a1])) := by kernel_rfl
noncomputable abbrev b53dL (a0 : List (Int × Int × Int × Int × Int × Int)) (a1 : Bool) (a2 : List Int) (a3 : Bool) (a4 : List Int) (a5 : Bool) (a6 : List Int) (a7 : Bool) (a8 : List (Int × Int × Int × Int × Int × Int)) (a9 : Bool) (a10 : Int) (a11 : Int) := evRound Try.prog B2 noCuts 112 (loopOf (codeAt 4 (bodyF Try.f53))) k53d mu53d (killA 0 k53d) [0, 11, 12, 13, 57, 58, 59] [11, 12, 13] c53d ((a0, a1), ((a2, a3), ((a4, a5), ((a6, a7), ((a8, a9), (a10, (a11, ())))))))
theorem b53d (a0 : List (Int × Int × Int × Int × Int × Int)) (a1 : Bool) (a2 : List Int) (a3 : Bool) (a4 : List Int) (a5 : Bool) (a6 : List Int) (a7 : Bool) (a8 : List (Int × Int × Int × Int × Int × Int)) (a9 : Bool) (a10 : Int) (a11 : Int) : b53dL a0 a1 a2 a3 a4 a5 a6 a7 a8 a9 a10 a11 = (bif decide (a11 < a10) then
  guardB (decide (0 ≤ a11) && decide (a11 < (↑a8.length : Int)))
    (bindO a8[0 + a11.toNat]? fun x =>
      guardB (decide (0 ≤ a11) && decide (a11 < (↑a0.length : Int)))
        (bindO a0[0 + a11.toNat]? fun x_1 =>
          guardB
            (decide (0 + a2.length ≤ a2.length) && true && decide ((a2.length + 1) * 8 ≤ 140737488355328) &&
              decide (a2.length + 1 ≤ 4611686018427387904))
            (guardB (decide (0 ≤ a11) && decide (a11 < (↑a0.length : Int)))
              (bindO a0[0 + a11.toNat]? fun x_2 =>
                guardB (preAz x_2.snd.snd.snd.fst x.snd.snd.snd.fst)
                  (guardB
                    (decide (0 + a4.length ≤ a4.length) && true && decide ((a4.length + 1) * 8 ≤ 140737488355328) &&
                      decide (a4.length + 1 ≤ 4611686018427387904))
                    (guardB (decide (0 ≤ a11) && decide (a11 < (↑a0.length : Int)))
                      (bindO a0[0 + a11.toNat]? fun x_3 =>
                        guardB
                          (decide (0 + a6.length ≤ a6.length) && true &&
                              decide ((a6.length + 1) * 8 ≤ 140737488355328) &&
                            decide (a6.length + 1 ≤ 4611686018427387904))
                          (guardB
                            (decide
                              (mu53d
                                  ((List.take a0.length a0, a1),
                                    (List.take a2.length a2 ++ [IntKind.i64.wrap (x.snd.snd.fst - x_1.snd.snd.fst)],
                                      false),
                                    (List.take a4.length a4 ++ [diffS x_2.snd.snd.snd.fst x.snd.snd.snd.fst], false),
                                    (List.take a6.length a6 ++ [IntKind.i64.wrap (x.snd.fst - x_3.snd.fst)], false),
                                    (List.take a8.length a8, a9), a10, IntKind.i64.wrap (a11 + 1), PUnit.unit) <
                                mu53d ((a0, a1), (a2, a3), (a4, a5), (a6, a7), (a8, a9), a10, a11, ())))
                            (guardB
                              (bif decide (0 + a0.length ≤ a0.length) then
                                bif
                                    decide
                                      (a2.length + 1 =
                                        (List.take a2.length a2 ++
                                            [IntKind.i64.wrap (x.snd.snd.fst - x_1.snd.snd.fst)]).length) then
                                  bif
                                      decide
                                        (a4.length + 1 =
                                          (List.take a4.length a4 ++
                                              [diffS x_2.snd.snd.snd.fst x.snd.snd.snd.fst]).length) then
                                    bif
                                        decide
                                          (a6.length + 1 =
                                            (List.take a6.length a6 ++
                                                [IntKind.i64.wrap (x.snd.fst - x_3.snd.fst)]).length) then
                                      bif decide (0 + a8.length ≤ a8.length) then
                                        preZ (List.take a0.length a0) (List.take a8.length a8)
                                          (List.take a2.length a2 ++
                                            [IntKind.i64.wrap (x.snd.snd.fst - x_1.snd.snd.fst)])
                                          (List.take a4.length a4 ++ [diffS x_2.snd.snd.snd.fst x.snd.snd.snd.fst])
                                          (List.take a6.length a6 ++ [IntKind.i64.wrap (x.snd.fst - x_3.snd.fst)]) a10
                                          (IntKind.i64.wrap (a11 + 1))
                                      else false
                                    else false
                                  else false
                                else false
                              else false)
                              (some
                                (Xt.exit 4,
                                  [PV.sl 5 0 1
                                      (List.take a2.length a2 ++ [IntKind.i64.wrap (x.snd.snd.fst - x_1.snd.snd.fst)] ++
                                          zipK fR (List.take a0.length a0) (List.take a8.length a8)
                                            (IntKind.i64.wrap (a11 + 1))).length
                                      (List.take a2.length a2 ++ [IntKind.i64.wrap (x.snd.snd.fst - x_1.snd.snd.fst)] ++
                                          zipK fR (List.take a0.length a0) (List.take a8.length a8)
                                            (IntKind.i64.wrap (a11 + 1))).length
                                      false false,
                                    PV.sl 6 0 1
                                      (List.take a4.length a4 ++ [diffS x_2.snd.snd.snd.fst x.snd.snd.snd.fst] ++
                                          zipK fA (List.take a0.length a0) (List.take a8.length a8)
                                            (IntKind.i64.wrap (a11 + 1))).length
                                      (List.take a4.length a4 ++ [diffS x_2.snd.snd.snd.fst x.snd.snd.snd.fst] ++
                                          zipK fA (List.take a0.length a0) (List.take a8.length a8)
                                            (IntKind.i64.wrap (a11 + 1))).length
                                      false false,
                                    PV.sl 7 0 1
                                      (List.take a6.length a6 ++ [IntKind.i64.wrap (x.snd.fst - x_3.snd.fst)] ++
                                          zipK fT (List.take a0.length a0) (List.take a8.length a8)
                                            (IntKind.i64.wrap (a11 + 1))).length
                                      (List.take a6.length a6 ++ [IntKind.i64.wrap (x.snd.fst - x_3.snd.fst)] ++
                                          zipK fT (List.take a0.length a0) (List.take a8.length a8)
                                            (IntKind.i64.wrap (a11 + 1))).length
                                      false false],
                                  [Blk.row false
                                      ((Kd.int IntKind.i64).pair
                                        ((Kd.int IntKind.i64).pair
                                          ((Kd.int IntKind.i64).pair
                                            ((Kd.int IntKind.i64).pair
                                              ((Kd.int IntKind.i64).pair (Kd.int IntKind.i64))))))
                                      a0,
                                    Blk.dead, Blk.dead, Blk.dead,
                                    Blk.row false
                                      ((Kd.int IntKind.i64).pair
                                        ((Kd.int IntKind.i64).pair
                                          ((Kd.int IntKind.i64).pair
                                            ((Kd.int IntKind.i64).pair
                                              ((Kd.int IntKind.i64).pair (Kd.int IntKind.i64))))))
                                      a8,
                                    Blk.row true (Kd.int IntKind.i64)
                                      (List.take a2.length a2 ++ [IntKind.i64.wrap (x.snd.snd.fst - x_1.snd.snd.fst)] ++
                                        zipK fR (List.take a0.length a0) (List.take a8.length a8)
                                          (IntKind.i64.wrap (a11 + 1))),
                                    Blk.row true (Kd.int IntKind.i64)
                                      (List.take a4.length a4 ++ [diffS x_2.snd.snd.snd.fst x.snd.snd.snd.fst] ++
                                        zipK fA (List.take a0.length a0) (List.take a8.length a8)
                                          (IntKind.i64.wrap (a11 + 1))),
                                    Blk.row true (Kd.int IntKind.i64)
                                      (List.take a6.length a6 ++ [IntKind.i64.wrap (x.snd.fst - x_3.snd.fst)] ++
                                        zipK fT (List.take a0.length a0) (List.take a8.length a8)
                                          (IntKind.i64.wrap (a11 + 1)))])))))))))))
else
  some
    (Xt.exit 4,
      [PV.sl 5 0 1 a2.length a2.length false a3, PV.sl 6 0 1 a4.length a4.length false a5,
        PV.sl 7 0 1 a6.length a6.length false a7],
      [Blk.row false
          ((Kd.int IntKind.i64).pair
            ((Kd.int IntKind.i64).pair
              ((Kd.int IntKind.i64).pair ((Kd.int IntKind.i64).pair ((Kd.int IntKind.i64).pair (Kd.int IntKind.i64))))))
          a0,
        Blk.dead, Blk.dead, Blk.dead,
        Blk.row false
          ((Kd.int IntKind.i64).pair
            ((Kd.int IntKind.i64).pair
              ((Kd.int IntKind.i64).pair ((Kd.int IntKind.i64).pair ((Kd.int IntKind.i64).pair (Kd.int IntKind.i64))))))
          a8,
        Blk.row true (Kd.int IntKind.i64) a2, Blk.row true (Kd.int IntKind.i64) a4,
        Blk.row true (Kd.int IntKind.i64) a6])) := by kernel_rfl
noncomputable abbrev b53L (a0 : List (Int × Int × Int × Int × Int × Int)) (a1 : Bool) (a2 : List (Int × Int × Int × Int × Int × Int)) (a3 : Bool) := evFuncV Try.prog B2 (addCut 2 [4, 33, 34, 35] [5] (entC k53b c53b)
  (addCut 4 [0, 11, 12, 13, 57, 58, 59] [11, 12, 13] (entC k53d c53d) noCuts)) Try.f53 (killA 0 [rPl, rPl]) (showA 0 [rPl, rPl] ((a0, a1), ((a2, a3), ()))).1 (showA 0 [rPl, rPl] ((a0, a1), ((a2, a3), ()))).2
theorem b53 (a0 : List (Int × Int × Int × Int × Int × Int)) (a1 : Bool) (a2 : List (Int × Int × Int × Int × Int × Int)) (a3 : Bool) : b53L a0 a1 a2 a3 = (bif decide ((↑a0.length : Int) > 256) then
  some
    (PV.tup
        [PV.agg [PV.sc (Value.int IntKind.i64 0), PV.sc (Value.int IntKind.i64 0), PV.sc (Value.int IntKind.i64 0)],
          PV.sc (Value.int IntKind.i64 2)],
      [Blk.row false
          ((Kd.int IntKind.i64).pair
            ((Kd.int IntKind.i64).pair
              ((Kd.int IntKind.i64).pair ((Kd.int IntKind.i64).pair ((Kd.int IntKind.i64).pair (Kd.int IntKind.i64))))))
          a0,
        Blk.row false
          ((Kd.int IntKind.i64).pair
            ((Kd.int IntKind.i64).pair
              ((Kd.int IntKind.i64).pair ((Kd.int IntKind.i64).pair ((Kd.int IntKind.i64).pair (Kd.int IntKind.i64))))))
          a2])
else
  bif decide ((↑a2.length : Int) > 256) then
    some
      (PV.tup
          [PV.agg [PV.sc (Value.int IntKind.i64 0), PV.sc (Value.int IntKind.i64 0), PV.sc (Value.int IntKind.i64 0)],
            PV.sc (Value.int IntKind.i64 2)],
        [Blk.row false
            ((Kd.int IntKind.i64).pair
              ((Kd.int IntKind.i64).pair
                ((Kd.int IntKind.i64).pair
                  ((Kd.int IntKind.i64).pair ((Kd.int IntKind.i64).pair (Kd.int IntKind.i64))))))
            a0,
          Blk.row false
            ((Kd.int IntKind.i64).pair
              ((Kd.int IntKind.i64).pair
                ((Kd.int IntKind.i64).pair
                  ((Kd.int IntKind.i64).pair ((Kd.int IntKind.i64).pair (Kd.int IntKind.i64))))))
            a2])
  else
    guardB
      (bif decide (0 + a0.length ≤ a0.length) then pre53b (0, 0, 0) (List.take a0.length a0) (↑a0.length : Int) 0
      else false)
      (bif okP (List.drop (Int.toNat 0) (List.take a0.length a0)) then
        guardB
          (bif decide (0 + a2.length ≤ a2.length) then pre53b (0, 0, 0) (List.take a2.length a2) (↑a2.length : Int) 0
          else false)
          (bif okP (List.drop (Int.toNat 0) (List.take a2.length a2)) then
            bif (↑a0.length : Int) != (↑a2.length : Int) then
              some
                (PV.tup
                    [PV.agg
                        [PV.sc (Value.int IntKind.i64 0), PV.sc (Value.int IntKind.i64 0),
                          PV.sc (Value.int IntKind.i64 0)],
                      PV.sc (Value.int IntKind.i64 3)],
                  [Blk.row false
                      ((Kd.int IntKind.i64).pair
                        ((Kd.int IntKind.i64).pair
                          ((Kd.int IntKind.i64).pair
                            ((Kd.int IntKind.i64).pair ((Kd.int IntKind.i64).pair (Kd.int IntKind.i64))))))
                      a0,
                    Blk.row false
                      ((Kd.int IntKind.i64).pair
                        ((Kd.int IntKind.i64).pair
                          ((Kd.int IntKind.i64).pair
                            ((Kd.int IntKind.i64).pair ((Kd.int IntKind.i64).pair (Kd.int IntKind.i64))))))
                      a2])
            else
              bif (↑a2.length : Int) == 0 then
                some
                  (PV.tup
                      [PV.agg
                          [PV.sc (Value.int IntKind.i64 0), PV.sc (Value.int IntKind.i64 0),
                            PV.sc (Value.int IntKind.i64 0)],
                        PV.sc (Value.int IntKind.i64 8)],
                    [Blk.row false
                        ((Kd.int IntKind.i64).pair
                          ((Kd.int IntKind.i64).pair
                            ((Kd.int IntKind.i64).pair
                              ((Kd.int IntKind.i64).pair ((Kd.int IntKind.i64).pair (Kd.int IntKind.i64))))))
                        a0,
                      Blk.row false
                        ((Kd.int IntKind.i64).pair
                          ((Kd.int IntKind.i64).pair
                            ((Kd.int IntKind.i64).pair
                              ((Kd.int IntKind.i64).pair ((Kd.int IntKind.i64).pair (Kd.int IntKind.i64))))))
                        a2])
              else
                guardB
                  (bif decide (0 + a0.length ≤ a0.length) then
                    bif decide (0 + a2.length ≤ a2.length) then
                      preZ (List.take a0.length a0) (List.take a2.length a2) [] [] [] (↑a2.length : Int) 0
                    else false
                  else false)
                  (guardB
                    (bif
                        decide
                          (([] ++ zipK fR (List.take a0.length a0) (List.take a2.length a2) 0).length =
                            (zipK fR (List.take a0.length a0) (List.take a2.length a2) 0).length) then
                      decide
                        (1 ≤ (zipK fR (List.take a0.length a0) (List.take a2.length a2) 0).length ∧
                          (zipK fR (List.take a0.length a0) (List.take a2.length a2) 0).length ≤ 1000)
                    else false)
                    (guardB
                      (bif
                          decide
                            (([] ++ zipK fA (List.take a0.length a0) (List.take a2.length a2) 0).length =
                              (zipK fA (List.take a0.length a0) (List.take a2.length a2) 0).length) then
                        decide
                          (1 ≤ (zipK fA (List.take a0.length a0) (List.take a2.length a2) 0).length ∧
                            (zipK fA (List.take a0.length a0) (List.take a2.length a2) 0).length ≤ 1000)
                      else false)
                      (guardB
                        (bif
                            decide
                              (([] ++ zipK fT (List.take a0.length a0) (List.take a2.length a2) 0).length =
                                (zipK fT (List.take a0.length a0) (List.take a2.length a2) 0).length) then
                          decide
                            (1 ≤ (zipK fT (List.take a0.length a0) (List.take a2.length a2) 0).length ∧
                              (zipK fT (List.take a0.length a0) (List.take a2.length a2) 0).length ≤ 1000)
                        else false)
                        (bif
                            ofE
                                (mid (zipK fR (List.take a0.length a0) (List.take a2.length a2) 0),
                                  mid (zipK fA (List.take a0.length a0) (List.take a2.length a2) 0),
                                  mid (zipK fT (List.take a0.length a0) (List.take a2.length a2) 0)) !=
                              0 then
                          some
                            (PV.tup
                                [PV.agg
                                    [PV.sc (Value.int IntKind.i64 0), PV.sc (Value.int IntKind.i64 0),
                                      PV.sc (Value.int IntKind.i64 0)],
                                  PV.sc
                                    (Value.int IntKind.i64
                                      (ofE
                                        (mid (zipK fR (List.take a0.length a0) (List.take a2.length a2) 0),
                                          mid (zipK fA (List.take a0.length a0) (List.take a2.length a2) 0),
                                          mid (zipK fT (List.take a0.length a0) (List.take a2.length a2) 0))))],
                              [Blk.row false
                                  ((Kd.int IntKind.i64).pair
                                    ((Kd.int IntKind.i64).pair
                                      ((Kd.int IntKind.i64).pair
                                        ((Kd.int IntKind.i64).pair ((Kd.int IntKind.i64).pair (Kd.int IntKind.i64))))))
                                  a0,
                                Blk.row false
                                  ((Kd.int IntKind.i64).pair
                                    ((Kd.int IntKind.i64).pair
                                      ((Kd.int IntKind.i64).pair
                                        ((Kd.int IntKind.i64).pair ((Kd.int IntKind.i64).pair (Kd.int IntKind.i64))))))
                                  a2])
                        else
                          some
                            (PV.tup
                                [PV.agg
                                    [PV.sc
                                        (Value.int IntKind.i64
                                          (mid (zipK fR (List.take a0.length a0) (List.take a2.length a2) 0))),
                                      PV.sc
                                        (Value.int IntKind.i64
                                          (mid (zipK fA (List.take a0.length a0) (List.take a2.length a2) 0))),
                                      PV.sc
                                        (Value.int IntKind.i64
                                          (mid (zipK fT (List.take a0.length a0) (List.take a2.length a2) 0)))],
                                  PV.sc (Value.int IntKind.i64 0)],
                              [Blk.row false
                                  ((Kd.int IntKind.i64).pair
                                    ((Kd.int IntKind.i64).pair
                                      ((Kd.int IntKind.i64).pair
                                        ((Kd.int IntKind.i64).pair ((Kd.int IntKind.i64).pair (Kd.int IntKind.i64))))))
                                  a0,
                                Blk.row false
                                  ((Kd.int IntKind.i64).pair
                                    ((Kd.int IntKind.i64).pair
                                      ((Kd.int IntKind.i64).pair
                                        ((Kd.int IntKind.i64).pair ((Kd.int IntKind.i64).pair (Kd.int IntKind.i64))))))
                                  a2])))))
          else
            some
              (PV.tup
                  [PV.agg
                      [PV.sc (Value.int IntKind.i64 0), PV.sc (Value.int IntKind.i64 0),
                        PV.sc (Value.int IntKind.i64 0)],
                    PV.sc (Value.int IntKind.i64 4)],
                [Blk.row false
                    ((Kd.int IntKind.i64).pair
                      ((Kd.int IntKind.i64).pair
                        ((Kd.int IntKind.i64).pair
                          ((Kd.int IntKind.i64).pair ((Kd.int IntKind.i64).pair (Kd.int IntKind.i64))))))
                    a0,
                  Blk.row false
                    ((Kd.int IntKind.i64).pair
                      ((Kd.int IntKind.i64).pair
                        ((Kd.int IntKind.i64).pair
                          ((Kd.int IntKind.i64).pair ((Kd.int IntKind.i64).pair (Kd.int IntKind.i64))))))
                    a2]))
      else
        some
          (PV.tup
              [PV.agg
                  [PV.sc (Value.int IntKind.i64 0), PV.sc (Value.int IntKind.i64 0), PV.sc (Value.int IntKind.i64 0)],
                PV.sc (Value.int IntKind.i64 4)],
            [Blk.row false
                ((Kd.int IntKind.i64).pair
                  ((Kd.int IntKind.i64).pair
                    ((Kd.int IntKind.i64).pair
                      ((Kd.int IntKind.i64).pair ((Kd.int IntKind.i64).pair (Kd.int IntKind.i64))))))
                a0,
              Blk.row false
                ((Kd.int IntKind.i64).pair
                  ((Kd.int IntKind.i64).pair
                    ((Kd.int IntKind.i64).pair
                      ((Kd.int IntKind.i64).pair ((Kd.int IntKind.i64).pair (Kd.int IntKind.i64))))))
                a2]))) := by kernel_rfl
theorem len_true {α : Type} {l : List α} : decide (l.length ≤ l.length) = true := decide_eq_true (Nat.le_refl _)
theorem len_same {α : Type} {l : List α} : decide (l.length = l.length) = true := decide_eq_true rfl
theorem get_ex {α : Type} {l : List α} {k : Nat} (h : k < l.length) : ∃ x, l[k]? = some x := ⟨_, List.getElem?_eq_getElem h⟩
theorem drop_cons {α : Type} {l : List α} {k : Nat} {x : α} (h : l[k]? = some x) : l.drop k = x :: l.drop (k + 1) := by
  obtain ⟨hk, rfl⟩ := List.getElem?_eq_some_iff.1 h
  exact List.drop_eq_getElem_cons hk
/-! ### Medians -/
theorem ltC_app (a b : List Int) (x : Int) : ltC (a ++ b) x = ltC a x + ltC b x := by unfold ltC; rw [List.filter_append, List.length_append]
theorem eqC_app (a b : List Int) (x : Int) : eqC (a ++ b) x = eqC a x + eqC b x := by unfold eqC; rw [List.filter_append, List.length_append]
theorem ltC_cons (y : Int) (b : List Int) (x : Int) : ltC (y :: b) x = (if y < x then 1 else 0) + ltC b x := by
  unfold ltC
  by_cases h : y < x
  · rw [List.filter_cons_of_pos (by simpa using h), if_pos h, List.length_cons]; omega
  · rw [List.filter_cons_of_neg (by simpa using h), if_neg h]; omega
theorem eqC_cons (y : Int) (b : List Int) (x : Int) : eqC (y :: b) x = (if y = x then 1 else 0) + eqC b x := by
  unfold eqC
  by_cases h : y = x
  · rw [List.filter_cons_of_pos (by simpa using h), if_pos h, List.length_cons]; omega
  · rw [List.filter_cons_of_neg (by simpa using h), if_neg h]; omega
theorem ltC_zero {x : Int} : ∀ {l : List Int}, (∀ y ∈ l, x ≤ y) → ltC l x = 0
  | [], _ => rfl
  | y :: r, h => by
    have := h y (by simp)
    rw [ltC_cons, if_neg (by omega), ltC_zero (fun z hz => h z (by simp [hz]))]
theorem le_all {x : Int} : ∀ {l : List Int}, (∀ y ∈ l, y ≤ x) → ltC l x + eqC l x = l.length
  | [], _ => rfl
  | y :: r, h => by
    have := h y (by simp)
    have ih := le_all (fun z hz => h z (List.mem_cons_of_mem y hz))
    rw [ltC_cons, eqC_cons, List.length_cons]
    by_cases k : y < x
    · rw [if_pos k, if_neg (by omega)]; omega
    · rw [if_neg k, if_pos (by omega)]; omega
theorem lt_mono {x y : Int} (h : y < x) : ∀ (l : List Int), ltC l y + eqC l y ≤ ltC l x
  | [] => Nat.le_refl 0
  | z :: r => by
    have ih := lt_mono h r
    rw [ltC_cons, eqC_cons, ltC_cons]
    by_cases k : z < y
    · rw [if_pos k, if_neg (by omega), if_pos (by omega)]; omega
    · by_cases k2 : z = y
      · rw [if_neg k, if_pos k2, if_pos (by omega)]; omega
      · rw [if_neg k, if_neg k2]; omega
theorem lt_len (l : List Int) (x : Int) : ltC l x ≤ l.length := List.length_filter_le _ _
theorem eq_len (l : List Int) (x : Int) : eqC l x ≤ l.length := List.length_filter_le _ _
theorem srt_at {l : List Int} {k : Nat} {x : Int} (h : (srt l)[k]? = some x) : ltC l x ≤ k ∧ k < ltC l x + eqC l x := by
  have hp : (srt l).Perm l := List.mergeSort_perm _ _
  have hs : (srt l).Pairwise (fun a b => decide (a ≤ b) = true) := List.pairwise_mergeSort (fun a b c h1 h2 => by simp at h1 h2 ⊢; omega) (fun a b => by simp; omega) l
  have e1 : ltC l x = ltC (srt l) x := (hp.symm.filter _).length_eq
  have e2 : eqC l x = eqC (srt l) x := (hp.symm.filter _).length_eq
  rw [e1, e2]
  generalize srt l = s at h hs
  have hd := drop_cons h
  have hk := (List.getElem?_eq_some_iff.1 h).1
  have hsp : s = s.take k ++ x :: s.drop (k + 1) := by rw [← hd, List.take_append_drop]
  rw [hsp, List.pairwise_append] at hs
  obtain ⟨_, g1, g2⟩ := hs
  have g1 := (List.pairwise_cons.1 g1).1
  have a1 : ∀ y ∈ s.take k, y ≤ x := fun y hy => by simpa using g2 y hy x (by simp)
  have a2 : ∀ y ∈ s.drop (k + 1), x ≤ y := fun y hy => by simpa using g1 y hy
  have b1 := le_all a1
  have b2 := ltC_zero a2
  rw [List.length_take, Nat.min_eq_left (by omega)] at b1
  have b3 := lt_len (s.take k) x
  rw [List.length_take, Nat.min_eq_left (by omega)] at b3
  rw [hsp, ltC_app, eqC_app, ltC_cons, eqC_cons, if_neg (by omega), if_pos rfl, b2]
  omega
theorem srt_mid {l : List Int} (h : 1 ≤ l.length) : (srt l)[(l.length - 1) / 2]? = some (mid l) := by
  obtain ⟨x, hx⟩ := get_ex (l := srt l) (k := (l.length - 1) / 2) (by rw [srt_len]; omega)
  have hm := srt_at hx
  have hxl : x ∈ l := (List.mergeSort_perm l _).mem_iff.1 (List.mem_of_getElem? hx)
  have hex : ∃ y, l.find? (midP l) = some y := by
    cases hf : l.find? (midP l) with
    | some y => exact ⟨y, rfl⟩
    | none => exact absurd (decide_eq_true hm) (by simpa [midP] using List.find?_eq_none.1 hf x hxl)
  obtain ⟨y, hy⟩ := hex
  have hyp : midP l y = true := List.find?_some hy
  have hyp : ltC l y ≤ (l.length - 1) / 2 ∧ (l.length - 1) / 2 < ltC l y + eqC l y := of_decide_eq_true hyp
  have : y = x := by
    rcases Int.lt_trichotomy y x with h1 | h1 | h1
    · have := lt_mono h1 l; omega
    · exact h1
    · have := lt_mono h1 l; omega
  rw [hx]; unfold mid; rw [hy, this]; rfl
set_option maxHeartbeats 4000000 in
theorem h97 (a b c d e f : Int) (z4 z0 : Option (PV × List Blk)) : (bif decide (a < 0) then z4 else bif decide (a > 255) then z4 else bif decide (b < 0) then z4 else bif decide (b > 200000) then z4 else bif decide (c < 0) then z4 else bif decide (c > 2000000) then z4 else bif decide (d < 0) then z4 else bif decide (d > 4095) then z4 else bif decide (e < 0) then z4 else bif decide (e > 60000) then z4 else bif decide (f < -1) then z4 else bif decide (f > 4095) then z4 else z0) = bif decide (plN a b c d e f) then z0 else z4 := by
  simp only [Bool.cond_decide]
  repeat' split
  all_goals first | rfl | (exfalso; omega)
set_option maxHeartbeats 4000000 in
theorem h54 (a b c d e f : Int) (z4 z0 : Option (PV × List Blk)) : (bif inS a 0 255 then bif inS b 0 200000 then bif inS c 0 2000000 then bif inS d 0 4095 then bif inS e 0 60000 then bif inS f (-1) 4095 then z0 else z4 else z4 else z4 else z4 else z4 else z4) = bif decide (plN a b c d e f) then z0 else z4 := by
  unfold inS
  simp only [Bool.cond_decide]
  repeat' split
  all_goals first | rfl | (exfalso; omega)
theorem h57 (a b c : Int) (z4 z0 : Option (PV × List Blk)) : (bif decide (a < -10000) then z4 else bif decide (a > 10000) then z4 else bif decide (b < -2047) then z4 else bif decide (b > 2048) then z4 else bif decide (c < -1000) then z4 else bif decide (c > 1000) then z4 else z0) = bif decide (ofN a b c) then z0 else z4 := by
  simp only [Bool.cond_decide]
  repeat' split
  all_goals first | rfl | (exfalso; omega)
theorem pl_cond (x : Bool) : (bif x then some (PV.sc (.int .i64 0), ([] : List Blk)) else some (PV.sc (.int .i64 4), [])) = some (PV.sc (.int .i64 (bif x then 0 else 4)), []) := by cases x <;> rfl
theorem q97 (p : Pl) : b97L p = some (.sc (.int .i64 (plE p)), []) := by
  rw [b97]
  exact (h97 p.1 p.2.1 p.2.2.1 p.2.2.2.1 p.2.2.2.2.1 p.2.2.2.2.2 _ _).trans (pl_cond _)
theorem q54 (p : Pl) : b54L p = some (.sc (.int .i64 (plE p)), []) := by
  rw [b54]
  exact (h54 p.1 p.2.1 p.2.2.1 p.2.2.2.1 p.2.2.2.2.1 p.2.2.2.2.2 _ _).trans (pl_cond _)
theorem q57 (o : Of) : b57L o = some (.sc (.int .i64 (ofE o)), []) := by
  rw [b57]
  exact (h57 o.1 o.2.1 o.2.2 _ _).trans (pl_cond _)
theorem q126 (n : Int) (h : -4096 ≤ n ∧ n ≤ 4096) : b126L n = some (.sc (.int .i64 (normS n)), []) := by
  rw [b126]
  have e : ((BitVec.ofInt IntKind.i64.bits n &&& BitVec.ofInt IntKind.i64.bits 4095).toNat : Int) = n % 4096 := by
    rw [BitVec.toNat_and, BitVec.toNat_ofInt, BitVec.toNat_ofInt]
    rw [show ((4095 : Int) % ((2 ^ IntKind.i64.bits : Nat) : Int)).toNat = 2 ^ 12 - 1 from rfl, Nat.and_two_pow_sub_one_eq_mod]
    rw [show ((2 ^ IntKind.i64.bits : Nat) : Int) = 18446744073709551616 from rfl]
    omega
  rw [e, show IntKind.i64.wrap (n % 4096) = n % 4096 from W_id _ (by omega) (by omega)]; rfl
theorem norm_rng (n : Int) : 0 ≤ normS n ∧ normS n < 4096 := ⟨Int.emod_nonneg _ (by decide), Int.emod_lt_of_pos _ (by decide)⟩
theorem q98 (a b : Int) (h : preAz a b = true) : b98L a b = some (.sc (.int .i64 (diffS a b)), []) := by
  obtain ⟨h1, h2, h3, h4⟩ := of_decide_eq_true h
  rw [b98]
  have hw : IntKind.i64.wrap (b - a) = b - a := W_id _ (by omega) (by omega)
  have hn := norm_rng (b - a)
  rw [hw]
  refine guard_split (decide_eq_true ⟨by omega, by omega⟩) ?_
  unfold diffS
  refine cond_split (fun hc => ?_) (fun hc => by rw [hc]; rfl)
  rw [hc, show IntKind.i64.wrap (normS (b - a) - 4096) = normS (b - a) - 4096 from W_id _ (by omega) (by omega)]; rfl
theorem diff_rng (a b : Int) : -2047 ≤ diffS a b ∧ diffS a b ≤ 2048 ∧ ∃ q, b - a = diffS a b + 4096 * q := by
  have hn := norm_rng (b - a)
  have he : 4096 * ((b - a) / 4096) + normS (b - a) = b - a := Int.mul_ediv_add_emod (b - a) 4096
  unfold diffS
  by_cases h : normS (b - a) > 2048
  · rw [decide_eq_true h]; simp only [cond_true]
    exact ⟨by omega, by omega, (b - a) / 4096 + 1, by omega⟩
  · rw [decide_eq_false h]; simp only [cond_false]
    exact ⟨by omega, by omega, (b - a) / 4096, by omega⟩
theorem q55l (a b d : Int) (h : pre55 a b d = true) : b55lL a b d = some (.ret, [.sc (.int .i64 (diffS a b))], []) := by
  obtain ⟨⟨h1, h2, h3, h4⟩, h5, h6⟩ := of_decide_eq_true h
  obtain ⟨g1, g2, q, g3⟩ := diff_rng a b
  rw [b55l]
  have w1 : IntKind.i64.wrap (b - a) = b - a := W_id _ (by omega) (by omega)
  have w2 : IntKind.i64.wrap (b - a - d) = b - a - d := W_id _ (by omega) (by omega)
  have t1 : -4096 < (b - a - d).tmod 4096 ∧ (b - a - d).tmod 4096 < 4096 := ⟨Int.lt_tmod_of_pos _ (by decide), Int.tmod_lt_of_pos _ (by decide)⟩
  have t2 := Int.mul_tdiv_add_tmod (b - a - d) 4096
  have w3 : IntKind.i64.wrap ((b - a - d).tmod 4096 + 4096) = (b - a - d).tmod 4096 + 4096 := W_id _ (by omega) (by omega)
  have w4 : IntKind.i64.wrap (d + 1) = d + 1 := W_id _ (by omega) (by omega)
  rw [w1, w2, w3, w4, decide_eq_true (show d ≤ 2048 by omega), Int.tmod_eq_emod_of_nonneg (show 0 ≤ (b - a - d).tmod 4096 + 4096 by omega)]
  simp only [cond_true]
  refine cond_split (fun hc => ?_) (fun hc => ?_)
  · have hc : ((b - a - d).tmod 4096 + 4096) % 4096 = 0 := by simpa using hc
    have : d = diffS a b := by omega
    rw [this]
  · have hc : ((b - a - d).tmod 4096 + 4096) % 4096 ≠ 0 := by simpa using hc
    have hne : d ≠ diffS a b := fun e => hc (by omega)
    refine guard_split (decide_eq_true ?_) (guard_split (decide_eq_true ⟨⟨h1, h2, h3, h4⟩, by omega, by omega⟩) rfl)
    show (2049 - (d + 1)).toNat < (2049 - d).toNat
    omega
theorem q55 (a b : Int) (h : preAz a b = true) : b55L a b = some (.sc (.int .i64 (diffS a b)), []) := by
  rw [b55]
  exact guard_split (decide_eq_true ⟨of_decide_eq_true h, by omega, (diff_rng a b).1⟩) rfl
theorem q56b (x a b : Int) (l : List Int) (nl : Bool) (n k : Int) (h : pre56b l a b n k = true) :
    b56bL x a b l nl n k = some (.exit 2, [.sc (.int .i64 (a + (ltC (l.drop k.toNat) x : Nat))), .sc (.int .i64 (b + (eqC (l.drop k.toNat) x : Nat)))], [.row false I l]) := by
  obtain ⟨h1, h2, h3, h4, h5, h6, h7, h8⟩ := of_decide_eq_true h
  rw [b56b]
  simp only [List.take_length, Nat.zero_add, len_true, cond_true]
  refine cond_split (fun hk => ?_) (fun hk => ?_)
  · have hk := of_decide_eq_true hk
    obtain ⟨y, hy⟩ := get_ex (l := l) (k := k.toNat) (by omega)
    have w1 : IntKind.i64.wrap (k + 1) = k + 1 := W_id _ (by omega) (by omega)
    have w2 : IntKind.i64.wrap (a + 1) = a + 1 := W_id _ (by omega) (by omega)
    have w3 : IntKind.i64.wrap (b + 1) = b + 1 := W_id _ (by omega) (by omega)
    rw [hy, w1, w2, w3, drop_cons hy, ltC_cons, eqC_cons, show (k + 1).toNat = k.toNat + 1 by omega]
    refine guard_split (by simp; omega) ?_
    simp only [bindO]
    have hmu : ∀ a' b' : Int, decide (mu56b (x, a', b', (l, nl), n, k + 1, PUnit.unit) < mu56b (x, a, b, (l, nl), n, k, ())) = true := fun a' b' => decide_eq_true (show (n - (k + 1)).toNat < (n - k).toNat by omega)
    have r1 : a + ((1 + ltC (l.drop (k.toNat + 1)) x : Nat) : Int) = a + 1 + (ltC (l.drop (k.toNat + 1)) x : Nat) := by omega
    have r2 : a + ((0 + ltC (l.drop (k.toNat + 1)) x : Nat) : Int) = a + (ltC (l.drop (k.toNat + 1)) x : Nat) := by omega
    have r3 : b + ((1 + eqC (l.drop (k.toNat + 1)) x : Nat) : Int) = b + 1 + (eqC (l.drop (k.toNat + 1)) x : Nat) := by omega
    have r4 : b + ((0 + eqC (l.drop (k.toNat + 1)) x : Nat) : Int) = b + (eqC (l.drop (k.toNat + 1)) x : Nat) := by omega
    refine cond_split (fun hc => ?_) (fun hc => ?_)
    · have hc := of_decide_eq_true hc
      rw [if_pos hc, if_neg (by omega), show (y == x) = false by simp; omega]
      refine guard_split (hmu _ _) (guard_split (decide_eq_true ⟨h1, h2, by omega, by omega, by omega, by omega, by omega, by omega⟩) ?_)
      rw [r1, r4]
    · have hc := of_decide_eq_false hc
      rw [if_neg hc]
      refine cond_split (fun hd => ?_) (fun hd => ?_)
      · have hd : y = x := by simpa using hd
        rw [if_pos hd]
        refine guard_split (hmu _ _) (guard_split (decide_eq_true ⟨h1, h2, by omega, by omega, by omega, by omega, by omega, by omega⟩) ?_)
        rw [r2, r3]
      · have hd : y ≠ x := by simpa using hd
        rw [if_neg hd]
        refine guard_split (hmu _ _) (guard_split (decide_eq_true ⟨h1, h2, by omega, by omega, by omega, by omega, by omega, by omega⟩) ?_)
        rw [r2, r4]
  · have hk := of_decide_eq_false hk
    rw [List.drop_eq_nil_of_le (by omega)]
    show _ = some (Xt.exit 2, [PV.sc (.int .i64 (a + 0)), PV.sc (.int .i64 (b + 0))], _)
    rw [Int.add_zero, Int.add_zero]
abbrev RI2 (l l2 : List Int) : List Blk := [.row false I l, .row false I l2]
theorem q56a (l : List Int) (nl : Bool) (l2 : List Int) (nl2 : Bool) (n k : Int) (h : pre56a l l2 n k = true) :
    b56aL l nl l2 nl2 n k = cond ((l.drop k.toNat).find? (midP l)).isNone (some (.exit 0, [.undef], RI2 l l2)) (some (.ret, [.sc (.int .i64 (((l.drop k.toNat).find? (midP l)).getD 0))], RI2 l l2)) := by
  obtain ⟨rfl, h2, h3, h4, h5⟩ := bp_true.1 h
  rw [b56a]
  simp only [List.take_length, Nat.zero_add, len_true, cond_true]
  refine cond_split (fun hk => ?_) (fun hk => ?_)
  · have hk := of_decide_eq_true hk
    obtain ⟨x, hx⟩ := get_ex (l := l2) (k := k.toNat) (by omega)
    have w1 : IntKind.i64.wrap (k + 1) = k + 1 := W_id _ (by omega) (by omega)
    have w2 : IntKind.i64.wrap ((l2.length : Int) - 1) = (l2.length : Int) - 1 := W_id _ (by omega) (by omega)
    have w3 : ((l2.length : Int) - 1).tdiv 2 = ((l2.length - 1) / 2 : Nat) := by rw [Int.tdiv_eq_ediv_of_nonneg (by omega)]; omega
    have w4 : IntKind.i64.wrap (((l2.length - 1) / 2 : Nat) : Int) = ((l2.length - 1) / 2 : Nat) := W_id _ (by omega) (by omega)
    have c1 := lt_len l2 x
    have c2 := eq_len l2 x
    rw [hx, w1, w2, w3, w4, drop_cons hx, List.find?_cons]
    rw [show l2.drop (Int.toNat 0) = l2 from rfl]
    have w5 : IntKind.i64.wrap (0 + (ltC l2 x : Int) + (0 + (eqC l2 x : Int))) = (ltC l2 x : Int) + eqC l2 x := by rw [Int.zero_add, Int.zero_add]; exact W_id _ (by omega) (by omega)
    refine guard_split (by simp; omega) ?_
    simp only [bindO]
    rw [w5, Int.zero_add]
    refine guard_split (decide_eq_true ⟨h2, rfl, by omega, by omega, by omega, by omega, by omega, by omega⟩) ?_
    have hmu : decide (mu56a ((l2, nl), (l2, nl2), n, k + 1, PUnit.unit) < mu56a ((l2, nl), (l2, nl2), n, k, ())) = true := decide_eq_true (show (n - (k + 1)).toNat < (n - k).toNat by omega)
    have hpr : pre56a l2 l2 n (k + 1) = true := bp_mk ⟨rfl, h2, h3, by omega, by omega⟩
    refine cond_split (fun hc => ?_) (fun hc => ?_)
    · have hc := of_decide_eq_true hc
      refine cond_split (fun hd => ?_) (fun hd => ?_)
      · have hd := of_decide_eq_true hd
        rw [show midP l2 x = true from decide_eq_true ⟨by omega, by omega⟩]; rfl
      · have hd := of_decide_eq_false hd
        rw [show midP l2 x = false from decide_eq_false (fun g => hd (by omega)), show k.toNat + 1 = (k + 1).toNat by omega]
        exact guard_split hmu (guard_split hpr rfl)
    · have hc := of_decide_eq_false hc
      rw [show midP l2 x = false from decide_eq_false (fun g => hc (by omega)), show k.toNat + 1 = (k + 1).toNat by omega]
      exact guard_split hmu (guard_split hpr rfl)
  · have hk := of_decide_eq_false hk
    rw [List.drop_eq_nil_of_le (by omega)]; rfl
theorem q56 (l : List Int) (nl : Bool) (h : 1 ≤ l.length ∧ l.length ≤ 1000) : b56L l nl = some (.sc (.int .i64 (mid l)), [.row false I l]) := by
  rw [b56]
  simp only [List.take_length, Nat.zero_add, len_true, cond_true]
  refine guard_split (bp_mk ⟨rfl, h.2, rfl, by omega, by omega⟩) ?_
  rw [show l.drop (Int.toNat 0) = l from rfl]
  unfold mid
  cases l.find? (midP l) <;> rfl
theorem q99 (l : List Int) (nl : Bool) (h : 1 ≤ l.length ∧ l.length ≤ 1000) : b99L l nl = some (.sc (.int .i64 (mid l)), [.row true I (srt l)]) := by
  rw [b99]
  simp only [Nat.zero_add, len_same, cond_true]
  have w2 : IntKind.i64.wrap ((l.length : Int) - 1) = (l.length : Int) - 1 := W_id _ (by omega) (by omega)
  have w3 : ((l.length : Int) - 1).tdiv 2 = ((l.length - 1) / 2 : Nat) := by rw [Int.tdiv_eq_ediv_of_nonneg (by omega)]; omega
  have w4 : IntKind.i64.wrap (((l.length - 1) / 2 : Nat) : Int) = ((l.length - 1) / 2 : Nat) := W_id _ (by omega) (by omega)
  rw [w2, w3, w4, show ((((l.length - 1) / 2 : Nat) : Int)).toNat = (l.length - 1) / 2 from rfl, srt_mid h.1]
  exact guard_split (decide_eq_true h) (guard_split (by simp; omega) rfl)
theorem B1_ok : TableOK Try.prog B1 :=
  ext_ok (entV_ok Try.call97 (liftV T2_ok mixed Try.func97 (show Try.f97.body = some (bodyF Try.f97) from rfl) (noCuts_ok _) (by decide) fun v h => q97 v.1))
  (ext_ok (entV_ok Try.call54 (liftV T2_ok mixed Try.func54 (show Try.f54.body = some (bodyF Try.f54) from rfl) (noCuts_ok _) (by decide) fun v h => q54 v.1))
  (ext_ok (entV_ok Try.call57 (liftV T2_ok mixed Try.func57 (show Try.f57.body = some (bodyF Try.f57) from rfl) (noCuts_ok _) (by decide) fun v h => q57 v.1))
  (ext_ok (entV_ok Try.call126 (liftV T2_ok mixed Try.func126 (show Try.f126.body = some (bodyF Try.f126) from rfl) (noCuts_ok _) (by decide) fun v h => q126 v.1 (of_decide_eq_true h)))
  (ext_ok e102 T2_ok))))
theorem in55 : CutOK Try.prog Try.f55.ntmps (codeAt 0 (bodyF Try.f55)) [0, 1, 5] [4] (entC k55 c55) := loop_cutW (kill := killA 0 k55) B1_ok mixed mu55 (by kernel_rfl) (noCuts_ok _) fun v h => q55l v.1 v.2.1 v.2.2.1 h
theorem in56b : CutOK Try.prog Try.f56.ntmps (codeAt 2 (bodyF Try.f56)) [4, 5, 6, 16, 17, 18] [5, 6] (entC k56b c56b) := loop_cutW (kill := killA 0 k56b) B1_ok mixed mu56b (by kernel_rfl) (noCuts_ok _) fun v h => q56b v.1 v.2.1 v.2.2.1 v.2.2.2.1.1 v.2.2.2.1.2 v.2.2.2.2.1 v.2.2.2.2.2.1 h
theorem in56a : CutOK Try.prog Try.f56.ntmps (codeAt 0 (bodyF Try.f56)) [0, 10, 11, 12] [2] (entC k56a c56a) := loop_cutW (kill := killA 0 k56a) B1_ok mixed mu56a (by kernel_rfl) (cut_cons (by kernel_rfl) in56b (noCuts_ok _)) fun v h => q56a v.1.1 v.1.2 v.2.1.1 v.2.1.2 v.2.2.1 v.2.2.2.1 h
theorem B2_ok : TableOK Try.prog B2 :=
  ext_ok (entV_ok Try.call98 (liftV B1_ok mixed Try.func98 (show Try.f98.body = some (bodyF Try.f98) from rfl) (noCuts_ok _) (by decide) fun v h => q98 v.1 v.2.1 h))
  (ext_ok (entV_ok Try.call55 (liftV B1_ok mixed Try.func55 (show Try.f55.body = some (bodyF Try.f55) from rfl) (cut_cons (by kernel_rfl) in55 (noCuts_ok _)) (by decide) fun v h => q55 v.1 v.2.1 h))
  (ext_ok (entV_ok Try.call56 (liftV B1_ok mixed Try.func56 (show Try.f56.body = some (bodyF Try.f56) from rfl) (cut_cons (by kernel_rfl) in56a (noCuts_ok _)) (by decide) fun v h => q56 v.1.1 v.1.2 (of_decide_eq_true h)))
  (ext_ok (entV_ok Try.call99 (liftV B1_ok mixed Try.func99 (show Try.f99.body = some (bodyF Try.f99) from rfl) (noCuts_ok _) (by decide) fun v h => q99 v.1.1 v.1.2 (of_decide_eq_true h))) B1_ok)))
/-! ### Estimate -/
abbrev pvZ : List PV := [.sc (.int .i64 0), .sc (.int .i64 0), .sc (.int .i64 0)]
abbrev pvOf (o : Of) : List PV := [.sc (.int .i64 o.1), .sc (.int .i64 o.2.1), .sc (.int .i64 o.2.2)]
theorem ok_cons (x : Pl) (r : List Pl) : okP (x :: r) = (decide (plE x = 0) && okP r) := rfl
theorem pl_no {p : Pl} (h : plE p ≠ 0) : plE p = 4 := by
  unfold plE plX at h ⊢
  cases hd : decide (plN p.1 p.2.1 p.2.2.1 p.2.2.2.1 p.2.2.2.2.1 p.2.2.2.2.2) with
  | true => rw [hd] at h; exact absurd rfl h
  | false => rfl
theorem q53b (o : Of) (l : List Pl) (nl : Bool) (n k : Int) (h : pre53b o l n k = true) :
    b53bL o l nl n k = cond (okP (l.drop k.toNat)) (some (.exit 2, [.undef], [.fix true (pvOf o), .row false kPl l])) (some (.ret, [.sc (.int .i64 4)], [.fix true (pvOf o), .row false kPl l])) := by
  obtain ⟨rfl, h2, h3, h4, h5⟩ := bp_true.1 h
  rw [b53b]
  simp only [List.take_length, Nat.zero_add, len_true, cond_true]
  refine cond_split (fun hk => ?_) (fun hk => ?_)
  · have hk := of_decide_eq_true hk
    obtain ⟨x, hx⟩ := get_ex (l := l) (k := k.toNat) (by omega)
    have hw : IntKind.i64.wrap (k + 1) = k + 1 := W_id _ (by omega) (by omega)
    rw [hx, hw, drop_cons hx, ok_cons]
    refine guard_split (by simp; omega) ?_
    simp only [bindO]
    refine cond_split (fun hc => ?_) (fun hc => ?_)
    · have hc : plE x ≠ 0 := by simpa using hc
      rw [decide_eq_false hc, pl_no hc]; rfl
    have hc : plE x = 0 := by simpa using hc
    rw [decide_eq_true hc, Bool.true_and, show k.toNat + 1 = (k + 1).toNat by omega]
    refine guard_split (decide_eq_true ?_) (guard_split (bp_mk ⟨rfl, h2, h3, by omega, by omega⟩) rfl)
    show (n - (k + 1)).toNat < (n - k).toNat
    omega
  · have hk := of_decide_eq_false hk
    rw [List.drop_eq_nil_of_le (by omega)]; rfl
theorem zip_step {f : Pl → Pl → Int} {a b : List Pl} {k : Int} {p q : Pl} (h0 : 0 ≤ k) (hp : a[k.toNat]? = some p) (hq : b[k.toNat]? = some q) : zipK f a b k = f p q :: zipK f a b (k + 1) := by
  unfold zipK
  rw [drop_cons hp, drop_cons hq, show (k + 1).toNat = k.toNat + 1 by omega]; rfl
theorem zip_end {f : Pl → Pl → Int} {a b : List Pl} {k : Int} (h : (b.length : Int) ≤ k) : zipK f a b k = [] := by
  unfold zipK; rw [List.drop_eq_nil_of_le (show b.length ≤ k.toNat by omega), List.zipWith_nil_right]
theorem zip_len {f : Pl → Pl → Int} {a b : List Pl} (h : a.length = b.length) : (zipK f a b 0).length = b.length := by
  unfold zipK
  rw [List.length_zipWith, List.length_drop, List.length_drop, h]
  show min (b.length - 0) (b.length - 0) = b.length
  omega
theorem az_of {l : List Pl} {k : Nat} {p : Pl} (h : okP l = true) (hp : l[k]? = some p) : @LE.le Int _ 0 p.2.2.2.1 ∧ @LE.le Int _ p.2.2.2.1 4095 := by
  have := List.all_eq_true.1 h p (List.mem_of_getElem? hp)
  have this : plE p = 0 := of_decide_eq_true this
  by_cases k : plN p.1 p.2.1 p.2.2.1 p.2.2.2.1 p.2.2.2.2.1 p.2.2.2.2.2
  · exact ⟨k.2.2.2.2.2.2.1, k.2.2.2.2.2.2.2.1⟩
  · unfold plE plX at this; rw [decide_eq_false k] at this; exact absurd (show (4 : Int) = 0 from this) (by decide)
abbrev slI (n : Nat) (l : List Int) (nl : Bool) : PV := .sl n 0 1 l.length l.length false nl
theorem q53d (a : List Pl) (al : Bool) (x : List Int) (xl : Bool) (y : List Int) (yl : Bool) (z : List Int) (zl : Bool) (b : List Pl) (bl : Bool) (n k : Int) (h : preZ a b x y z n k = true) :
    b53dL a al x xl y yl z zl b bl n k = some (.exit 4, [slI 5 (x ++ zipK fR a b k) (xl && decide (n ≤ k)), slI 6 (y ++ zipK fA a b k) (yl && decide (n ≤ k)), slI 7 (z ++ zipK fT a b k) (zl && decide (n ≤ k))], [.row false kPl a, .dead, .dead, .dead, .row false kPl b, .row true I (x ++ zipK fR a b k), .row true I (y ++ zipK fA a b k), .row true I (z ++ zipK fT a b k)]) := by
  obtain ⟨h1, h2, h3, h4, h5, h6, h7, h8, h9, h10⟩ := bp_true.1 h
  rw [b53d]
  simp only [List.take_length, Nat.zero_add, len_true, len_same, cond_true]
  refine cond_split (fun hk => ?_) (fun hk => ?_)
  · have hk := of_decide_eq_true hk
    obtain ⟨q, hq⟩ := get_ex (l := b) (k := k.toNat) (by omega)
    obtain ⟨p, hp⟩ := get_ex (l := a) (k := k.toNat) (by omega)
    have hw : IntKind.i64.wrap (k + 1) = k + 1 := W_id _ (by omega) (by omega)
    have z1 := az_of h2 hp
    have z2 := az_of h3 hq
    have haz : preAz p.2.2.2.1 q.2.2.2.1 = true := decide_eq_true ⟨z1.1, z1.2, z2.1, z2.2⟩
    rw [hp, hq, hw, zip_step h6 hp hq, zip_step h6 hp hq, zip_step h6 hp hq, decide_eq_false (show ¬ n ≤ k by omega)]
    have ga : (decide (0 ≤ k) && decide (k < (a.length : Int))) = true := by simp; omega
    have gb : (decide (0 ≤ k) && decide (k < (b.length : Int))) = true := by simp; omega
    have gl : ∀ (w : List Int), w.length ≤ k → (true && true && decide ((w.length + 1) * 8 ≤ 140737488355328) && decide (w.length + 1 ≤ 4611686018427387904)) = true := fun w hw => by simp; omega
    have ls : ∀ (w : List Int) (i : Int), decide (w.length + 1 = (w ++ [i]).length) = true := fun w i => decide_eq_true (by simp)
    rw [ga, gb, gl x h8, gl y h9, gl z h10]
    simp only [bindO]
    rw [ls, ls, ls]
    refine guard_split rfl (guard_split rfl (guard_split rfl (guard_split rfl (guard_split haz (guard_split rfl (guard_split rfl (guard_split rfl (guard_split (decide_eq_true ?_) (guard_split (bp_mk ⟨h1, h2, h3, h4, h5, by omega, by omega, ?_, ?_, ?_⟩) ?_)))))))))
    · show (n - (k + 1)).toNat < (n - k).toNat
      omega
    · rw [List.length_append]; simp; omega
    · rw [List.length_append]; simp; omega
    · rw [List.length_append]; simp; omega
    · simp only [Bool.and_false, List.append_assoc, List.singleton_append]; rfl
  · have hk := of_decide_eq_false hk
    rw [zip_end (by omega), zip_end (by omega), zip_end (by omega), decide_eq_true (show n ≤ k by omega)]
    simp only [List.append_nil, Bool.and_true]
theorem q53 (a : List Pl) (al : Bool) (b : List Pl) (bl : Bool) : b53L a al b bl = some (.tup [.agg (pvOf (estV a b)), .sc (.int .i64 (estE a b))], [.row false kPl a, .row false kPl b]) := by
  rw [b53]
  simp only [List.take_length, Nat.zero_add, len_true, len_same, cond_true, List.nil_append]
  have bad : ∀ (c : Int), estE a b = c → c ≠ 0 → some (PV.tup [.agg pvZ, .sc (.int .i64 c)], [Blk.row false kPl a, Blk.row false kPl b]) = some (.tup [.agg (pvOf (estV a b)), .sc (.int .i64 (estE a b))], [.row false kPl a, .row false kPl b]) := fun c h hc => by
    unfold estV; rw [h, decide_eq_false hc]; rfl
  refine cond_split (fun ha => ?_) (fun ha => ?_)
  · have ha := of_decide_eq_true ha
    exact bad 2 (by unfold estE; rw [decide_eq_true (show 256 < a.length by omega)]; rfl) (by decide)
  have ha := of_decide_eq_false ha
  refine cond_split (fun hb => ?_) (fun hb => ?_)
  · have hb := of_decide_eq_true hb
    exact bad 2 (by unfold estE; rw [decide_eq_true (show 256 < b.length by omega), Bool.or_true]; rfl) (by decide)
  have hb := of_decide_eq_false hb
  have e0 : estE a b = bif !(okP a && okP b) then 4 else bif decide (a.length ≠ b.length) then 3 else bif decide (b.length = 0) then 8 else ofE (est a b) := by
    unfold estE; rw [decide_eq_false (show ¬ 256 < a.length by omega), decide_eq_false (show ¬ 256 < b.length by omega)]; rfl
  rw [show a.drop (Int.toNat 0) = a from rfl, show b.drop (Int.toNat 0) = b from rfl]
  refine guard_split (bp_mk ⟨rfl, rfl, by omega, by omega, by omega⟩) ?_
  refine cond_split (fun oa => ?_) (fun oa => bad 4 (by rw [e0, oa]; rfl) (by decide))
  refine guard_split (bp_mk ⟨rfl, rfl, by omega, by omega, by omega⟩) ?_
  refine cond_split (fun ob => ?_) (fun ob => bad 4 (by rw [e0, oa, ob]; rfl) (by decide))
  rw [oa, ob] at e0
  refine cond_split (fun hl => ?_) (fun hl => ?_)
  · have hl : (a.length : Int) ≠ b.length := by simpa using hl
    exact bad 3 (by rw [e0, decide_eq_true (show a.length ≠ b.length by omega)]; rfl) (by decide)
  have hl : (a.length : Int) = b.length := by simpa using hl
  have hl' : a.length = b.length := by omega
  rw [decide_eq_false (show ¬ a.length ≠ b.length by omega)] at e0
  refine cond_split (fun hz => ?_) (fun hz => ?_)
  · have hz : (b.length : Int) = 0 := by simpa using hz
    exact bad 8 (by rw [e0, decide_eq_true (show b.length = 0 by omega)]; rfl) (by decide)
  have hz : (b.length : Int) ≠ 0 := by simpa using hz
  rw [decide_eq_false (show ¬ b.length = 0 by omega)] at e0
  have e0 : estE a b = ofE (est a b) := e0
  refine guard_split (bp_mk ⟨hl', oa, ob, rfl, by omega, by omega, by omega, by simp, by simp, by simp⟩) ?_
  have hr : ∀ f, decide (1 ≤ (zipK f a b 0).length ∧ (zipK f a b 0).length ≤ 1000) = true := fun f => decide_eq_true (by rw [zip_len hl']; omega)
  refine guard_split (hr _) (guard_split (hr _) (guard_split (hr _) ?_))
  change cond (ofE (est a b) != 0) (some (PV.tup [.agg pvZ, .sc (.int .i64 (ofE (est a b)))], _)) _ = _
  refine cond_split (fun hc => ?_) (fun hc => ?_)
  · exact bad _ e0 (by simpa using hc)
  · have hc : ofE (est a b) = 0 := by simpa using hc
    unfold estV
    rw [e0, hc]; rfl
theorem in53b : CutOK Try.prog Try.f53.ntmps (codeAt 2 (bodyF Try.f53)) [4, 33, 34, 35] [5] (entC k53b c53b) := loop_cutW (kill := killA 0 k53b) B2_ok mixed mu53b (by kernel_rfl) (noCuts_ok _) fun v h => q53b v.1.1 v.2.1.1 v.2.1.2 v.2.2.1 v.2.2.2.1 h
theorem in53d : CutOK Try.prog Try.f53.ntmps (codeAt 4 (bodyF Try.f53)) [0, 11, 12, 13, 57, 58, 59] [11, 12, 13] (entC k53d c53d) := loop_cutW (kill := killA 0 k53d) B2_ok mixed mu53d (by kernel_rfl) (noCuts_ok _) fun v h => q53d v.1.1 v.1.2 v.2.1.1 v.2.1.2 v.2.2.1.1 v.2.2.1.2 v.2.2.2.1.1 v.2.2.2.1.2 v.2.2.2.2.1.1 v.2.2.2.2.1.2 v.2.2.2.2.2.1 v.2.2.2.2.2.2.1 h
theorem B3_ok : TableOK Try.prog B3 := ext_ok (entV_ok Try.call53 (liftV B2_ok mixed Try.func53 (show Try.f53.body = some (bodyF Try.f53) from rfl) (cut_cons (by kernel_rfl) in53b (cut_cons (by kernel_rfl) in53d (noCuts_ok _))) (by decide) fun v h => q53 v.1.1 v.1.2 v.2.1.1 v.2.1.2)) B2_ok
end Go.Proofs.YtpndjpjpmcehbaaBi
