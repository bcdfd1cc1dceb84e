/- What is proved: Equal, Insert, sorted, SortFunc and Bay answer what their plain functions say. No condition. -/
import Derived.Test.YtokephobkllfgaaTss5
import Derived.Test.YtokephobkllfgaaStrC
import Derived.Test.YtokephobkllfgaaTsf
import Derived.Shelf.SlLaysF0
import Derived.Shelf.SlSortCmp.NoneTotal
namespace Go.Proofs.YtokephobkllfgaaSs
open Go Go.Proofs Go.Shelf Go.Sort Go.RowKit Go.Proofs.YtokephobkllfgaaEv
set_option maxRecDepth 100000
set_option maxHeartbeats 4000000
set_option linter.unusedVariables false
set_option linter.unusedSimpArgs false
noncomputable abbrev s19aL (a0 : List (ByteArray × ByteArray × Int × Int × Int)) (a1 : Bool) (a2 : List (ByteArray × ByteArray × Int × Int × Int)) (a3 : Bool) (a4 : Int) (a5 : Int) := evRound Try.prog U7 noCuts 26 (loopOf (codeAt 0 (bodyF Try.f19))) kEq muEq (killA 0 kEq) [0, 1, 12, 13] [4] cEq ((a0, a1), ((a2, a3), (a4, (a5, ()))))
theorem s19a (a0 : List (ByteArray × ByteArray × Int × Int × Int)) (a1 : Bool) (a2 : List (ByteArray × ByteArray × Int × Int × Int)) (a3 : Bool) (a4 : Int) (a5 : Int) : s19aL a0 a1 a2 a3 a4 a5 = (bif decide (a5 < a4) then
  guardB (decide (0 ≤ a5) && decide (a5 < (↑a0.length : Int)))
    (bindO a0[0 + a5.toNat]? fun x =>
      guardB (decide (0 ≤ a5) && decide (a5 < (↑a2.length : Int)))
        (bindO a2[0 + a5.toNat]? fun x_1 =>
          bif
              !(decide (x.fst = x_1.fst) &&
                  (decide (x.snd.fst = x_1.snd.fst) &&
                    (x.snd.snd.fst == x_1.snd.snd.fst &&
                      (x.snd.snd.snd.fst == x_1.snd.snd.snd.fst &&
                        (x.snd.snd.snd.snd == x_1.snd.snd.snd.snd && true))))) then
            some
              (Xt.ret, [PV.sc (Value.bool false)],
                [Blk.row false
                    (Kd.str.pair
                      (Kd.str.pair ((Kd.int IntKind.i64).pair ((Kd.int IntKind.i64).pair (Kd.int IntKind.i64)))))
                    a0,
                  Blk.row false
                    (Kd.str.pair
                      (Kd.str.pair ((Kd.int IntKind.i64).pair ((Kd.int IntKind.i64).pair (Kd.int IntKind.i64)))))
                    a2])
          else
            guardB
              (decide
                (muEq
                    ((List.take a0.length a0, a1), (List.take a2.length a2, a3), a4, IntKind.i64.wrap (a5 + 1),
                      PUnit.unit) <
                  muEq ((a0, a1), (a2, a3), a4, a5, ())))
              (guardB
                (bif decide (0 + a0.length ≤ a0.length) then
                  bif decide (0 + a2.length ≤ a2.length) then
                    preEq (List.take a0.length a0) (List.take a2.length a2) a4 (IntKind.i64.wrap (a5 + 1))
                  else false
                else false)
                (bif
                    eqL (List.drop (IntKind.i64.wrap (a5 + 1)).toNat (List.take a0.length a0))
                      (List.drop (IntKind.i64.wrap (a5 + 1)).toNat (List.take a2.length a2)) then
                  some
                    (Xt.exit 0, [PV.undef],
                      [Blk.row false
                          (Kd.str.pair
                            (Kd.str.pair ((Kd.int IntKind.i64).pair ((Kd.int IntKind.i64).pair (Kd.int IntKind.i64)))))
                          a0,
                        Blk.row false
                          (Kd.str.pair
                            (Kd.str.pair ((Kd.int IntKind.i64).pair ((Kd.int IntKind.i64).pair (Kd.int IntKind.i64)))))
                          a2])
                else
                  some
                    (Xt.ret, [PV.sc (Value.bool false)],
                      [Blk.row false
                          (Kd.str.pair
                            (Kd.str.pair ((Kd.int IntKind.i64).pair ((Kd.int IntKind.i64).pair (Kd.int IntKind.i64)))))
                          a0,
                        Blk.row false
                          (Kd.str.pair
                            (Kd.str.pair ((Kd.int IntKind.i64).pair ((Kd.int IntKind.i64).pair (Kd.int IntKind.i64)))))
                          a2])))))
else
  some
    (Xt.exit 0, [PV.undef],
      [Blk.row false
          (Kd.str.pair (Kd.str.pair ((Kd.int IntKind.i64).pair ((Kd.int IntKind.i64).pair (Kd.int IntKind.i64))))) a0,
        Blk.row false
          (Kd.str.pair (Kd.str.pair ((Kd.int IntKind.i64).pair ((Kd.int IntKind.i64).pair (Kd.int IntKind.i64))))) a2])) := by kernel_rfl
noncomputable abbrev s19L (a0 : List (ByteArray × ByteArray × Int × Int × Int)) (a1 : Bool) (a2 : List (ByteArray × ByteArray × Int × Int × Int)) (a3 : Bool) := evFuncV Try.prog U7 (addCut 0 [0, 1, 12, 13] [4] (entC kEq cEq) noCuts) Try.f19 (killA 0 [rS, rS]) (showA 0 [rS, rS] ((a0, a1), ((a2, a3), ()))).1 (showA 0 [rS, rS] ((a0, a1), ((a2, a3), ()))).2
theorem s19 (a0 : List (ByteArray × ByteArray × Int × Int × Int)) (a1 : Bool) (a2 : List (ByteArray × ByteArray × Int × Int × Int)) (a3 : Bool) : s19L a0 a1 a2 a3 = (bif (↑a0.length : Int) != (↑a2.length : Int) then
  some
    (PV.sc (Value.bool false),
      [Blk.row false
          (Kd.str.pair (Kd.str.pair ((Kd.int IntKind.i64).pair ((Kd.int IntKind.i64).pair (Kd.int IntKind.i64))))) a0,
        Blk.row false
          (Kd.str.pair (Kd.str.pair ((Kd.int IntKind.i64).pair ((Kd.int IntKind.i64).pair (Kd.int IntKind.i64))))) a2])
else
  guardB
    (bif decide (0 + a0.length ≤ a0.length) then
      bif decide (0 + a2.length ≤ a2.length) then
        preEq (List.take a0.length a0) (List.take a2.length a2) (↑a0.length : Int) 0
      else false
    else false)
    (bif eqL (List.drop (Int.toNat 0) (List.take a0.length a0)) (List.drop (Int.toNat 0) (List.take a2.length a2)) then
      some
        (PV.sc (Value.bool true),
          [Blk.row false
              (Kd.str.pair (Kd.str.pair ((Kd.int IntKind.i64).pair ((Kd.int IntKind.i64).pair (Kd.int IntKind.i64)))))
              a0,
            Blk.row false
              (Kd.str.pair (Kd.str.pair ((Kd.int IntKind.i64).pair ((Kd.int IntKind.i64).pair (Kd.int IntKind.i64)))))
              a2])
    else
      some
        (PV.sc (Value.bool false),
          [Blk.row false
              (Kd.str.pair (Kd.str.pair ((Kd.int IntKind.i64).pair ((Kd.int IntKind.i64).pair (Kd.int IntKind.i64)))))
              a0,
            Blk.row false
              (Kd.str.pair (Kd.str.pair ((Kd.int IntKind.i64).pair ((Kd.int IntKind.i64).pair (Kd.int IntKind.i64)))))
              a2]))) := by kernel_rfl
noncomputable abbrev s21aL (a0 : List (ByteArray × ByteArray × Int × Int × Int)) (a1 : Bool) (a2 : ByteArray) (a3 : ByteArray) (a4 : Int) (a5 : Int) (a6 : Int) (a7 : Int) := evRound Try.prog U8 noCuts 62 (loopOf (codeAt 2 (bodyF Try.f21))) kAt muAt (killA 0 kAt) [5, 7, 8] [8] cAt ((a0, a1), ((a2, (a3, (a4, (a5, a6)))), (a7, ())))
theorem s21a (a0 : List (ByteArray × ByteArray × Int × Int × Int)) (a1 : Bool) (a2 : ByteArray) (a3 : ByteArray) (a4 : Int) (a5 : Int) (a6 : Int) (a7 : Int) : s21aL a0 a1 a2 a3 a4 a5 a6 a7 = (bif decide (a7 < (↑a0.length : Int)) then
  guardB (decide (0 ≤ a7) && decide (a7 < (↑a0.length : Int)))
    (bindO a0[0 + a7.toNat]? fun x =>
      bif decide (x.snd.snd.fst < a4) then
        guardB
          (decide
            (muAt ((List.take a0.length a0, a1), (a2, a3, a4, a5, a6), IntKind.i64.wrap (a7 + 1), PUnit.unit) <
              muAt ((a0, a1), (a2, a3, a4, a5, a6), a7, ())))
          (guardB
            (bif decide (0 + a0.length ≤ a0.length) then preAt (List.take a0.length a0) (IntKind.i64.wrap (a7 + 1))
            else false)
            (some
              (Xt.exit 2,
                [PV.sc
                    (Value.int IntKind.i64
                      (IntKind.i64.wrap (a7 + 1) +
                        (↑(posS (a2, a3, a4, a5, a6)
                              (List.drop (IntKind.i64.wrap (a7 + 1)).toNat (List.take a0.length a0))) :
                          sI.den)))],
                [Blk.row false
                    (Kd.str.pair
                      (Kd.str.pair ((Kd.int IntKind.i64).pair ((Kd.int IntKind.i64).pair (Kd.int IntKind.i64)))))
                    a0,
                  Blk.fix false
                    [PV.sc (Value.string a2), PV.sc (Value.string a3), PV.sc (Value.int IntKind.i64 a4),
                      PV.sc (Value.int IntKind.i64 a5), PV.sc (Value.int IntKind.i64 a6)]])))
      else
        guardB (decide (0 ≤ a7) && decide (a7 < (↑a0.length : Int)))
          (bindO a0[0 + a7.toNat]? fun x =>
            bif x.snd.snd.fst == a4 then
              guardB (decide (0 ≤ a7) && decide (a7 < (↑a0.length : Int)))
                (bindO a0[0 + a7.toNat]? fun x =>
                  bif Op.bytesLess x.fst.data.toList a2.data.toList then
                    guardB
                      (decide
                        (muAt
                            ((List.take a0.length a0, a1), (a2, a3, a4, a5, a6), IntKind.i64.wrap (a7 + 1),
                              PUnit.unit) <
                          muAt ((a0, a1), (a2, a3, a4, a5, a6), a7, ())))
                      (guardB
                        (bif decide (0 + a0.length ≤ a0.length) then
                          preAt (List.take a0.length a0) (IntKind.i64.wrap (a7 + 1))
                        else false)
                        (some
                          (Xt.exit 2,
                            [PV.sc
                                (Value.int IntKind.i64
                                  (IntKind.i64.wrap (a7 + 1) +
                                    (↑(posS (a2, a3, a4, a5, a6)
                                          (List.drop (IntKind.i64.wrap (a7 + 1)).toNat (List.take a0.length a0))) :
                                      sI.den)))],
                            [Blk.row false
                                (Kd.str.pair
                                  (Kd.str.pair
                                    ((Kd.int IntKind.i64).pair ((Kd.int IntKind.i64).pair (Kd.int IntKind.i64)))))
                                a0,
                              Blk.fix false
                                [PV.sc (Value.string a2), PV.sc (Value.string a3), PV.sc (Value.int IntKind.i64 a4),
                                  PV.sc (Value.int IntKind.i64 a5), PV.sc (Value.int IntKind.i64 a6)]])))
                  else
                    some
                      (Xt.exit 2, [PV.sc (Value.int IntKind.i64 a7)],
                        [Blk.row false
                            (Kd.str.pair
                              (Kd.str.pair
                                ((Kd.int IntKind.i64).pair ((Kd.int IntKind.i64).pair (Kd.int IntKind.i64)))))
                            a0,
                          Blk.fix false
                            [PV.sc (Value.string a2), PV.sc (Value.string a3), PV.sc (Value.int IntKind.i64 a4),
                              PV.sc (Value.int IntKind.i64 a5), PV.sc (Value.int IntKind.i64 a6)]]))
            else
              some
                (Xt.exit 2, [PV.sc (Value.int IntKind.i64 a7)],
                  [Blk.row false
                      (Kd.str.pair
                        (Kd.str.pair ((Kd.int IntKind.i64).pair ((Kd.int IntKind.i64).pair (Kd.int IntKind.i64)))))
                      a0,
                    Blk.fix false
                      [PV.sc (Value.string a2), PV.sc (Value.string a3), PV.sc (Value.int IntKind.i64 a4),
                        PV.sc (Value.int IntKind.i64 a5), PV.sc (Value.int IntKind.i64 a6)]])))
else
  some
    (Xt.exit 2, [PV.sc (Value.int IntKind.i64 a7)],
      [Blk.row false
          (Kd.str.pair (Kd.str.pair ((Kd.int IntKind.i64).pair ((Kd.int IntKind.i64).pair (Kd.int IntKind.i64))))) a0,
        Blk.fix false
          [PV.sc (Value.string a2), PV.sc (Value.string a3), PV.sc (Value.int IntKind.i64 a4),
            PV.sc (Value.int IntKind.i64 a5), PV.sc (Value.int IntKind.i64 a6)]])) := by kernel_rfl
noncomputable abbrev s21bL (a0 : Int) (a1 : List (ByteArray × ByteArray × Int × Int × Int)) (a2 : Bool) (a3 : List (ByteArray × ByteArray × Int × Int × Int)) (a4 : Bool) (a5 : Int) (a6 : Int) := evRound Try.prog U8 (addCut 2 [5, 7, 8] [8] (entC kAt cAt) noCuts) 62 (loopOf (codeAt 0 (bodyF Try.f21))) kSo muSo (killA 0 kSo) [1, 5, 9, 10, 11] [5] cSo (a0, ((a1, a2), ((a3, a4), (a5, (a6, ())))))
theorem s21b (a0 : Int) (a1 : List (ByteArray × ByteArray × Int × Int × Int)) (a2 : Bool) (a3 : List (ByteArray × ByteArray × Int × Int × Int)) (a4 : Bool) (a5 : Int) (a6 : Int) : s21bL a0 a1 a2 a3 a4 a5 a6 = (bif decide (a6 < a5) then
  guardB (decide (0 ≤ a6) && decide (a6 < (↑a3.length : Int)))
    (bindO a3[0 + a6.toNat]? fun x =>
      bif x.snd.snd.snd.snd != a0 then
        guardB
          (decide
            (muSo (a0, (a1, a2), (List.take a3.length a3, a4), a5, IntKind.i64.wrap (a6 + 1), PUnit.unit) <
              muSo (a0, (a1, a2), (a3, a4), a5, a6, ())))
          (guardB
            (bif decide (a1.length = a1.length) then
              bif decide (0 + a3.length ≤ a3.length) then
                preSo a1 (List.take a3.length a3) a5 (IntKind.i64.wrap (a6 + 1))
              else false
            else false)
            (some
              (Xt.exit 0,
                [PV.sl 2 0 5
                    (soR a0 (a1, a2) (List.drop (IntKind.i64.wrap (a6 + 1)).toNat (List.take a3.length a3))).fst.length
                    (soR a0 (a1, a2) (List.drop (IntKind.i64.wrap (a6 + 1)).toNat (List.take a3.length a3))).fst.length
                    false (soR a0 (a1, a2) (List.drop (IntKind.i64.wrap (a6 + 1)).toNat (List.take a3.length a3))).snd],
                [Blk.dead,
                  Blk.row false
                    (Kd.str.pair
                      (Kd.str.pair ((Kd.int IntKind.i64).pair ((Kd.int IntKind.i64).pair (Kd.int IntKind.i64)))))
                    a3,
                  Blk.row true
                    (Kd.str.pair
                      (Kd.str.pair ((Kd.int IntKind.i64).pair ((Kd.int IntKind.i64).pair (Kd.int IntKind.i64)))))
                    (soR a0 (a1, a2) (List.drop (IntKind.i64.wrap (a6 + 1)).toNat (List.take a3.length a3))).fst])))
      else
        guardB (bif decide (0 + a1.length ≤ a1.length) then preAt (List.take a1.length a1) 0 else false)
          (guardB
            (bif decide (a1.length = a1.length) then
              pre47 a1 (0 + (↑(posS x (List.drop (Int.toNat 0) (List.take a1.length a1))) : Int)) [x]
            else false)
            (guardB
              (decide
                (muSo
                    (a0,
                      (insS a1 (0 + (↑(posS x (List.drop (Int.toNat 0) (List.take a1.length a1))) : Int)) [x],
                        false),
                      (List.take a3.length a3, a4), a5, IntKind.i64.wrap (a6 + 1), PUnit.unit) <
                  muSo (a0, (a1, a2), (a3, a4), a5, a6, ())))
              (guardB
                (bif
                    decide
                      (a1.length + 1 =
                        (insS a1 (0 + (↑(posS x (List.drop (Int.toNat 0) (List.take a1.length a1))) : Int))
                            [x]).length) then
                  bif decide (0 + a3.length ≤ a3.length) then
                    preSo (insS a1 (0 + (↑(posS x (List.drop (Int.toNat 0) (List.take a1.length a1))) : Int)) [x])
                      (List.take a3.length a3) a5 (IntKind.i64.wrap (a6 + 1))
                  else false
                else false)
                (some
                  (Xt.exit 0,
                    [PV.sl 2 0 5
                        (soR a0
                              (insS a1 (0 + (↑(posS x (List.drop (Int.toNat 0) (List.take a1.length a1))) : Int))
                                  [x],
                                false)
                              (List.drop (IntKind.i64.wrap (a6 + 1)).toNat (List.take a3.length a3))).fst.length
                        (soR a0
                              (insS a1 (0 + (↑(posS x (List.drop (Int.toNat 0) (List.take a1.length a1))) : Int))
                                  [x],
                                false)
                              (List.drop (IntKind.i64.wrap (a6 + 1)).toNat (List.take a3.length a3))).fst.length
                        false
                        (soR a0
                            (insS a1 (0 + (↑(posS x (List.drop (Int.toNat 0) (List.take a1.length a1))) : Int)) [x],
                              false)
                            (List.drop (IntKind.i64.wrap (a6 + 1)).toNat (List.take a3.length a3))).snd],
                    [Blk.dead,
                      Blk.row false
                        (Kd.str.pair
                          (Kd.str.pair ((Kd.int IntKind.i64).pair ((Kd.int IntKind.i64).pair (Kd.int IntKind.i64)))))
                        a3,
                      Blk.row true
                        (Kd.str.pair
                          (Kd.str.pair ((Kd.int IntKind.i64).pair ((Kd.int IntKind.i64).pair (Kd.int IntKind.i64)))))
                        (soR a0
                            (insS a1 (0 + (↑(posS x (List.drop (Int.toNat 0) (List.take a1.length a1))) : Int)) [x],
                              false)
                            (List.drop (IntKind.i64.wrap (a6 + 1)).toNat (List.take a3.length a3))).fst]))))))
else
  some
    (Xt.exit 0, [PV.sl 2 0 5 a1.length a1.length false a2],
      [Blk.dead,
        Blk.row false
          (Kd.str.pair (Kd.str.pair ((Kd.int IntKind.i64).pair ((Kd.int IntKind.i64).pair (Kd.int IntKind.i64))))) a3,
        Blk.row true
          (Kd.str.pair (Kd.str.pair ((Kd.int IntKind.i64).pair ((Kd.int IntKind.i64).pair (Kd.int IntKind.i64))))) a1])) := by kernel_rfl
noncomputable abbrev s21L (a0 : List (ByteArray × ByteArray × Int × Int × Int)) (a1 : Bool) (a2 : Int) := evFuncV Try.prog U8 (addCut 0 [1, 5, 9, 10, 11] [5] (entC kSo cSo) noCuts) Try.f21 (killA 0 kSr) (showA 0 kSr ((a0, a1), (a2, ()))).1 (showA 0 kSr ((a0, a1), (a2, ()))).2
theorem s21 (a0 : List (ByteArray × ByteArray × Int × Int × Int)) (a1 : Bool) (a2 : Int) : s21L a0 a1 a2 = (guardB (bif decide (0 + a0.length ≤ a0.length) then preSo [] (List.take a0.length a0) (↑a0.length : Int) 0 else false)
  (some
    (PV.sl 1 0 5 (soR a2 ([], true) (List.drop (Int.toNat 0) (List.take a0.length a0))).fst.length
        (soR a2 ([], true) (List.drop (Int.toNat 0) (List.take a0.length a0))).fst.length false
        (soR a2 ([], true) (List.drop (Int.toNat 0) (List.take a0.length a0))).snd,
      [Blk.row false
          (Kd.str.pair (Kd.str.pair ((Kd.int IntKind.i64).pair ((Kd.int IntKind.i64).pair (Kd.int IntKind.i64))))) a0,
        Blk.row true
          (Kd.str.pair (Kd.str.pair ((Kd.int IntKind.i64).pair ((Kd.int IntKind.i64).pair (Kd.int IntKind.i64)))))
          (soR a2 ([], true) (List.drop (Int.toNat 0) (List.take a0.length a0))).fst]))) := by kernel_rfl
noncomputable abbrev s20aL (a0 : Int) (a1 : List (ByteArray × ByteArray × Int × Int × Int)) (a2 : Bool) (a3 : List (ByteArray × ByteArray × Int × Int × Int)) (a4 : Bool) (a5 : Int) (a6 : Int) := evRound Try.prog U8 noCuts 29 (loopOf (codeAt 0 (bodyF Try.f20))) kSo muSo (killA 0 kSo) [1, 5, 11, 12, 13] [5] cBa (a0, ((a1, a2), ((a3, a4), (a5, (a6, ())))))
theorem s20a (a0 : Int) (a1 : List (ByteArray × ByteArray × Int × Int × Int)) (a2 : Bool) (a3 : List (ByteArray × ByteArray × Int × Int × Int)) (a4 : Bool) (a5 : Int) (a6 : Int) : s20aL a0 a1 a2 a3 a4 a5 a6 = (bif decide (a6 < a5) then
  guardB (decide (0 ≤ a6) && decide (a6 < (↑a3.length : Int)))
    (bindO a3[0 + a6.toNat]? fun x =>
      bif x.snd.snd.snd.snd == a0 then
        guardB
          (decide (0 + a1.length ≤ a1.length) && true && decide ((a1.length + 1) * 56 ≤ 140737488355328) &&
            decide (a1.length + 1 ≤ 4611686018427387904))
          (guardB
            (decide
              (muSo
                  (a0, (List.take a1.length a1 ++ [x], false), (List.take a3.length a3, a4), a5,
                    IntKind.i64.wrap (a6 + 1), PUnit.unit) <
                muSo (a0, (a1, a2), (a3, a4), a5, a6, ())))
            (guardB
              (bif decide (a1.length + 1 = (List.take a1.length a1 ++ [x]).length) then
                bif decide (0 + a3.length ≤ a3.length) then
                  preSo (List.take a1.length a1 ++ [x]) (List.take a3.length a3) a5 (IntKind.i64.wrap (a6 + 1))
                else false
              else false)
              (some
                (Xt.exit 0,
                  [PV.sl 2 0 5
                      (baR a0 (List.take a1.length a1 ++ [x], false)
                            (List.drop (IntKind.i64.wrap (a6 + 1)).toNat (List.take a3.length a3))).fst.length
                      (baR a0 (List.take a1.length a1 ++ [x], false)
                            (List.drop (IntKind.i64.wrap (a6 + 1)).toNat (List.take a3.length a3))).fst.length
                      false
                      (baR a0 (List.take a1.length a1 ++ [x], false)
                          (List.drop (IntKind.i64.wrap (a6 + 1)).toNat (List.take a3.length a3))).snd],
                  [Blk.dead,
                    Blk.row false
                      (Kd.str.pair
                        (Kd.str.pair ((Kd.int IntKind.i64).pair ((Kd.int IntKind.i64).pair (Kd.int IntKind.i64)))))
                      a3,
                    Blk.row true
                      (Kd.str.pair
                        (Kd.str.pair ((Kd.int IntKind.i64).pair ((Kd.int IntKind.i64).pair (Kd.int IntKind.i64)))))
                      (baR a0 (List.take a1.length a1 ++ [x], false)
                          (List.drop (IntKind.i64.wrap (a6 + 1)).toNat (List.take a3.length a3))).fst]))))
      else
        guardB
          (decide
            (muSo (a0, (a1, a2), (List.take a3.length a3, a4), a5, IntKind.i64.wrap (a6 + 1), PUnit.unit) <
              muSo (a0, (a1, a2), (a3, a4), a5, a6, ())))
          (guardB
            (bif decide (a1.length = a1.length) then
              bif decide (0 + a3.length ≤ a3.length) then
                preSo a1 (List.take a3.length a3) a5 (IntKind.i64.wrap (a6 + 1))
              else false
            else false)
            (some
              (Xt.exit 0,
                [PV.sl 2 0 5
                    (baR a0 (a1, a2) (List.drop (IntKind.i64.wrap (a6 + 1)).toNat (List.take a3.length a3))).fst.length
                    (baR a0 (a1, a2) (List.drop (IntKind.i64.wrap (a6 + 1)).toNat (List.take a3.length a3))).fst.length
                    false (baR a0 (a1, a2) (List.drop (IntKind.i64.wrap (a6 + 1)).toNat (List.take a3.length a3))).snd],
                [Blk.dead,
                  Blk.row false
                    (Kd.str.pair
                      (Kd.str.pair ((Kd.int IntKind.i64).pair ((Kd.int IntKind.i64).pair (Kd.int IntKind.i64)))))
                    a3,
                  Blk.row true
                    (Kd.str.pair
                      (Kd.str.pair ((Kd.int IntKind.i64).pair ((Kd.int IntKind.i64).pair (Kd.int IntKind.i64)))))
                    (baR a0 (a1, a2) (List.drop (IntKind.i64.wrap (a6 + 1)).toNat (List.take a3.length a3))).fst]))))
else
  some
    (Xt.exit 0, [PV.sl 2 0 5 a1.length a1.length false a2],
      [Blk.dead,
        Blk.row false
          (Kd.str.pair (Kd.str.pair ((Kd.int IntKind.i64).pair ((Kd.int IntKind.i64).pair (Kd.int IntKind.i64))))) a3,
        Blk.row true
          (Kd.str.pair (Kd.str.pair ((Kd.int IntKind.i64).pair ((Kd.int IntKind.i64).pair (Kd.int IntKind.i64))))) a1])) := by kernel_rfl
noncomputable abbrev s20L (L : List (ByteArray × ByteArray × Int × Int × Int)) (n : Nat) (lo : Nat) (fu : Bool) (nl : Bool) (b : Int) := (evFuncV Try.prog U8 (addCut 0 [1, 5, 11, 12, 13] [5] (entC kSo cBa) noCuts) Try.f20 [] (st41 (b, L, n, lo, fu, nl)).1
  (st41 (b, L, n, lo, fu, nl)).2)
theorem s20 (L : List (ByteArray × ByteArray × Int × Int × Int)) (n : Nat) (lo : Nat) (fu : Bool) (nl : Bool) (b : Int) : s20L L n lo fu nl b = (guardB (bif decide (0 + n ≤ L.length) then preSo [] (List.take n L) (↑n : Int) 0 else false)
  (guardB
    (bif
        decide
          ((baR b ([], true) (List.drop (Int.toNat 0) (List.take n L))).fst.length =
            (baR b ([], true) (List.drop (Int.toNat 0) (List.take n L))).fst.length) then
      decide ((baR b ([], true) (List.drop (Int.toNat 0) (List.take n L))).fst.length ≤ 1000)
    else false)
    (some
      (PV.sl 2 0 5 (baR b ([], true) (List.drop (Int.toNat 0) (List.take n L))).fst.length
          (baR b ([], true) (List.drop (Int.toNat 0) (List.take n L))).fst.length false
          (baR b ([], true) (List.drop (Int.toNat 0) (List.take n L))).snd,
        [Blk.fix true [PV.sl 3 0 5 n n false nl], Blk.dead,
          Blk.row true
            (Kd.str.pair (Kd.str.pair ((Kd.int IntKind.i64).pair ((Kd.int IntKind.i64).pair (Kd.int IntKind.i64)))))
            (srtT (baR b ([], true) (List.drop (Int.toNat 0) (List.take n L))).fst),
          Blk.row true
            (Kd.str.pair (Kd.str.pair ((Kd.int IntKind.i64).pair ((Kd.int IntKind.i64).pair (Kd.int IntKind.i64)))))
            L])))) := by kernel_rfl
noncomputable abbrev s20nL (L : List (ByteArray × ByteArray × Int × Int × Int)) (n : Nat) (lo : Nat) (fu : Bool) (nl : Bool) (b : Int) := (evFuncV Try.prog U8 (addCut 0 [1, 5, 11, 12, 13] [5] (entC kSo cBa) noCuts) Try.f20 [] (st41n b).1 (st41n b).2)
theorem s20n (L : List (ByteArray × ByteArray × Int × Int × Int)) (n : Nat) (lo : Nat) (fu : Bool) (nl : Bool) (b : Int) : s20nL L n lo fu nl b = (some
  (PV.sl 1 0 5 0 0 false true,
    [Blk.fix true [PV.sc (Value.slice none 0 0)],
      Blk.row true
        (Kd.str.pair (Kd.str.pair ((Kd.int IntKind.i64).pair ((Kd.int IntKind.i64).pair (Kd.int IntKind.i64))))) []])) := by kernel_rfl
theorem dT {i : Decidable True} : @decide True i = true := decide_eq_true trivial
/-! ### Equal -/
theorem eqL_cons (x y : Strip) (r s : List Strip) : eqL (x :: r) (y :: s) = (eqS x y && eqL r s) := rfl
theorem q19l (l m : List Strip) (nl nm : Bool) (n k : Int) (h : preEq l m n k = true) :
    s19aL l nl m nm n k = pickA (cEq ((l, nl), (m, nm), n, k, ())).2 := by
  obtain ⟨h1, h2, h3, h4, h5⟩ := of_decide_eq_true h
  rw [s19a]
  show _ = cond (eqL (l.drop k.toNat) (m.drop k.toNat)) (some (Xt.exit 0, [PV.undef], [Blk.row false kS l, Blk.row false kS m])) (some (Xt.ret, [PV.sc (.bool false)], [Blk.row false kS l, Blk.row false kS m]))
  simp only [List.take_length, Nat.zero_add, len_true, cond_true]
  refine cond_split (fun hk => ?_) (fun hk => ?_)
  · have hk := of_decide_eq_true hk
    obtain ⟨x, hx⟩ := get_ex (l := l) (k := k.toNat) (by omega)
    obtain ⟨y, hy⟩ := get_ex (l := m) (k := k.toNat) (by omega)
    rw [hx, hy, drop_cons hx, drop_cons hy, IntWalk.i64_in (k + 1) (by omega), show (k + 1).toNat = k.toNat + 1 by omega]
    refine guard_split (by simp; omega) ?_
    simp only [bindO]
    refine guard_split (by simp; omega) ?_
    rw [eqL_cons]
    change cond (!eqS x y) _ _ = _
    cases eqS x y with
    | false => rfl
    | true =>
      simp only [Bool.not_true, cond_false, Bool.true_and]
      refine guard_split (decide_eq_true (show (n - (k + 1)).toNat < (n - k).toNat by omega)) (guard_split (decide_eq_true (by omega)) rfl)
  · have hk := of_decide_eq_false hk
    rw [List.drop_eq_nil_of_le (by omega), List.drop_eq_nil_of_le (by omega)]
    rfl
theorem eqL_len : ∀ {l m : List Strip}, eqL l m = true → l.length = m.length
  | [], [], _ => rfl
  | [], _ :: _, h => by simp [eqL] at h
  | _ :: _, [], h => by simp [eqL] at h
  | x :: l, y :: m, h => by
    unfold eqL at h
    rw [Bool.and_eq_true] at h
    simp [eqL_len h.2]
theorem q19 (l m : List Strip) (nl nm : Bool) (h : decide (l.length ≤ 100 ∧ m.length ≤ 100) = true) :
    s19L l nl m nm = some (PV.sc (.bool (eqL l m)), [Blk.row false kS l, Blk.row false kS m]) := by
  obtain ⟨h1, h2⟩ := of_decide_eq_true h
  rw [s19]
  simp only [List.take_length, Nat.zero_add, len_true, cond_true, show Int.toNat 0 = 0 from rfl, List.drop_zero]
  refine cond_split (fun hk => ?_) (fun hk => ?_)
  · cases he : eqL l m with
    | false => rfl
    | true => rw [eqL_len he] at hk; simp at hk
  · have hk : (l.length : Int) = (m.length : Int) := by simpa using hk
    refine guard_split (decide_eq_true (by omega)) ?_
    cases eqL l m <;> rfl
theorem e19 : EntOK Try.prog 19 (entV [rS, rS] (specP [rS, rS] [sB] (fun v => decide (v.1.1.length ≤ 100 ∧ v.2.1.1.length ≤ 100)) fun v => (eqL v.1.1 v.2.1.1, ()))) :=
  entV_ok Try.call19 (liftV U7_ok mixed Try.func19 (show Try.f19.body = some (bodyF Try.f19) from rfl) (cut_cons (by kernel_rfl) (loop_cutW U7_ok mixed muEq (by kernel_rfl) (noCuts_ok _) fun v h => q19l v.1.1 v.2.1.1 v.1.2 v.2.1.2 v.2.2.1 v.2.2.2.1 h) (noCuts_ok _)) (by decide) fun v h => q19 v.1.1 v.2.1.1 v.1.2 v.2.1.2 h)
/-! ### sorted -/
abbrev pvS (x : Strip) : List PV := [.sc (.string x.1), .sc (.string x.2.1), .sc (.int .i64 x.2.2.1), .sc (.int .i64 x.2.2.2.1), .sc (.int .i64 x.2.2.2.2)]
theorem posS_cons (x y : Strip) (r : List Strip) : posS x (y :: r) = bif ltT y x then posS x r + 1 else 0 := rfl
theorem posS_le (x : Strip) : ∀ l : List Strip, posS x l ≤ l.length
  | [] => Nat.le_refl _
  | y :: r => by
    rw [posS_cons]
    cases ltT y x with
    | false => exact Nat.zero_le _
    | true => exact Nat.succ_le_succ (posS_le x r)
theorem insS_len (xs ys : List Strip) (i : Int) : (insS xs i ys).length = xs.length + ys.length := by
  unfold insS
  simp only [List.length_append, List.length_take, List.length_drop]; omega
theorem q21a (x : Strip) (l : List Strip) (nl : Bool) (k : Int) (h : preAt l k = true) :
    s21aL l nl x.1 x.2.1 x.2.2.1 x.2.2.2.1 x.2.2.2.2 k = some (Xt.exit 2, [PV.sc (.int .i64 (k + (posS x (l.drop k.toNat) : Int)))], [Blk.row false kS l, Blk.fix false (pvS x)]) := by
  obtain ⟨h1, h2, h3⟩ := of_decide_eq_true h
  obtain ⟨x1, x2, x3, x4, x5⟩ := x
  rw [s21a]
  simp only [List.take_length, Nat.zero_add, len_true, cond_true]
  refine cond_split (fun hk => ?_) (fun hk => ?_)
  · have hk := of_decide_eq_true hk
    obtain ⟨y, hy⟩ := get_ex (l := l) (k := k.toNat) (by omega)
    rw [hy, drop_cons hy, IntWalk.i64_in (k + 1) (by omega), show (k + 1).toNat = k.toNat + 1 by omega, posS_cons]
    have hg : (decide (0 ≤ k) && decide (k < (l.length : Int))) = true := by simp; omega
    have go : ltT y (x1, x2, x3, x4, x5) = true → guardB (decide (muAt ((l, nl), (x1, x2, x3, x4, x5), k + 1, PUnit.unit) < muAt ((l, nl), (x1, x2, x3, x4, x5), k, ()))) (guardB (preAt l (k + 1)) (some (Xt.exit 2, [PV.sc (.int .i64 (k + 1 + (posS (x1, x2, x3, x4, x5) (l.drop (k.toNat + 1)) : Int)))], [Blk.row false kS l, Blk.fix false (pvS (x1, x2, x3, x4, x5))]))) =
        some (Xt.exit 2, [PV.sc (.int .i64 (k + ((bif ltT y (x1, x2, x3, x4, x5) then posS (x1, x2, x3, x4, x5) (l.drop (k.toNat + 1)) + 1 else 0 : Nat) : Int)))], [Blk.row false kS l, Blk.fix false (pvS (x1, x2, x3, x4, x5))]) := by
      intro ht
      rw [ht, cond_true]
      refine guard_split (decide_eq_true (show ((l.length : Int) - (k + 1)).toNat < ((l.length : Int) - k).toNat by omega)) (guard_split (decide_eq_true (by omega)) ?_)
      rw [Int.natCast_succ, Int.add_assoc, Int.add_comm 1]
    have no : ltT y (x1, x2, x3, x4, x5) = false → some (Xt.exit 2, [PV.sc (.int .i64 k)], [Blk.row false kS l, Blk.fix false (pvS (x1, x2, x3, x4, x5))]) =
        some (Xt.exit 2, [PV.sc (.int .i64 (k + ((bif ltT y (x1, x2, x3, x4, x5) then posS (x1, x2, x3, x4, x5) (l.drop (k.toNat + 1)) + 1 else 0 : Nat) : Int)))], [Blk.row false kS l, Blk.fix false (pvS (x1, x2, x3, x4, x5))]) := by
      intro ht
      rw [ht, cond_false, Int.natCast_zero, Int.add_zero]
    refine guard_split hg ?_
    simp only [bindO]
    refine cond_split (fun hc => ?_) (fun hc => ?_)
    · exact go (by unfold ltT; rw [hc]; rfl)
    refine guard_split hg (cond_split (fun hd => ?_) (fun hd => ?_))
    · refine guard_split hg (cond_split (fun he => ?_) (fun he => ?_))
      · exact go (by unfold ltT; rw [hc, hd, he]; rfl)
      · exact no (by unfold ltT; rw [hc, hd, he]; rfl)
    · exact no (by unfold ltT; rw [hc, hd]; rfl)
  · have hk := of_decide_eq_false hk
    rw [List.drop_eq_nil_of_le (by omega), show posS (x1, x2, x3, x4, x5) [] = 0 from rfl, Int.natCast_zero, Int.add_zero]
abbrev ansO (l : List Strip) (r : List Strip × Bool) : Option (Xt × List PV × List Blk) := some (Xt.exit 0, [PV.sl 2 0 5 r.1.length r.1.length false r.2], [Blk.dead, Blk.row false kS l, Blk.row true kS r.1])
theorem soR_cons (b : Int) (o : List Strip × Bool) (x : Strip) (r : List Strip) : soR b o (x :: r) = bif x.2.2.2.2 != b then soR b o r else soR b (insS o.1 (posS x o.1) [x], false) r := rfl
theorem baR_cons (b : Int) (o : List Strip × Bool) (x : Strip) (r : List Strip) : baR b o (x :: r) = bif x.2.2.2.2 == b then baR b (o.1 ++ [x], false) r else baR b o r := rfl
theorem preSo_mk {out l : List Strip} {n k : Int} (h1 : n = l.length) (h2 : 0 ≤ k) (h3 : k ≤ n) (h4 : n ≤ 100) (h5 : (out.length : Int) ≤ k) : preSo out l n k = true := decide_eq_true ⟨h1, h2, h3, h4, h5⟩
theorem q21b (b : Int) (out l : List Strip) (onl lnl : Bool) (n k : Int) (h : preSo out l n k = true) : s21bL b out onl l lnl n k = ansO l (soR b (out, onl) (l.drop k.toNat)) := by
  obtain ⟨h1, h2, h3, h4, h5⟩ := of_decide_eq_true h
  rw [s21b]
  simp only [List.take_length, Nat.zero_add, len_true, cond_true, show Int.toNat 0 = 0 from rfl, List.drop_zero, Int.zero_add]
  refine cond_split (fun hk => ?_) (fun hk => ?_)
  · have hk := of_decide_eq_true hk
    obtain ⟨x, hx⟩ := get_ex (l := l) (k := k.toNat) (by omega)
    rw [hx, drop_cons hx, IntWalk.i64_in (k + 1) (by omega), show (k + 1).toNat = k.toNat + 1 by omega, soR_cons]
    refine guard_split (by simp; omega) ?_
    simp only [bindO]
    refine cond_split (fun hc => ?_) (fun hc => ?_)
    · rw [hc, cond_true, dT, cond_true]
      exact guard_split (decide_eq_true (show (n - (k + 1)).toNat < (n - k).toNat by omega)) (guard_split (preSo_mk h1 (by omega) (by omega) h4 (by omega)) rfl)
    · have hp := posS_le x out
      rw [hc, cond_false, dT, cond_true, insS_len, decide_eq_true (show out.length + 1 = out.length + [x].length from rfl), cond_true]
      refine guard_split (decide_eq_true (by omega)) (guard_split (decide_eq_true ⟨by omega, by omega, by omega, rfl⟩) (guard_split (decide_eq_true (show (n - (k + 1)).toNat < (n - k).toNat by omega)) (guard_split (preSo_mk h1 (by omega) (by omega) h4 ?_) rfl)))
      rw [insS_len]; simp; omega
  · have hk := of_decide_eq_false hk
    rw [List.drop_eq_nil_of_le (by omega)]
    rfl
theorem q21 (l : List Strip) (nl : Bool) (b : Int) (h : decide (l.length ≤ 100) = true) : s21L l nl b = some (PV.sl 1 0 5 (soR b ([], true) l).1.length (soR b ([], true) l).1.length false (soR b ([], true) l).2, [Blk.row false kS l, Blk.row true kS (soR b ([], true) l).1]) := by
  have h := of_decide_eq_true h
  rw [s21]
  simp only [List.take_length, Nat.zero_add, len_true, cond_true, show Int.toNat 0 = 0 from rfl, List.drop_zero]
  exact guard_split (preSo_mk rfl (by omega) (by omega) (by omega) (by simp)) rfl
/-! ### Bay -/
theorem q20a (b : Int) (out l : List Strip) (onl lnl : Bool) (n k : Int) (h : preSo out l n k = true) : s20aL b out onl l lnl n k = ansO l (baR b (out, onl) (l.drop k.toNat)) := by
  obtain ⟨h1, h2, h3, h4, h5⟩ := of_decide_eq_true h
  rw [s20a]
  simp only [List.take_length, Nat.zero_add, len_true, cond_true]
  refine cond_split (fun hk => ?_) (fun hk => ?_)
  · have hk := of_decide_eq_true hk
    obtain ⟨x, hx⟩ := get_ex (l := l) (k := k.toNat) (by omega)
    rw [hx, drop_cons hx, IntWalk.i64_in (k + 1) (by omega), show (k + 1).toNat = k.toNat + 1 by omega, baR_cons]
    refine guard_split (by simp; omega) ?_
    simp only [bindO]
    refine cond_split (fun hc => ?_) (fun hc => ?_)
    · rw [hc, cond_true, app_len, decide_eq_true (show out.length + 1 = out.length + 1 from rfl), cond_true]
      refine guard_split (by simp; omega) (guard_split (decide_eq_true (show (n - (k + 1)).toNat < (n - k).toNat by omega)) (guard_split (preSo_mk h1 (by omega) (by omega) h4 ?_) rfl))
      rw [app_len]; omega
    · rw [hc, cond_false, dT, cond_true]
      exact guard_split (decide_eq_true (show (n - (k + 1)).toNat < (n - k).toNat by omega)) (guard_split (preSo_mk h1 (by omega) (by omega) h4 (by omega)) rfl)
  · have hk := of_decide_eq_false hk
    rw [List.drop_eq_nil_of_le (by omega)]
    rfl
theorem baR_le (b : Int) : ∀ (l : List Strip) (o : List Strip × Bool), (baR b o l).1.length ≤ o.1.length + l.length
  | [], o => Nat.le_refl _
  | x :: r, o => by
    rw [baR_cons]
    cases x.2.2.2.2 == b with
    | true => have := baR_le b r (o.1 ++ [x], false); simp at this ⊢; omega
    | false => have := baR_le b r o; simp at this ⊢; omega
theorem q20 (b : Int) (L : List Strip) (n lo : Nat) (fu nl : Bool) (h : okV (L, n, lo, fu, nl) = true) : s20L L n lo fu nl b = pickA (sp20 (b, L, n, lo, fu, nl)).2 := by
  obtain ⟨rfl, h2, h3⟩ := okV_at h
  rw [s20]
  simp only [List.take_length, Nat.zero_add, len_true, cond_true, show Int.toNat 0 = 0 from rfl, List.drop_zero]
  have := baR_le b L ([], true)
  refine guard_split (preSo_mk rfl (by omega) (by omega) (by omega) (by simp)) (guard_split ?_ rfl)
  rw [dT, cond_true]
  simp at this
  exact decide_eq_true (by omega)
theorem q20n (b : Int) : s20nL [] 0 0 false false b = pickA (sp20n b).2 := by rw [s20n]; rfl
/-! ### SortFunc by time and call -/
def laysSF_ren : Go.Shelf.Ren := ⟨fun | 6 => 43 | 15 => 52 | 14 => 58 | 28 => 74 | 29 => 75 | 20 => 78 | 21 => 79 | 22 => 80 | 23 => 81 | 24 => 82 | 25 => 83 | 26 => 84 | 27 => 85 | 46 => 94 | 47 => 89 | 48 => 90 | 49 => 95 | 50 => 96 | 57 => 101 | n => n, fun | 22 => 29 | 24 => 26 | 25 => 78 | 3 => 3 | 39 => 87 | 0 => 0 | 53 => 104 | 55 => 106 | 4 => 4 | 46 => 98 | 45 => 97 | 50 => 82 | 5 => 5 | 9 => 9 | 66 => 113 | 70 => 117 | 76 => 123 | 77 => 124 | n => n, fun | n => n⟩
theorem laysSF : Go.Proofs.SlLaysF0.n6 Try.prog laysSF_ren := {
  mixed := by kernel_rfl
  f6 := ⟨Try.f43.name, by decide, Try.func43.trans (congrArg some (by kernel_rfl))⟩
  f14 := ⟨Try.f58.name, by decide, Try.func58.trans (congrArg some (by kernel_rfl))⟩
  f15 := Try.func52.trans (congrArg some (by kernel_rfl))
  f20 := ⟨Try.f78.name, by decide, Try.func78.trans (congrArg some (by kernel_rfl))⟩
  f21 := ⟨Try.f79.name, by decide, Try.func79.trans (congrArg some (by kernel_rfl))⟩
  f22 := ⟨Try.f80.name, by decide, Try.func80.trans (congrArg some (by kernel_rfl))⟩
  f23 := ⟨Try.f81.name, by decide, Try.func81.trans (congrArg some (by kernel_rfl))⟩
  f24 := ⟨Try.f82.name, by decide, Try.func82.trans (congrArg some (by kernel_rfl))⟩
  f25 := ⟨Try.f83.name, by decide, Try.func83.trans (congrArg some (by kernel_rfl))⟩
  f26 := ⟨Try.f84.name, by decide, Try.func84.trans (congrArg some (by kernel_rfl))⟩
  f27 := ⟨Try.f85.name, by decide, Try.func85.trans (congrArg some (by kernel_rfl))⟩
  f28 := Try.func74.trans (congrArg some (by kernel_rfl))
  f29 := Try.func75.trans (congrArg some (by kernel_rfl))
  f46 := ⟨Try.f94.name, by decide, Try.func94.trans (congrArg some (by kernel_rfl))⟩
  f47 := Try.func89.trans (congrArg some (by kernel_rfl))
  f48 := Try.func90.trans (congrArg some (by kernel_rfl))
  f49 := ⟨Try.f95.name, by decide, Try.func95.trans (congrArg some (by kernel_rfl))⟩
  f50 := ⟨Try.f96.name, by decide, Try.func96.trans (congrArg some (by kernel_rfl))⟩
  f57 := ⟨Try.f101.name, by decide, Try.func101.trans (congrArg some (by kernel_rfl))⟩
  t0 := Try.underlying0
  a0 := Try.isAgg0
  z0 := Try.sizeOf0
  v0 := Try.zeroValue0
  t3 := Try.underlying3
  a3 := Try.isAgg3
  z3 := Try.sizeOf3
  v3 := Try.zeroValue3
  t4 := Try.underlying4
  a4 := Try.isAgg4
  z4 := Try.sizeOf4
  v4 := Try.zeroValue4
  t5 := Try.underlying5
  a5 := Try.isAgg5
  z5 := Try.sizeOf5
  v5 := Try.zeroValue5
  t9 := Try.underlying9
  a9 := Try.isAgg9
  z9 := Try.sizeOf9
  v9 := Try.zeroValue9
  t22 := Try.underlying29
  a22 := Try.isAgg29
  z22 := Try.sizeOf29
  v22 := Try.zeroValue29
  t25 := Try.underlying78
  a25 := Try.isAgg78
  z25 := Try.sizeOf78
  v25 := Try.zeroValue78
  t39 := Try.underlying87
  a39 := Try.isAgg87
  z39 := Try.sizeOf87
  v39 := Try.zeroValue87
  t45 := Try.underlying97
  a45 := Try.isAgg97
  z45 := Try.sizeOf97
  v45 := Try.zeroValue97
  t46 := Try.underlying98
  a46 := Try.isAgg98
  z46 := Try.sizeOf98
  v46 := Try.zeroValue98
  t50 := Try.underlying82
  a50 := Try.isAgg82
  z50 := Try.sizeOf82
  v50 := Try.zeroValue82
  t53 := Try.underlying104
  a53 := Try.isAgg104
  z53 := Try.sizeOf104
  v53 := Try.zeroValue104
  t55 := Try.underlying106
  a55 := Try.isAgg106
  z55 := Try.sizeOf106
  v55 := Try.zeroValue106
  t66 := Try.underlying113
  a66 := Try.isAgg113
  z66 := Try.sizeOf113
  v66 := Try.zeroValue113
  t70 := Try.underlying117
  a70 := Try.isAgg117
  z70 := Try.sizeOf117
  v70 := Try.zeroValue117
  t76 := Try.underlying123
  a76 := Try.isAgg123
  z76 := Try.sizeOf123
  v76 := Try.zeroValue123
  t77 := Try.underlying124
  a77 := Try.isAgg124
  z77 := Try.sizeOf124
  v77 := Try.zeroValue124 }

theorem or_sgn {a b : Int} : orS a b = if a = 0 then b else a := by
  unfold orS
  by_cases h : a = 0
  · subst h; by_cases hb : b = 0
    · subst hb; rfl
    · rw [if_pos rfl, show ((0 : Int) != 0) = false from rfl, show (b != 0) = true by simpa using hb]; rfl
  · rw [if_neg h, show (a != 0) = true by simpa using h]; rfl
theorem cmpI_cases (a b : Int) : (a < b ∧ cmpI a b = -1) ∨ (b < a ∧ cmpI a b = 1) ∨ (a = b ∧ cmpI a b = 0) := by
  unfold cmpI
  by_cases h1 : a < b
  · exact Or.inl ⟨h1, by rw [decide_eq_true h1]; rfl⟩
  · by_cases h2 : b < a
    · exact Or.inr (Or.inl ⟨h2, by rw [decide_eq_false h1, decide_eq_true (show a > b from h2)]; rfl⟩)
    · exact Or.inr (Or.inr ⟨by omega, by rw [decide_eq_false h1, decide_eq_false (show ¬ a > b from h2)]; rfl⟩)
theorem cmpT_eq (x y : Strip) : cmpT x y = if cmpI x.2.2.1 y.2.2.1 = 0 then YtokephobkllfgaaStr.cB x.1.data.toList y.1.data.toList else cmpI x.2.2.1 y.2.2.1 := or_sgn
theorem cmpT_flip (x y : Strip) : cmpT y x = -cmpT x y := by
  rw [cmpT_eq, cmpT_eq, YtokephobkllfgaaStr.cB_flip]
  rcases cmpI_cases x.2.2.1 y.2.2.1 with ⟨h1, e1⟩ | ⟨h1, e1⟩ | ⟨h1, e1⟩ <;> rcases cmpI_cases y.2.2.1 x.2.2.1 with ⟨h2, e2⟩ | ⟨h2, e2⟩ | ⟨h2, e2⟩ <;> first | omega | (rw [e1, e2]; simp)
theorem cmpT_trans {x y z : Strip} (h1 : cmpT x y ≤ 0) (h2 : cmpT y z ≤ 0) : cmpT x z ≤ 0 ∧ (cmpT x y < 0 ∨ cmpT y z < 0 → cmpT x z < 0) := by
  rw [cmpT_eq] at h1 h2 ⊢
  rw [cmpT_eq, cmpT_eq]
  have ht := @YtokephobkllfgaaStr.cB_trans x.1.data.toList y.1.data.toList z.1.data.toList
  rcases cmpI_cases x.2.2.1 y.2.2.1 with ⟨g1, e1⟩ | ⟨g1, e1⟩ | ⟨g1, e1⟩ <;> rcases cmpI_cases y.2.2.1 z.2.2.1 with ⟨g2, e2⟩ | ⟨g2, e2⟩ | ⟨g2, e2⟩ <;> rcases cmpI_cases x.2.2.1 z.2.2.1 with ⟨g3, e3⟩ | ⟨g3, e3⟩ | ⟨g3, e3⟩ <;> first | omega | (rw [e1] at h1; rw [e2] at h2; rw [e1, e2, e3]; simp at h1 h2 ⊢; try exact ht h1 h2)
theorem swo : Go.Sort.SWO (Go.Proofs.ltOf cmpT) where
  irrefl x := decide_eq_false (by have := cmpT_flip x x; omega)
  trans x y z h1 h2 := by
    have h1 := of_decide_eq_true h1
    have h2 := of_decide_eq_true h2
    exact decide_eq_true ((cmpT_trans (by omega) (by omega)).2 (Or.inl h1))
  ntrans x y z h1 h2 := by
    have h1 := of_decide_eq_false h1
    have h2 := of_decide_eq_false h2
    have e1 := cmpT_flip x y
    have e2 := cmpT_flip y z
    have e3 := cmpT_flip x z
    have := (cmpT_trans (x := z) (y := y) (z := x) (by omega) (by omega)).1
    exact decide_eq_false (by omega)
theorem call44 (x y : Strip) : CallOK Try.prog 44 [.agg (scs (kS.vals x)), .agg (scs (kS.vals y))] [] (.sc (.int .i64 (cmpT x y))) [] :=
  have h : CallOK Try.prog 44 (showA 0 [sSt, sSt] (x, (y, ()))).1 (showA 0 [sSt, sSt] (x, (y, ()))).2 (.sc (.int .i64 (cmpT x y))) [] := evFuncV_sound U3_ok mixed Try.func44 (show Try.f44.body = some (bodyF Try.f44) from rfl) (noCuts_ok _) (q44 x y) (by rw [showA_len]; decide)
  h
theorem sort_at (blk off cap : Nat) (zs : List Strip) (w : World) (hH : HoldsK kS.vals kS.sz w blk off zs.toArray) (hblk : blk < w.heap.size) (hsz : zs.length < 4611686018427387904) :
    Calls Try.prog 43 #[.slice (some ⟨blk, off, none⟩) zs.length cap, .func (.func 44) #[] #[]] w fun e w' => e = .returned (.tuple #[]) ∧ ∃ n os, w' = sortWorldK kS.vals kS.sz w blk off n (srtT zs).toArray os :=
  AnyQ.slices_SortFunc_eq laysSF 5 Try.isAgg26 Try.sizeOf26 kS.vals (Kd.len_vals kS) (fun x v hv => Kd.one_vals kS x v hv) cmpT swo 44 #[] blk off cap zs.toArray w (enters_of Try.func44 (by kernel_rfl) rfl)
    (fun m os dk hd x y => YtokephobkllfgaaSf.grown_call call44 x y _) hH hblk (by simpa using hsz)
theorem srt_all (l : List Strip) : (srtT l).Perm l ∧ (srtT l).Pairwise fun x y => Go.Proofs.ltOf cmpT y x = false := by
  have h := Go.Sort.pdq_sorts (Go.Proofs.ltOf cmpT) swo l.toArray 0 l.length (Go.Lib.bitLen l.length) true true (Nat.zero_le _) (by simp) (Or.inl rfl)
  obtain ⟨⟨h1, h2, h3⟩, h4⟩ := h
  unfold srtT
  generalize Go.Sort.pdq (Go.Proofs.ltOf cmpT) l.toArray 0 l.length (Go.Lib.bitLen l.length) true true = d at *
  have hs : d.size = l.length := by simpa using h1
  constructor
  · have e : d.extract 0 l.length = d := by rw [← hs]; simp
    rw [e] at h3
    simpa using h3
  · exact YtokephobkllfgaaStr.sortedIn_pw (by rw [hs]; exact h4)
theorem srt_len (l : List Strip) : (srtT l).length = l.length := (srt_all l).1.length_eq
theorem e43 : EntOK Try.prog 43 (entV k43 (spec1 k43 [] (fun v => decide (v.1.1.length ≤ 1000)) (fun _ => ()) fun v => (srtT v.1.1, (), ()))) := by
  refine entV_ok Try.call43 ?_
  rintro ⟨⟨zs, nl⟩, ⟨⟩, ⟨⟩⟩ hv r H' hp
  have hv : zs.length ≤ 1000 := of_decide_eq_true hv
  have hp : (some (PV.tup [], [Blk.row true kS (srtT zs)]) : Option (PV × List Blk)) = some (r, H') := hp
  obtain ⟨rfl, rfl⟩ := Prod.mk.inj (Option.some.inj hp)
  by_cases h0 : zs.length = 0
  · obtain rfl : zs = [] := List.length_eq_zero_iff.1 h0
    have e : srtT [] = [] := List.length_eq_zero_iff.1 (by rw [srt_len]; rfl)
    rw [e]
    exact YtokephobkllfgaaSf.sortF_none (k := kS) (f := 43) (g := 44) (fun p cap w => AnyF.slices_SortFunc_none laysSF p cap _ w) nl
  · exact YtokephobkllfgaaSf.sortF_call (k := kS) srt_len sort_at zs nl (by omega) (by omega)
/-! ### Insert -/
def insRen : Go.Shelf.Ren := ⟨fun | 22 => 47 | 29 => 60 | 30 => 61 | 36 => 86 | 17 => 97 | n => n, fun | 9 => 26 | 24 => 29 | n => n, fun n => n⟩
theorem insLs : YtokephobkllfgaaIn.InsL Try.prog insRen 5 (.agg #[.string ⟨#[]⟩, .string ⟨#[]⟩, .int .i64 0, .int .i64 0, .int .i64 0]) 56 := {
  mixed := mixed
  f22 := ⟨Try.f47.name, by decide, Try.func47.trans (congrArg some (by kernel_rfl))⟩
  f29 := fun args w => run_callFunc_extern Try.func60 (by kernel_rfl) (by kernel_rfl) (by kernel_rfl) (by kernel_rfl) args w
  t0 := Try.underlying0
  a0 := Try.isAgg0
  z0 := Try.sizeOf0
  v0 := Try.zeroValue0
  t3 := Try.underlying3
  a3 := Try.isAgg3
  z3 := Try.sizeOf3
  v3 := Try.zeroValue3
  t4 := Try.underlying4
  a4 := Try.isAgg4
  z4 := Try.sizeOf4
  v4 := Try.zeroValue4
  z9 := Try.sizeOf26
  t24 := Try.underlying29
  a24 := Try.isAgg29
  z24 := Try.sizeOf29
  v24 := Try.zeroValue29
  i9 := by kernel_rfl }
theorem e47 : EntOK Try.prog 47 (entV kIn sp47) := by
  refine entV_ok Try.call47 ?_
  rintro ⟨⟨xs, nl⟩, i, ⟨ys, nl2⟩, ⟨⟩⟩ hv r H' hp
  obtain ⟨h1, h2, h3, h4⟩ := of_decide_eq_true (show pre47 xs i ys = true from hv)
  obtain ⟨x, rfl⟩ : ∃ x, ys = [x] := by
    match ys, h4 with
    | [x], _ => exact ⟨x, rfl⟩
  have hp : (some (PV.sl 2 0 5 (xs.length + 1) (xs.length + 1) false false, [Blk.dead, Blk.row true kS [x], Blk.row true kS (insS xs i [x])]) : Option (PV × List Blk)) = some (r, H') := hp
  obtain ⟨rfl, rfl⟩ := Prod.mk.inj (Option.some.inj hp)
  have h := YtokephobkllfgaaIn.ins_call (kd := kS) insLs (by rfl) (by omega) (by omega) (by decide) xs i.toNat x xs.length 1 false nl false nl2 (Blk.row true kS [x]) (by omega) (by omega) rfl (by show scs ([x].flatMap kS.vals) = _; rw [List.flatMap_singleton])
  rw [show (i.toNat : Int) = i by omega] at h
  exact h
theorem U8_ok : TableOK Try.prog U8 := ext_ok e47 (ext_ok e43 (ext_ok e19 U7_ok))
theorem cut_at {P : Program} {N id : Nat} {ins outs : List Nat} {ent : CutEnt} {cuts : Cuts} {c c' : Code} (h1 : oneCode id c = true) (h2 : codeAt id c = c') (h : CutOK P N c' ins outs ent) (hC : CutsOK P N cuts c) : CutsOK P N (addCut id ins outs ent cuts) c :=
  cut_cons h1 (h2 ▸ h) hC
theorem in21b : CutOK Try.prog Try.f21.ntmps (codeAt 2 (bodyF Try.f21)) [5, 7, 8] [8] (entC kAt cAt) := loop_cutW (kill := killA 0 kAt) U8_ok mixed muAt (by kernel_rfl) (noCuts_ok _) fun v h => q21a v.2.1 v.1.1 v.1.2 v.2.2.1 h
theorem in21 : CutOK Try.prog Try.f21.ntmps (codeAt 0 (bodyF Try.f21)) [1, 5, 9, 10, 11] [5] (entC kSo cSo) := loop_cutW (kill := killA 0 kSo) U8_ok mixed muSo (by kernel_rfl) (cut_at (by kernel_rfl) (by kernel_rfl) in21b (noCuts_ok _)) fun v h => q21b v.1 v.2.1.1 v.2.2.1.1 v.2.1.2 v.2.2.1.2 v.2.2.2.1 v.2.2.2.2.1 h
theorem nt20 : 2 ≤ Try.f20.ntmps := by decide
theorem U9_ok : TableOK Try.prog U9 :=
  ext_ok (entV_ok Try.call21 (liftV U8_ok mixed Try.func21 (show Try.f21.body = some (bodyF Try.f21) from rfl)
      (cut_cons (by kernel_rfl) in21 (noCuts_ok _)) (by decide) fun v h => q21 v.1.1 v.1.2 v.2.1 h))
  (ext_ok (orE_ok (entF_ok Try.call20 p41_st fun v h => liftF U8_ok mixed Try.func20 (show Try.f20.body = some (bodyF Try.f20) from rfl) (cut_cons (by kernel_rfl) (loop_cutW U8_ok mixed muSo (by kernel_rfl) (noCuts_ok _) fun v h => q20a v.1 v.2.1.1 v.2.2.1.1 v.2.1.2 v.2.2.1.2 v.2.2.2.1 v.2.2.2.2.1 h) (noCuts_ok _)) nt20 (q20 v.1 v.2.1 v.2.2.1 v.2.2.2.1 v.2.2.2.2.1 v.2.2.2.2.2 h))
    (entF_ok Try.call20 p41n_st fun v _ => liftF U8_ok mixed Try.func20 (show Try.f20.body = some (bodyF Try.f20) from rfl) (cut_cons (by kernel_rfl) (loop_cutW U8_ok mixed muSo (by kernel_rfl) (noCuts_ok _) fun v h => q20a v.1 v.2.1.1 v.2.2.1.1 v.2.1.2 v.2.2.1.2 v.2.2.2.1 v.2.2.2.2.1 h) (noCuts_ok _)) nt20 (q20n v))) U8_ok)
end Go.Proofs.YtokephobkllfgaaSs
