/- What is proved: times, lateness, the comparing of lists and the times by settling are what the plain functions say. No condition. -/
import Derived.Test.YtacdahpjmeianaaTas1
namespace Go.Proofs.YtacdahpjmeianaaAs
open Go Go.Proofs Go.Proofs.YtacdahpjmeianaaEv
set_option maxRecDepth 100000
set_option linter.unusedSimpArgs false
set_option linter.unusedVariables false
noncomputable abbrev a53L (a0 : List (ByteArray × Int × Int × Int)) (a1 : Bool) (a2 : List Int) := evFuncV Try.prog TT noCuts Try.f81 (killA 0 kC) (showA 0 kC ((a0, a1), (a2, ()))).1 (showA 0 kC ((a0, a1), (a2, ()))).2
theorem a53 (a0 : List (ByteArray × Int × Int × Int)) (a1 : Bool) (a2 : List Int) : a53L a0 a1 a2 = (guardB (decide (16 ≤ a2.length))
  (guardB (bif decide (0 + a0.length ≤ a0.length) then preL (List.take 16 a2) else false)
    (bif errS (List.take a0.length a0) (List.take 16 a2) != 0 then
      some
        (PV.tup
            [PV.sc (Value.slice none 0 0),
              PV.sc (Value.int IntKind.i64 (errS (List.take a0.length a0) (List.take 16 a2)))],
          [Blk.row false (Kd.str.pair ((Kd.int IntKind.i64).pair ((Kd.int IntKind.i64).pair (Kd.int IntKind.i64)))) a0])
    else
      guardB (decide (16 ≤ a2.length))
        (guardB (bif decide (0 + a0.length ≤ a0.length) then preF (List.take a0.length a0) (List.take 16 a2) else false)
          (some
            (PV.tup
                [PV.sl 1 0 1 (timesS (List.take 16 a2) (List.take a0.length a0)).length
                    (timesS (List.take 16 a2) (List.take a0.length a0)).length false
                    (decide (0 = (↑(List.take a0.length a0).length : Int))),
                  PV.sc (Value.int IntKind.i64 0)],
              [Blk.row false (Kd.str.pair ((Kd.int IntKind.i64).pair ((Kd.int IntKind.i64).pair (Kd.int IntKind.i64))))
                  a0,
                Blk.row true (Kd.int IntKind.i64) (timesS (List.take 16 a2) (List.take a0.length a0))])))))) := by kernel_rfl
noncomputable abbrev a54lL (a0 : List (ByteArray × Int × Int × Int)) (a1 : Bool) (a2 : List Int) (a3 : Bool) (a4 : List Int) (a5 : Bool) (a6 : Int) (a7 : Int) := evRound Try.prog TT noCuts 38 (loopOf (codeAt 0 (bodyF Try.f82))) k54 mu54 (killA 0 k54) [0, 7, 18, 19, 20] [7] c54 ((a0, a1), ((a2, a3), ((a4, a5), (a6, (a7, ())))))
theorem a54l (a0 : List (ByteArray × Int × Int × Int)) (a1 : Bool) (a2 : List Int) (a3 : Bool) (a4 : List Int) (a5 : Bool) (a6 : Int) (a7 : Int) : a54lL a0 a1 a2 a3 a4 a5 a6 a7 = (bif decide (a7 < a6) then
  guardB (decide (0 ≤ a7) && decide (a7 < (↑a4.length : Int)))
    (bindO a4[0 + a7.toNat]? fun x =>
      guardB (decide (0 ≤ a7) && decide (a7 < (↑a0.length : Int)))
        (bindO a0[0 + a7.toNat]? fun x_1 =>
          bif decide (x > x_1.snd.snd.snd) then
            guardB
              (decide (0 + a2.length ≤ a2.length) && true && decide ((a2.length + 1) * 8 ≤ 140737488355328) &&
                decide (a2.length + 1 ≤ 4611686018427387904))
              (guardB
                (decide
                  (mu54
                      ((List.take a0.length a0, a1), (List.take a2.length a2 ++ [a7], false),
                        (List.take a4.length a4, a5), a6, IntKind.i64.wrap (a7 + 1), PUnit.unit) <
                    mu54 ((a0, a1), (a2, a3), (a4, a5), a6, a7, ())))
                (guardB
                  (bif decide (0 + a0.length ≤ a0.length) then
                    bif decide (a2.length + 1 = (List.take a2.length a2 ++ [a7]).length) then
                      bif decide (0 + a4.length ≤ a4.length) then
                        pre54 (List.take a0.length a0) (List.take a2.length a2 ++ [a7]) false (List.take a4.length a4)
                          a6 (IntKind.i64.wrap (a7 + 1))
                      else false
                    else false
                  else false)
                  (some
                    (Xt.exit 0,
                      [PV.sl 3 0 1
                          (lateK (List.take a0.length a0) (List.take a4.length a4)
                              (List.take a0.length a0).length).length
                          (lateK (List.take a0.length a0) (List.take a4.length a4)
                              (List.take a0.length a0).length).length
                          false
                          (lateK (List.take a0.length a0) (List.take a4.length a4)
                              (List.take a0.length a0).length).isEmpty],
                      [Blk.row false
                          (Kd.str.pair ((Kd.int IntKind.i64).pair ((Kd.int IntKind.i64).pair (Kd.int IntKind.i64)))) a0,
                        Blk.dead, Blk.row false (Kd.int IntKind.i64) a4,
                        Blk.row true (Kd.int IntKind.i64)
                          (lateK (List.take a0.length a0) (List.take a4.length a4) (List.take a0.length a0).length)]))))
          else
            guardB
              (decide
                (mu54
                    ((List.take a0.length a0, a1), (a2, a3), (List.take a4.length a4, a5), a6,
                      IntKind.i64.wrap (a7 + 1), PUnit.unit) <
                  mu54 ((a0, a1), (a2, a3), (a4, a5), a6, a7, ())))
              (guardB
                (bif decide (0 + a0.length ≤ a0.length) then
                  bif decide (a2.length = a2.length) then
                    bif decide (0 + a4.length ≤ a4.length) then
                      pre54 (List.take a0.length a0) a2 a3 (List.take a4.length a4) a6 (IntKind.i64.wrap (a7 + 1))
                    else false
                  else false
                else false)
                (some
                  (Xt.exit 0,
                    [PV.sl 3 0 1
                        (lateK (List.take a0.length a0) (List.take a4.length a4) (List.take a0.length a0).length).length
                        (lateK (List.take a0.length a0) (List.take a4.length a4) (List.take a0.length a0).length).length
                        false
                        (lateK (List.take a0.length a0) (List.take a4.length a4)
                            (List.take a0.length a0).length).isEmpty],
                    [Blk.row false
                        (Kd.str.pair ((Kd.int IntKind.i64).pair ((Kd.int IntKind.i64).pair (Kd.int IntKind.i64)))) a0,
                      Blk.dead, Blk.row false (Kd.int IntKind.i64) a4,
                      Blk.row true (Kd.int IntKind.i64)
                        (lateK (List.take a0.length a0) (List.take a4.length a4) (List.take a0.length a0).length)])))))
else
  some
    (Xt.exit 0, [PV.sl 3 0 1 a2.length a2.length false a3],
      [Blk.row false (Kd.str.pair ((Kd.int IntKind.i64).pair ((Kd.int IntKind.i64).pair (Kd.int IntKind.i64)))) a0,
        Blk.dead, Blk.row false (Kd.int IntKind.i64) a4, Blk.row true (Kd.int IntKind.i64) a2])) := by kernel_rfl
noncomputable abbrev a54L (a0 : List (ByteArray × Int × Int × Int)) (a1 : Bool) (a2 : List Int) := evFuncV Try.prog TT (addCut 0 [0, 7, 18, 19, 20] [7] (entC k54 c54) noCuts) Try.f82 (killA 0 kC) (showA 0 kC ((a0, a1), (a2, ()))).1 (showA 0 kC ((a0, a1), (a2, ()))).2
theorem a54 (a0 : List (ByteArray × Int × Int × Int)) (a1 : Bool) (a2 : List Int) : a54L a0 a1 a2 = (guardB (decide (16 ≤ a2.length))
  (guardB (bif decide (0 + a0.length ≤ a0.length) then preL (List.take 16 a2) else false)
    (bif errS (List.take a0.length a0) (List.take 16 a2) != 0 then
      some
        (PV.tup
            [PV.sc (Value.slice none 0 0),
              PV.sc (Value.int IntKind.i64 (errS (List.take a0.length a0) (List.take 16 a2)))],
          [Blk.row false (Kd.str.pair ((Kd.int IntKind.i64).pair ((Kd.int IntKind.i64).pair (Kd.int IntKind.i64)))) a0])
    else
      guardB (decide (16 ≤ a2.length))
        (guardB (bif decide (0 + a0.length ≤ a0.length) then preF (List.take a0.length a0) (List.take 16 a2) else false)
          (guardB
            (bif decide (0 + a0.length ≤ a0.length) then
              bif
                  decide
                    (0 + (timesS (List.take 16 a2) (List.take a0.length a0)).length ≤
                      (timesS (List.take 16 a2) (List.take a0.length a0)).length) then
                pre54 (List.take a0.length a0) [] true
                  (List.take (timesS (List.take 16 a2) (List.take a0.length a0)).length
                    (timesS (List.take 16 a2) (List.take a0.length a0)))
                  (↑(timesS (List.take 16 a2) (List.take a0.length a0)).length : Int) 0
              else false
            else false)
            (some
              (PV.tup
                  [PV.sl 1 0 1
                      (lateK (List.take a0.length a0)
                          (List.take (timesS (List.take 16 a2) (List.take a0.length a0)).length
                            (timesS (List.take 16 a2) (List.take a0.length a0)))
                          (List.take a0.length a0).length).length
                      (lateK (List.take a0.length a0)
                          (List.take (timesS (List.take 16 a2) (List.take a0.length a0)).length
                            (timesS (List.take 16 a2) (List.take a0.length a0)))
                          (List.take a0.length a0).length).length
                      false
                      (lateK (List.take a0.length a0)
                          (List.take (timesS (List.take 16 a2) (List.take a0.length a0)).length
                            (timesS (List.take 16 a2) (List.take a0.length a0)))
                          (List.take a0.length a0).length).isEmpty,
                    PV.sc (Value.int IntKind.i64 0)],
                [Blk.row false
                    (Kd.str.pair ((Kd.int IntKind.i64).pair ((Kd.int IntKind.i64).pair (Kd.int IntKind.i64)))) a0,
                  Blk.row true (Kd.int IntKind.i64)
                    (lateK (List.take a0.length a0)
                      (List.take (timesS (List.take 16 a2) (List.take a0.length a0)).length
                        (timesS (List.take 16 a2) (List.take a0.length a0)))
                      (List.take a0.length a0).length)]))))))) := by kernel_rfl
noncomputable abbrev a58lL (a0 : List Int) (a1 : Bool) (a2 : List Int) (a3 : Bool) (a4 : Int) (a5 : Int) := evRound Try.prog T0 noCuts 26 (loopOf (codeAt 0 (bodyF Try.f26))) k58 mu58 (killA 0 k58) [0, 1, 12, 13] [4] c58 ((a0, a1), ((a2, a3), (a4, (a5, ()))))
theorem a58l (a0 : List Int) (a1 : Bool) (a2 : List Int) (a3 : Bool) (a4 : Int) (a5 : Int) : a58lL a0 a1 a2 a3 a4 a5 = (bif decide (a5 < a4) then
  guardB (decide (0 ≤ a5) && decide (a5 < (↑a0.length : Int)))
    (bindO a0[0 + a5.toNat]? fun x =>
      guardB (decide (0 ≤ a5) && decide (a5 < (↑a2.length : Int)))
        (bindO a2[0 + a5.toNat]? fun x_1 =>
          bif x != x_1 then
            some
              (Xt.ret, [PV.sc (Value.bool false)],
                [Blk.row false (Kd.int IntKind.i64) a0, Blk.row false (Kd.int IntKind.i64) a2])
          else
            guardB
              (decide
                (mu58
                    ((List.take a0.length a0, a1), (List.take a2.length a2, a3), a4, IntKind.i64.wrap (a5 + 1),
                      PUnit.unit) <
                  mu58 ((a0, a1), (a2, a3), a4, a5, ())))
              (guardB
                (bif decide (0 + a0.length ≤ a0.length) then
                  bif decide (0 + a2.length ≤ a2.length) then
                    pre58 (List.take a0.length a0) (List.take a2.length a2) a4 (IntKind.i64.wrap (a5 + 1))
                  else false
                else false)
                (bif
                    decide
                      (List.drop (IntKind.i64.wrap (a5 + 1)).toNat (List.take a0.length a0) =
                        List.drop (IntKind.i64.wrap (a5 + 1)).toNat (List.take a2.length a2)) then
                  some
                    (Xt.exit 0, [PV.undef],
                      [Blk.row false (Kd.int IntKind.i64) a0, Blk.row false (Kd.int IntKind.i64) a2])
                else
                  some
                    (Xt.ret, [PV.sc (Value.bool false)],
                      [Blk.row false (Kd.int IntKind.i64) a0, Blk.row false (Kd.int IntKind.i64) a2])))))
else some (Xt.exit 0, [PV.undef], [Blk.row false (Kd.int IntKind.i64) a0, Blk.row false (Kd.int IntKind.i64) a2])) := by kernel_rfl
noncomputable abbrev a84lL (a0 : List Int) (a1 : Bool) (a2 : List Int) (a3 : Bool) (a4 : Int) (a5 : Int) := evRound Try.prog T0 noCuts 26 (loopOf (codeAt 0 (bodyF Try.f16))) k58 mu58 (killA 0 k58) [0, 1, 12, 13] [4] c58 ((a0, a1), ((a2, a3), (a4, (a5, ()))))
theorem a84l (a0 : List Int) (a1 : Bool) (a2 : List Int) (a3 : Bool) (a4 : Int) (a5 : Int) : a84lL a0 a1 a2 a3 a4 a5 = (bif decide (a5 < a4) then
  guardB (decide (0 ≤ a5) && decide (a5 < (↑a0.length : Int)))
    (bindO a0[0 + a5.toNat]? fun x =>
      guardB (decide (0 ≤ a5) && decide (a5 < (↑a2.length : Int)))
        (bindO a2[0 + a5.toNat]? fun x_1 =>
          bif x != x_1 then
            some
              (Xt.ret, [PV.sc (Value.bool false)],
                [Blk.row false (Kd.int IntKind.i64) a0, Blk.row false (Kd.int IntKind.i64) a2])
          else
            guardB
              (decide
                (mu58
                    ((List.take a0.length a0, a1), (List.take a2.length a2, a3), a4, IntKind.i64.wrap (a5 + 1),
                      PUnit.unit) <
                  mu58 ((a0, a1), (a2, a3), a4, a5, ())))
              (guardB
                (bif decide (0 + a0.length ≤ a0.length) then
                  bif decide (0 + a2.length ≤ a2.length) then
                    pre58 (List.take a0.length a0) (List.take a2.length a2) a4 (IntKind.i64.wrap (a5 + 1))
                  else false
                else false)
                (bif
                    decide
                      (List.drop (IntKind.i64.wrap (a5 + 1)).toNat (List.take a0.length a0) =
                        List.drop (IntKind.i64.wrap (a5 + 1)).toNat (List.take a2.length a2)) then
                  some
                    (Xt.exit 0, [PV.undef],
                      [Blk.row false (Kd.int IntKind.i64) a0, Blk.row false (Kd.int IntKind.i64) a2])
                else
                  some
                    (Xt.ret, [PV.sc (Value.bool false)],
                      [Blk.row false (Kd.int IntKind.i64) a0, Blk.row false (Kd.int IntKind.i64) a2])))))
else some (Xt.exit 0, [PV.undef], [Blk.row false (Kd.int IntKind.i64) a0, Blk.row false (Kd.int IntKind.i64) a2])) := by kernel_rfl
noncomputable abbrev a58L (a0 : List Int) (a1 : Bool) (a2 : List Int) (a3 : Bool) := evFuncV Try.prog T0 (addCut 0 [0, 1, 12, 13] [4] (entC k58 c58) noCuts) Try.f26 (killA 0 kE) (showA 0 kE ((a0, a1), ((a2, a3), ()))).1 (showA 0 kE ((a0, a1), ((a2, a3), ()))).2
theorem a58 (a0 : List Int) (a1 : Bool) (a2 : List Int) (a3 : Bool) : a58L a0 a1 a2 a3 = (bif (↑a0.length : Int) != (↑a2.length : Int) then
  some (PV.sc (Value.bool false), [Blk.row false (Kd.int IntKind.i64) a0, Blk.row false (Kd.int IntKind.i64) a2])
else
  guardB
    (bif decide (0 + a0.length ≤ a0.length) then
      bif decide (0 + a2.length ≤ a2.length) then
        pre58 (List.take a0.length a0) (List.take a2.length a2) (↑a0.length : Int) 0
      else false
    else false)
    (bif
        decide
          (List.drop (Int.toNat 0) (List.take a0.length a0) = List.drop (Int.toNat 0) (List.take a2.length a2)) then
      some (PV.sc (Value.bool true), [Blk.row false (Kd.int IntKind.i64) a0, Blk.row false (Kd.int IntKind.i64) a2])
    else
      some (PV.sc (Value.bool false), [Blk.row false (Kd.int IntKind.i64) a0, Blk.row false (Kd.int IntKind.i64) a2]))) := by kernel_rfl
noncomputable abbrev a84L (a0 : List Int) (a1 : Bool) (a2 : List Int) (a3 : Bool) := evFuncV Try.prog T0 (addCut 0 [0, 1, 12, 13] [4] (entC k58 c58) noCuts) Try.f16 (killA 0 kE) (showA 0 kE ((a0, a1), ((a2, a3), ()))).1 (showA 0 kE ((a0, a1), ((a2, a3), ()))).2
theorem a84 (a0 : List Int) (a1 : Bool) (a2 : List Int) (a3 : Bool) : a84L a0 a1 a2 a3 = (bif (↑a0.length : Int) != (↑a2.length : Int) then
  some (PV.sc (Value.bool false), [Blk.row false (Kd.int IntKind.i64) a0, Blk.row false (Kd.int IntKind.i64) a2])
else
  guardB
    (bif decide (0 + a0.length ≤ a0.length) then
      bif decide (0 + a2.length ≤ a2.length) then
        pre58 (List.take a0.length a0) (List.take a2.length a2) (↑a0.length : Int) 0
      else false
    else false)
    (bif
        decide
          (List.drop (Int.toNat 0) (List.take a0.length a0) = List.drop (Int.toNat 0) (List.take a2.length a2)) then
      some (PV.sc (Value.bool true), [Blk.row false (Kd.int IntKind.i64) a0, Blk.row false (Kd.int IntKind.i64) a2])
    else
      some (PV.sc (Value.bool false), [Blk.row false (Kd.int IntKind.i64) a0, Blk.row false (Kd.int IntKind.i64) a2]))) := by kernel_rfl
noncomputable abbrev a57aL (a0 : List Int) (a1 : Bool) (a2 : List (ByteArray × Int × Int × Int)) (a3 : Bool) (a4 : Int) (a5 : Int) := evRound Try.prog T0 noCuts 72 (loopOf (codeAt 0 (bodyF Try.f37))) k57a mu57a (killA 0 k57a) [5, 14, 15, 16] [] c57a ((a0, a1), ((a2, a3), (a4, (a5, ()))))
theorem a57a (a0 : List Int) (a1 : Bool) (a2 : List (ByteArray × Int × Int × Int)) (a3 : Bool) (a4 : Int) (a5 : Int) : a57aL a0 a1 a2 a3 a4 a5 = (bif decide (a5 < a4) then
  guardB (decide (0 ≤ a5) && decide (a5 < (↑a2.length : Int)))
    (bindO a2[0 + a5.toNat]? fun x =>
      guardB (decide (0 ≤ a5) && decide (a5 < (↑a0.length : Int)))
        (bindO a0[0 + a5.toNat]? fun x_1 =>
          guardB
            (decide
              (mu57a
                  ((a0.set (0 + a5.toNat) x.snd.snd.fst, a1), (List.take a2.length a2, a3), a4,
                    IntKind.i64.wrap (a5 + 1), PUnit.unit) <
                mu57a ((a0, a1), (a2, a3), a4, a5, ())))
            (guardB
              (bif decide (a0.length = (a0.set (0 + a5.toNat) x.snd.snd.fst).length) then
                bif decide (0 + a2.length ≤ a2.length) then
                  pre57a (a0.set (0 + a5.toNat) x.snd.snd.fst) (List.take a2.length a2) a4 (IntKind.i64.wrap (a5 + 1))
                else false
              else false)
              (some
                (Xt.exit 0, [],
                  [Blk.row true (Kd.int IntKind.i64) (rdy (List.take a2.length a2)),
                    Blk.row false
                      (Kd.str.pair ((Kd.int IntKind.i64).pair ((Kd.int IntKind.i64).pair (Kd.int IntKind.i64))))
                      a2])))))
else
  some
    (Xt.exit 0, [],
      [Blk.row true (Kd.int IntKind.i64) a0,
        Blk.row false (Kd.str.pair ((Kd.int IntKind.i64).pair ((Kd.int IntKind.i64).pair (Kd.int IntKind.i64)))) a2])) := by kernel_rfl
noncomputable abbrev a57dL (a0 : List (ByteArray × Int × Int × Int)) (a1 : Bool) (a2 : List Int) (a3 : List Int) (a4 : Bool) (a5 : Int) (a6 : Int) (a7 : Int) := evRound Try.prog T0 noCuts 72 (loopOf (codeAt 6 (bodyF Try.f37))) k57d mu57d (killA 0 k57d) [0, 3, 5, 8, 36, 37] [] c57d ((a0, a1), (a2, ((a3, a4), (a5, (a6, (a7, ()))))))
theorem a57d (a0 : List (ByteArray × Int × Int × Int)) (a1 : Bool) (a2 : List Int) (a3 : List Int) (a4 : Bool) (a5 : Int) (a6 : Int) (a7 : Int) : a57dL a0 a1 a2 a3 a4 a5 a6 a7 = (bif decide (a7 < a6) then
  guardB (decide (0 ≤ a7) && decide (a7 < (↑a3.length : Int)))
    (bindO a3[0 + a7.toNat]? fun x =>
      guardB (decide (0 ≤ a7) && decide (a7 < (↑a0.length : Int)))
        (bindO a0[0 + a7.toNat]? fun x_1 =>
          guardB (decide (0 ≤ a5) && decide (a5 < (↑a0.length : Int)))
            (bindO a0[0 + a5.toNat]? fun x_2 =>
              guardB (decide (0 ≤ x_1.snd.fst) && decide (x_1.snd.fst < 4))
                (guardB (decide (0 ≤ x_2.snd.fst) && decide (x_2.snd.fst < 4))
                  (bindO a2[0 + Int.toNat x_1.snd.fst * 4 + Int.toNat x_2.snd.fst * 1]? fun x_3 =>
                    guardB (decide (0 ≤ a5) && decide (a5 < (↑a3.length : Int)))
                      (bindO a3[0 + a5.toNat]? fun x_4 =>
                        bif decide (x_4 < IntKind.i64.wrap (x + x_3)) then
                          guardB (decide (0 ≤ a5) && decide (a5 < (↑a3.length : Int)))
                            (bindO a3[0 + a5.toNat]? fun x_5 =>
                              guardB
                                (decide
                                  (mu57d
                                      ((List.take a0.length a0, a1), a2,
                                        (a3.set (0 + a5.toNat) (IntKind.i64.wrap (x + x_3)), a4), a5, a6,
                                        IntKind.i64.wrap (a7 + 1), PUnit.unit) <
                                    mu57d ((a0, a1), a2, (a3, a4), a5, a6, a7, ())))
                                (guardB
                                  (bif decide (0 + a0.length ≤ a0.length) then
                                    bif
                                        decide
                                          (a3.length = (a3.set (0 + a5.toNat) (IntKind.i64.wrap (x + x_3))).length) then
                                      pre57d (List.take a0.length a0) a2
                                        (a3.set (0 + a5.toNat) (IntKind.i64.wrap (x + x_3))) a5 a6
                                        (IntKind.i64.wrap (a7 + 1))
                                    else false
                                  else false)
                                  (some
                                    (Xt.exit 6, [],
                                      [Blk.row false
                                          (Kd.str.pair
                                            ((Kd.int IntKind.i64).pair
                                              ((Kd.int IntKind.i64).pair (Kd.int IntKind.i64))))
                                          a0,
                                        Blk.row false (Kd.int IntKind.i64) a2,
                                        Blk.row true (Kd.int IntKind.i64)
                                          (rel6 (List.take a0.length a0) a2 a5.toNat (IntKind.i64.wrap (a7 + 1)).toNat
                                            (a3.set (0 + a5.toNat) (IntKind.i64.wrap (x + x_3))))]))))
                        else
                          guardB
                            (decide
                              (mu57d
                                  ((List.take a0.length a0, a1), a2, (a3, a4), a5, a6, IntKind.i64.wrap (a7 + 1),
                                    PUnit.unit) <
                                mu57d ((a0, a1), a2, (a3, a4), a5, a6, a7, ())))
                            (guardB
                              (bif decide (0 + a0.length ≤ a0.length) then
                                bif decide (a3.length = a3.length) then
                                  pre57d (List.take a0.length a0) a2 a3 a5 a6 (IntKind.i64.wrap (a7 + 1))
                                else false
                              else false)
                              (some
                                (Xt.exit 6, [],
                                  [Blk.row false
                                      (Kd.str.pair
                                        ((Kd.int IntKind.i64).pair ((Kd.int IntKind.i64).pair (Kd.int IntKind.i64))))
                                      a0,
                                    Blk.row false (Kd.int IntKind.i64) a2,
                                    Blk.row true (Kd.int IntKind.i64)
                                      (rel6 (List.take a0.length a0) a2 a5.toNat (IntKind.i64.wrap (a7 + 1)).toNat
                                        a3)])))))))))
else
  some
    (Xt.exit 6, [],
      [Blk.row false (Kd.str.pair ((Kd.int IntKind.i64).pair ((Kd.int IntKind.i64).pair (Kd.int IntKind.i64)))) a0,
        Blk.row false (Kd.int IntKind.i64) a2, Blk.row true (Kd.int IntKind.i64) a3])) := by kernel_rfl
noncomputable abbrev a57cL (a0 : List (ByteArray × Int × Int × Int)) (a1 : Bool) (a2 : List Int) (a3 : List Int) (a4 : Bool) (a5 : Int) (a6 : Int) := evRound Try.prog T0 (addCut 6 [0, 3, 5, 8, 36, 37] [] (entC k57d c57d) noCuts) 72 (loopOf (codeAt 4 (bodyF Try.f37))) k57c mu57c (killA 0 k57c) [0, 3, 5, 32, 33] [] c57c ((a0, a1), (a2, ((a3, a4), (a5, (a6, ())))))
theorem a57c (a0 : List (ByteArray × Int × Int × Int)) (a1 : Bool) (a2 : List Int) (a3 : List Int) (a4 : Bool) (a5 : Int) (a6 : Int) : a57cL a0 a1 a2 a3 a4 a5 a6 = (bif decide (a6 < a5) then
  guardB
    (bif decide (0 + a0.length ≤ a0.length) then
      bif decide (a3.length = a3.length) then pre57d (List.take a0.length a0) a2 a3 a6 a6 0 else false
    else false)
    (guardB
      (decide
        (mu57c
            ((List.take a0.length a0, a1), a2, (rel6 (List.take a0.length a0) a2 a6.toNat (Int.toNat 0) a3, a4), a5,
              IntKind.i64.wrap (a6 + 1), PUnit.unit) <
          mu57c ((a0, a1), a2, (a3, a4), a5, a6, ())))
      (guardB
        (bif decide (0 + a0.length ≤ a0.length) then
          bif decide (a3.length = (rel6 (List.take a0.length a0) a2 a6.toNat (Int.toNat 0) a3).length) then
            pre57c (List.take a0.length a0) a2 (rel6 (List.take a0.length a0) a2 a6.toNat (Int.toNat 0) a3) a5
              (IntKind.i64.wrap (a6 + 1))
          else false
        else false)
        (some
          (Xt.exit 4, [],
            [Blk.row false (Kd.str.pair ((Kd.int IntKind.i64).pair ((Kd.int IntKind.i64).pair (Kd.int IntKind.i64))))
                a0,
              Blk.row false (Kd.int IntKind.i64) a2,
              Blk.row true (Kd.int IntKind.i64) (timesS a2 (List.take a0.length a0))]))))
else
  some
    (Xt.exit 4, [],
      [Blk.row false (Kd.str.pair ((Kd.int IntKind.i64).pair ((Kd.int IntKind.i64).pair (Kd.int IntKind.i64)))) a0,
        Blk.row false (Kd.int IntKind.i64) a2, Blk.row true (Kd.int IntKind.i64) a3])) := by kernel_rfl
noncomputable abbrev a57bL (a0 : List (ByteArray × Int × Int × Int)) (a1 : Bool) (a2 : List Int) (a3 : List Int) (a4 : Bool) (a5 : Int) (a6 : Int) := evRound Try.prog T0 (addCut 4 [0, 3, 5, 32, 33] [] (entC k57c c57c) noCuts) 72 (loopOf (codeAt 2 (bodyF Try.f37))) k57c mu57c (killA 0 k57c) [0, 3, 5, 28, 29] [] c57b ((a0, a1), (a2, ((a3, a4), (a5, (a6, ())))))
theorem a57b (a0 : List (ByteArray × Int × Int × Int)) (a1 : Bool) (a2 : List Int) (a3 : List Int) (a4 : Bool) (a5 : Int) (a6 : Int) : a57bL a0 a1 a2 a3 a4 a5 a6 = (bif decide (a6 < a5) then
  guardB
    (bif decide (0 + a0.length ≤ a0.length) then
      bif decide (a3.length = a3.length) then pre57c (List.take a0.length a0) a2 a3 (↑a0.length : Int) 0 else false
    else false)
    (guardB
      (decide
        (mu57c
            ((List.take a0.length a0, a1), a2, (timesS a2 (List.take a0.length a0), a4), a5, IntKind.i64.wrap (a6 + 1),
              PUnit.unit) <
          mu57c ((a0, a1), a2, (a3, a4), a5, a6, ())))
      (guardB
        (bif decide (0 + a0.length ≤ a0.length) then
          bif decide (a3.length = (timesS a2 (List.take a0.length a0)).length) then
            pre57b (List.take a0.length a0) a2 (timesS a2 (List.take a0.length a0)) a5 (IntKind.i64.wrap (a6 + 1))
          else false
        else false)
        (some
          (Xt.exit 2, [],
            [Blk.row false (Kd.str.pair ((Kd.int IntKind.i64).pair ((Kd.int IntKind.i64).pair (Kd.int IntKind.i64))))
                a0,
              Blk.row false (Kd.int IntKind.i64) a2,
              Blk.row true (Kd.int IntKind.i64) (timesS a2 (List.take a0.length a0))]))))
else
  some
    (Xt.exit 2, [],
      [Blk.row false (Kd.str.pair ((Kd.int IntKind.i64).pair ((Kd.int IntKind.i64).pair (Kd.int IntKind.i64)))) a0,
        Blk.row false (Kd.int IntKind.i64) a2, Blk.row true (Kd.int IntKind.i64) a3])) := by kernel_rfl
noncomputable abbrev a57L (a0 : List (ByteArray × Int × Int × Int)) (a1 : Bool) (a2 : List Int) := evFuncV Try.prog T0 (addCut 0 [5, 14, 15, 16] [] (entC k57a c57a) (addCut 2 [0, 3, 5, 28, 29] [] (entC k57c c57b) noCuts)) Try.f37 (killA 0 kC) (showA 0 kC ((a0, a1), (a2, ()))).1 (showA 0 kC ((a0, a1), (a2, ()))).2
theorem a57 (a0 : List (ByteArray × Int × Int × Int)) (a1 : Bool) (a2 : List Int) : a57L a0 a1 a2 = (guardB
  (decide (0 ≤ (↑a0.length : Int)) && decide ((↑a0.length : Int) ≤ (↑a0.length : Int)) &&
      decide ((↑a0.length : Int) * 8 ≤ 140737488355328) &&
    decide ((↑a0.length : Int) ≤ 9223372036854775807))
  (guardB
    (bif decide ((↑a0.length : Int).toNat = (List.replicate (↑a0.length : Int).toNat (0 : Int)).length) then
      bif decide (0 + a0.length ≤ a0.length) then
        pre57a (List.replicate (↑a0.length : Int).toNat (0 : Int)) (List.take a0.length a0) (↑a0.length : Int) 0
      else false
    else false)
    (guardB
      (bif decide (0 + a0.length ≤ a0.length) then
        bif decide ((↑a0.length : Int).toNat = (rdy (List.take a0.length a0)).length) then
          pre57b (List.take a0.length a0) a2 (rdy (List.take a0.length a0)) (↑a0.length : Int) 0
        else false
      else false)
      (some
        (PV.sl 1 0 1 (↑a0.length : Int).toNat (↑a0.length : Int).toNat false false,
          [Blk.row false (Kd.str.pair ((Kd.int IntKind.i64).pair ((Kd.int IntKind.i64).pair (Kd.int IntKind.i64)))) a0,
            Blk.row true (Kd.int IntKind.i64) (timesS a2 (List.take a0.length a0))]))))) := by kernel_rfl
theorem len_true {α : Type} (l : List α) : decide (l.length ≤ l.length) = true := by simp
theorem take16 {g : List Int} (h : g.length = 16) : List.take 16 g = g := List.take_of_length_le (by omega)
theorem fine_mk {l : List Item} {g : List Int} (h1 : g.length = 16) (h2 : errS l g = 0) : preF l g = true := bp_mk ⟨h1, h2⟩
theorem p53 (l : List Item) (nl : Bool) (g : List Int) (h : preL g = true) : a53L l nl g = cond (decide (errS l g = 0)) (some (PV.tup [PV.sl 1 0 1 (timesS g l).length (timesS g l).length false (decide (0 = (l.length : Int))), PV.sc (.int .i64 0)], [Blk.row false kA l, Blk.row true I (timesS g l)])) (some (PV.tup [PV.sc (.slice none 0 0), PV.sc (.int .i64 (errS l g))], [Blk.row false kA l])) := by
  have hg := of_decide_eq_true h
  rw [a53, take16 hg]
  simp only [List.take_length, Nat.zero_add, len_true, cond_true, h]
  refine guard_split (decide_eq_true (by omega)) (guard_split rfl ?_)
  by_cases he : errS l g = 0
  · rw [show (errS l g != 0) = false by simpa using he, decide_eq_true he]
    exact guard_split (decide_eq_true (by omega)) (guard_split (fine_mk hg he) rfl)
  · rw [show (errS l g != 0) = true by simpa using he, decide_eq_false he]; rfl
theorem late_at {l : List Item} {T : List Int} {k : Nat} {x : Item} {t : Int} (hx : l[k]? = some x) (ht : T[k]? = some t) : lateK l T (k + 1) = bif decide (t > x.2.2.2) then lateK l T k ++ [(k : Int)] else lateK l T k := by
  show (bif decide ((T[k]?).getD 0 > (match l[k]? with | some x => x.2.2.2 | none => 0)) then _ else _) = _
  rw [hx, ht]; rfl
theorem late_len {l : List Item} {T : List Int} : ∀ k, (lateK l T k).length ≤ k
  | 0 => Nat.le_refl _
  | k + 1 => by
    have := late_len (l := l) (T := T) k
    unfold lateK
    generalize decide ((T[k]?).getD 0 > (match l[k]? with | some x => x.2.2.2 | none => 0)) = b
    cases b
    · exact Nat.le_succ_of_le this
    · show (lateK l T k ++ [(k : Int)]).length ≤ k + 1
      rw [List.length_append]; simp; exact this
def ans54 (l : List Item) (T out : List Int) (no : Bool) : Option (Xt × List PV × List Blk) := some (Xt.exit 0, [PV.sl 3 0 1 out.length out.length false no], [Blk.row false kA l, .dead, Blk.row false I T, Blk.row true I out])
theorem p54l (l : List Item) (nl : Bool) (out : List Int) (no : Bool) (T : List Int) (nT : Bool) (n k : Int) (h : pre54 l out no T n k = true) : a54lL l nl out no T nT n k = ans54 l T (lateK l T l.length) (lateK l T l.length).isEmpty := by
  obtain ⟨h0, h1, h2, h3, h4, h5, h6⟩ := bp_true.1 h
  rw [a54l]
  simp only [List.take_length, Nat.zero_add, len_true, cond_true]
  refine cond_split (fun h => ?_) (fun h => ?_)
  · have h := of_decide_eq_true h
    obtain ⟨x, hx⟩ := get_ex (l := l) (k := k.toNat) (by omega)
    obtain ⟨t, ht⟩ := get_ex (l := T) (k := k.toNat) (by omega)
    have hs := late_at hx ht
    rw [← h5] at hs
    have hlen : out.length ≤ 32 := by have := late_len (l := l) (T := T) k.toNat; rw [← h5] at this; omega
    rw [hx, ht]
    refine guard_split (by simp; omega) ?_
    simp only [bindO]
    refine guard_split (by simp; omega) ?_
    rw [IntWalk.i64_in (k + 1) (by omega)]
    have hmu : ∀ a b : List Int × Bool, decide (mu54 ((l, nl), a, (T, nT), n, k + 1, PUnit.unit) < mu54 ((l, nl), b, (T, nT), n, k, ())) = true := fun a b => decide_eq_true (show (n - (k + 1)).toNat < (n - k).toNat by omega)
    rw [show (k.toNat : Int) = k by omega] at hs
    refine cond_split (fun h => ?_) (fun h => ?_)
    · rw [h] at hs
      refine guard_split (by simp; omega) (guard_split (hmu _ _) (guard_split ?_ rfl))
      rw [show decide (out.length + 1 = (out ++ [k]).length) = true by simp]
      exact bp_mk ⟨h0, h1, h2, by omega, by omega, by rw [show (k + 1).toNat = k.toNat + 1 by omega]; exact hs.symm, by simp⟩
    · rw [h] at hs
      refine guard_split (hmu _ _) (guard_split ?_ rfl)
      show pre54 l out no T n (k + 1) = true
      exact bp_mk ⟨h0, h1, h2, by omega, by omega, by rw [show (k + 1).toNat = k.toNat + 1 by omega]; exact hs.symm, h6⟩
  · have h := of_decide_eq_false h
    rw [show k.toNat = l.length by omega] at h5
    rw [h6, h5]; rfl
theorem timesS_len {g : List Int} {l : List Item} : (timesS g l).length = l.length := times_len _ (Nat.le_refl _)
theorem pre54_0 {l : List Item} {g : List Int} (h : l.length ≤ 32) : pre54 l [] true (timesS g l) ((timesS g l).length : Int) 0 = true := bp_mk ⟨h, timesS_len, rfl, by omega, by omega, rfl, rfl⟩
theorem p54 (l : List Item) (nl : Bool) (g : List Int) (h : preL g = true) : a54L l nl g = cond (decide (errS l g = 0)) (some (PV.tup [PV.sl 1 0 1 (lateS g l).length (lateS g l).length false (lateS g l).isEmpty, PV.sc (.int .i64 0)], [Blk.row false kA l, Blk.row true I (lateS g l)])) (some (PV.tup [PV.sc (.slice none 0 0), PV.sc (.int .i64 (errS l g))], [Blk.row false kA l])) := by
  have hg := of_decide_eq_true h
  rw [a54, take16 hg]
  simp only [List.take_length, Nat.zero_add, len_true, cond_true, h]
  refine guard_split (decide_eq_true (by omega)) (guard_split rfl ?_)
  by_cases he : errS l g = 0
  · rw [show (errS l g != 0) = false by simpa using he, decide_eq_true he]
    obtain ⟨_, h2, _, _⟩ := fine_at ⟨hg, he⟩
    exact guard_split (decide_eq_true (by omega)) (guard_split (fine_mk hg he) (guard_split (pre54_0 h2) rfl))
  · rw [show (errS l g != 0) = true by simpa using he, decide_eq_false he]; rfl
theorem p58l (a : List Int) (na : Bool) (b : List Int) (nb : Bool) (n k : Int) (h : pre58 a b n k = true) : a58lL a na b nb n k = cond (decide (a.drop k.toNat = b.drop k.toNat)) (some (Xt.exit 0, [PV.undef], [Blk.row false I a, Blk.row false I b])) (some (Xt.ret, [PV.sc (.bool false)], [Blk.row false I a, Blk.row false I b])) := by
  obtain ⟨h1, h2, h3, h4, h5⟩ := of_decide_eq_true h
  rw [a58l]
  simp only [List.take_length, Nat.zero_add, len_true, cond_true]
  refine cond_split (fun h => ?_) (fun h => ?_)
  · have h := of_decide_eq_true h
    obtain ⟨x, hx⟩ := get_ex (l := a) (k := k.toNat) (by omega)
    obtain ⟨y, hy⟩ := get_ex (l := b) (k := k.toNat) (by omega)
    rw [hx, hy, drop_cons hx, drop_cons hy]
    refine guard_split (by simp; omega) ?_
    simp only [bindO]
    refine guard_split (by simp; omega) ?_
    rw [IntWalk.i64_in (k + 1) (by omega), show (k + 1).toNat = k.toNat + 1 by omega]
    refine cond_split (fun h => ?_) (fun h => ?_)
    · rw [decide_eq_false (by intro e; simp at h; exact h (List.cons.inj e).1)]; rfl
    · refine guard_split ?_ (guard_split ?_ ?_)
      · exact decide_eq_true (show (n - (k + 1)).toNat < (n - k).toNat by omega)
      · exact decide_eq_true ⟨h1, h2, by omega, by omega, h5⟩
      · simp at h; subst h
        rw [show decide (x :: a.drop (k.toNat + 1) = x :: b.drop (k.toNat + 1)) = decide (a.drop (k.toNat + 1) = b.drop (k.toNat + 1)) from decide_eq_decide.mpr (by simp)]
  · have h := of_decide_eq_false h
    rw [List.drop_eq_nil_of_le (show a.length ≤ k.toNat by omega), List.drop_eq_nil_of_le (show b.length ≤ k.toNat by omega)]; rfl
theorem p84l (a : List Int) (na : Bool) (b : List Int) (nb : Bool) (n k : Int) (h : pre58 a b n k = true) : a84lL a na b nb n k = cond (decide (a.drop k.toNat = b.drop k.toNat)) (some (Xt.exit 0, [PV.undef], [Blk.row false I a, Blk.row false I b])) (some (Xt.ret, [PV.sc (.bool false)], [Blk.row false I a, Blk.row false I b])) :=
  (show a84lL a na b nb n k = a58lL a na b nb n k by rw [a84l, a58l]).trans (p58l a na b nb n k h)
theorem p58 (a : List Int) (na : Bool) (b : List Int) (nb : Bool) (h : preE a = true) : a58L a na b nb = some (PV.sc (.bool (decide (a = b))), [Blk.row false I a, Blk.row false I b]) := by
  have hp := of_decide_eq_true h
  rw [a58]
  simp only [List.take_length, Nat.zero_add, len_true, cond_true, show Int.toNat 0 = 0 from rfl, List.drop_zero]
  refine cond_split (fun h => ?_) (fun h => ?_)
  · rw [decide_eq_false (by rintro rfl; simp at h)]
  · have h : (a.length : Int) = b.length := by simpa using h
    refine guard_split (decide_eq_true ⟨by omega, rfl, by omega, by omega, by omega⟩) ?_
    generalize decide (a = b) = c
    cases c <;> rfl
theorem p84 (a : List Int) (na : Bool) (b : List Int) (nb : Bool) (h : preE a = true) : a84L a na b nb = some (PV.sc (.bool (decide (a = b))), [Blk.row false I a, Blk.row false I b]) :=
  (show a84L a na b nb = a58L a na b nb by rw [a84, a58]).trans (p58 a na b nb h)
theorem set_take {α : Type} (a : List α) (k : Nat) (v : α) (h : k < a.length) : (a.set k v).take (k + 1) = a.take k ++ [v] := by
  rw [List.set_eq_take_append_cons_drop, if_pos h, List.take_append, List.length_take, Nat.min_eq_left (Nat.le_of_lt h), List.take_of_length_le (by rw [List.length_take]; omega), show k + 1 - k = 1 by omega]; rfl
theorem p57a (out : List Int) (no : Bool) (l : List Item) (nl : Bool) (n k : Int) (h : pre57a out l n k = true) : a57aL out no l nl n k = some (Xt.exit 0, [], [Blk.row true I (rdy l), Blk.row false kA l]) := by
  obtain ⟨h1, h2, h3, h4, h5, h6⟩ := bp_true.1 h
  have hr : (rdy l).length = l.length := List.length_map _
  rw [a57a]
  simp only [List.take_length, Nat.zero_add, len_true, cond_true]
  refine cond_split (fun h => ?_) (fun h => ?_)
  · have h := of_decide_eq_true h
    obtain ⟨x, hx⟩ := get_ex (l := l) (k := k.toNat) (by omega)
    obtain ⟨y, hy⟩ := get_ex (l := out) (k := k.toNat) (by omega)
    rw [hx, hy]
    refine guard_split (by simp; omega) ?_
    simp only [bindO]
    refine guard_split (by simp; omega) ?_
    rw [IntWalk.i64_in (k + 1) (by omega)]
    refine guard_split ?_ (guard_split ?_ rfl)
    · exact decide_eq_true (show (n - (k + 1)).toNat < (n - k).toNat by omega)
    · rw [List.length_set, show decide (out.length = out.length) = true by simp]
      refine bp_mk ⟨by rw [List.length_set]; exact h1, h2, by omega, by omega, h5, ?_⟩
      rw [show (k + 1).toNat = k.toNat + 1 by omega, set_take _ _ _ (by omega), h6, List.take_add_one]
      congr 1
      unfold rdy
      rw [List.getElem?_map, hx]; rfl
  · have h := of_decide_eq_false h
    have : out = rdy l := by
      rw [List.take_of_length_le (by omega), List.take_of_length_le (by omega)] at h6; exact h6
    rw [this]
/-! ### Settling -/
theorem inner_max {g : List Int} {w : Int} : ∀ (A : List Int) (ys : List Item) (t u : Int), innerS g w A ys (max t u) = max (innerS g w A ys t) u
  | [], ys, t, u => by cases ys <;> rfl
  | o :: os, [], t, u => rfl
  | o :: os, y :: ys, t, u => by
    show innerS g w os ys (max (max t u) (o + gp g y.2.1 w)) = max (innerS g w os ys (max t (o + gp g y.2.1 w))) u
    rw [← inner_max os ys, show max (max t u) (o + gp g y.2.1 w) = max (max t (o + gp g y.2.1 w)) u by omega]
theorem inner_idem {g : List Int} {w t : Int} (A : List Int) (ys : List Item) : innerS g w A ys (innerS g w A ys t) = innerS g w A ys t := by
  have : innerS g w A ys t ≥ t := by have := inner_max (g := g) (w := w) A ys t t; rw [Int.max_self] at this; omega
  rw [show innerS g w A ys t = max t (innerS g w A ys t) by omega, inner_max]; omega
theorem rel_step {l : List Item} {g out : List Int} {i k : Nat} {x y : Item} {o : Int} {u : Int} (hi : i < out.length) (hk : k < i) (hx : l[i]? = some x) (hy : l[k]? = some y) (ho : out[k]? = some o) (hu : out[i]? = some u) :
    rel6 l g i k out = rel6 l g i (k + 1) (out.set i (max u (o + gp g y.2.1 x.2.1))) := by
  unfold rel6
  rw [List.set_set]
  congr 1
  have h1 : (out.take i)[k]? = some o := by rw [List.getElem?_take, if_pos hk]; exact ho
  have h2 : (l.take i)[k]? = some y := by rw [List.getElem?_take, if_pos hk]; exact hy
  have h3 : wakeAt l i = x.2.1 := by unfold wakeAt; rw [hx]
  rw [drop_cons h1, drop_cons h2, List.take_set, List.set_eq_of_length_le (by rw [List.length_take]; omega), List.getElem?_set_self hi, hu, h3]
  rfl
theorem set_same {α : Type} {l : List α} {i : Nat} {x : α} (h : l[i]? = some x) : l.set i x = l := by
  obtain ⟨hk, rfl⟩ := List.getElem?_eq_some_iff.1 h
  exact List.set_getElem_self hk
theorem rel_end {l : List Item} {g out : List Int} {i : Nat} (hi : i < out.length) : rel6 l g i i out = out := by
  obtain ⟨u, hu⟩ := get_ex hi
  unfold rel6
  rw [List.drop_eq_nil_of_le (by rw [List.length_take]; omega), hu]
  exact set_same hu
def ans57d (l : List Item) (g out : List Int) : Option (Xt × List PV × List Blk) := some (Xt.exit 6, [], [Blk.row false kA l, Blk.row false I g, Blk.row true I out])
theorem p57d (l : List Item) (nl : Bool) (g out : List Int) (no : Bool) (i n k : Int) (h : pre57d l g out i n k = true) : a57dL l nl g out no i n k = ans57d l g (rel6 l g i.toNat k.toNat out) := by
  obtain ⟨hf, h1, h2, h3, h4, h5, h6, h7⟩ := bp_true.1 h
  obtain ⟨f1, f2, f3, f4⟩ := fine_at hf
  rw [a57d]
  simp only [List.take_length, Nat.zero_add, len_true, cond_true]
  refine cond_split (fun h => ?_) (fun h => ?_)
  · have h := of_decide_eq_true h
    obtain ⟨x, hx⟩ := get_ex (l := l) (k := i.toNat) (by omega)
    obtain ⟨y, hy⟩ := get_ex (l := l) (k := k.toNat) (by omega)
    obtain ⟨o, ho⟩ := get_ex (l := out) (k := k.toNat) (by omega)
    obtain ⟨u, hu⟩ := get_ex (l := out) (k := i.toNat) (by omega)
    have bx := badA_at (any_get f4 hx)
    have bY := badA_at (any_get f4 hy)
    have bo := h6 o (List.mem_of_getElem? ho)
    have bu := h6 u (List.mem_of_getElem? hu)
    obtain ⟨e, he⟩ := get_ex (l := g) (k := y.2.1.toNat * 4 + x.2.1.toNat) (by omega)
    have hgp : gp g y.2.1 x.2.1 = e := by unfold gp; rw [he]; rfl
    have hgb := gp_bd f3 y.2.1 x.2.1
    rw [hgp] at hgb
    have hs := rel_step (l := l) (g := g) (out := out) (i := i.toNat) (k := k.toNat) (by omega) (by omega) hx hy ho hu
    rw [hgp] at hs
    rw [ho, hy, hx]
    refine guard_split (by simp; omega) ?_
    simp only [bindO]
    refine guard_split (by simp; omega) (guard_split (by simp; omega) (guard_split (by simp; omega) (guard_split (by simp; omega) ?_)))
    rw [Nat.mul_one, he, hu]
    simp only [bindO]
    refine guard_split (by simp; omega) ?_
    rw [IntWalk.i64_in (k + 1) (by omega), IntWalk.i64_in (o + e) (by omega)]
    have hmu : ∀ a b : List Int × Bool, decide (mu57d ((l, nl), g, a, i, n, k + 1, PUnit.unit) < mu57d ((l, nl), g, b, i, n, k, ())) = true := fun a b => decide_eq_true (show (n - (k + 1)).toNat < (n - k).toNat by omega)
    have hk1 : (k + 1).toNat = k.toNat + 1 := by omega
    refine cond_split (fun h => ?_) (fun h => ?_)
    · have h := of_decide_eq_true h
      rw [show max u (o + e) = o + e by omega] at hs
      rw [hs, hk1]
      refine guard_split (by simp; omega) (guard_split (hmu _ _) (guard_split ?_ rfl))
      rw [List.length_set, show decide (out.length = out.length) = true by simp]
      have ht : (out.set i.toNat (o + e)).take i.toNat = out.take i.toNat := by rw [List.take_set, List.set_eq_of_length_le (by rw [List.length_take]; omega)]
      refine bp_mk ⟨hf, by rw [List.length_set]; exact h1, h2, by omega, by omega, h5, fun z hz => ?_, fun z hz => h7 z (by rw [ht] at hz; exact hz)⟩
      have h8 := h7 o (List.mem_of_getElem? (show (out.take i.toNat)[k.toNat]? = some o by rw [List.getElem?_take, if_pos (by omega)]; exact ho))
      rcases List.mem_or_eq_of_mem_set hz with hz | rfl
      · exact h6 z hz
      · omega
    · have h := of_decide_eq_false h
      rw [show max u (o + e) = u by omega, set_same hu] at hs
      rw [hs, hk1]
      refine guard_split (hmu _ _) (guard_split ?_ rfl)
      show pre57d l g out i n (k + 1) = true
      exact bp_mk ⟨hf, h1, h2, by omega, by omega, h5, h6, h7⟩
  · have h := of_decide_eq_false h
    rw [show k.toNat = i.toNat by omega, rel_end (by omega)]; rfl
theorem timesK_get {g : List Int} {l : List Item} {i : Nat} {x : Item} (hx : l[i]? = some x) : timesK g l (i + 1) = timesK g l i ++ [innerS g x.2.1 (timesK g l i) (l.take i) x.2.2.1] := by
  show (match l[i]? with | some x => _ | none => _) = _
  rw [hx]
theorem times_take {g : List Int} {l : List Item} (i : Nat) : ∀ (d : Nat), i + d ≤ l.length → (timesK g l (i + d)).take i = timesK g l i
  | 0, h => by rw [Nat.add_zero, List.take_of_length_le (by rw [times_len _ (by omega)]; omega)]
  | d + 1, h => by
    obtain ⟨x, hx⟩ := get_ex (l := l) (k := i + d) (by omega)
    rw [← Nat.add_assoc, timesK_get hx, List.take_append_of_le_length (by rw [times_len _ (by omega)]; omega)]
    exact times_take i d (by omega)
theorem timesS_take {g : List Int} {l : List Item} {i : Nat} (h : i ≤ l.length) : (timesS g l).take i = timesK g l i := by
  have := times_take (g := g) (l := l) i (l.length - i) (by omega)
  rwa [show i + (l.length - i) = l.length by omega] at this
theorem timesS_get {g : List Int} {l : List Item} {i : Nat} {x : Item} (hx : l[i]? = some x) : (timesS g l)[i]? = some (innerS g x.2.1 (timesK g l i) (l.take i) x.2.2.1) := by
  have hi := (List.getElem?_eq_some_iff.1 hx).1
  have h1 : (timesS g l)[i]? = ((timesS g l).take (i + 1))[i]? := by rw [List.getElem?_take, if_pos (by omega)]
  rw [h1, timesS_take (by omega), timesK_get hx, List.getElem?_append_right (by rw [times_len _ (by omega)]; omega), times_len _ (by omega), Nat.sub_self]; rfl
theorem rel_fix {l : List Item} {g : List Int} {i : Nat} (h : i < l.length) : rel6 l g i 0 (timesS g l) = timesS g l := by
  obtain ⟨x, hx⟩ := get_ex h
  have hw : wakeAt l i = x.2.1 := by unfold wakeAt; rw [hx]
  unfold rel6
  rw [List.drop_zero, List.drop_zero, timesS_take (by omega), timesS_get hx, hw, Option.getD_some, inner_idem]
  exact set_same (timesS_get hx)
theorem rel_new {l : List Item} {g : List Int} {i : Nat} (h : i < l.length) : rel6 l g i 0 (timesK g l i ++ (rdy l).drop i) = timesK g l (i + 1) ++ (rdy l).drop (i + 1) := by
  obtain ⟨x, hx⟩ := get_ex h
  have hw : wakeAt l i = x.2.1 := by unfold wakeAt; rw [hx]
  have hr : (rdy l)[i]? = some x.2.2.1 := by unfold rdy; rw [List.getElem?_map, hx]; rfl
  have hl := times_len (g := g) (l := l) i (by omega)
  unfold rel6
  rw [List.drop_zero, List.drop_zero, List.take_append_of_le_length (by omega), List.take_of_length_le (by omega), hw]
  rw [List.getElem?_append_right (by omega), hl, Nat.sub_self, List.getElem?_drop, Nat.add_zero, hr, Option.getD_some]
  rw [drop_cons hr, List.set_append, if_neg (by omega), hl, Nat.sub_self, List.set_cons_zero, timesK_get hx, List.append_assoc]; rfl
theorem p57c (l : List Item) (nl : Bool) (g out : List Int) (no : Bool) (n k : Int) (h : pre57c l g out n k = true) : a57cL l nl g out no n k = some (Xt.exit 4, [], [Blk.row false kA l, Blk.row false I g, Blk.row true I (timesS g l)]) := by
  obtain ⟨hf, h1, h2, h3, h4⟩ := bp_true.1 h
  obtain ⟨f1, f2, f3, f4⟩ := fine_at hf
  have hrl : (rdy l).length = l.length := List.length_map _
  have hol : out.length = l.length := by
    rcases h4 with rfl | rfl
    · rw [List.length_append, times_len _ (by omega), List.length_drop]; omega
    · exact timesS_len
  rw [a57c]
  simp only [List.take_length, Nat.zero_add, len_true, cond_true, show Int.toNat 0 = 0 from rfl]
  refine cond_split (fun h => ?_) (fun h => ?_)
  · have h := of_decide_eq_true h
    have hk1 : (k + 1).toNat = k.toNat + 1 := by omega
    rw [IntWalk.i64_in (k + 1) (by omega)]
    have bt : ∀ j, j ≤ 32 → ∀ o ∈ timesK g l j, 0 ≤ o ∧ o ≤ 232000 := fun j hj o ho => by have := times_bd (l := l) f3 f4 j o ho; omega
    have br : ∀ o ∈ rdy l, 0 ≤ o ∧ o ≤ 200000 := fun o ho => by
      unfold rdy at ho
      obtain ⟨x, hx, rfl⟩ := List.mem_map.1 ho
      have := badA_at (x := x) (by simpa using List.any_eq_false.1 f4 x hx)
      omega
    have hb : ∀ o ∈ out, 0 ≤ o ∧ o ≤ 232000 := fun o ho => by
      rcases h4 with rfl | rfl
      · rcases List.mem_append.1 ho with ho | ho
        · exact bt _ (by omega) o ho
        · have := br o (List.mem_of_mem_drop ho); omega
      · exact bt _ f2 o ho
    refine guard_split ?_ (guard_split ?_ (guard_split ?_ rfl))
    · show pre57d l g out k k 0 = true
      exact bp_mk ⟨hf, hol, rfl, by omega, by omega, by omega, fun o ho => by have := hb o ho; omega, fun o ho => by have := hb o (List.mem_of_mem_take ho); omega⟩
    · exact decide_eq_true (show (n - (k + 1)).toNat < (n - k).toNat by omega)
    · have hrel : (rel6 l g k.toNat 0 out).length = out.length := by unfold rel6; rw [List.length_set]
      rw [hrel, show decide (out.length = out.length) = true by simp]
      refine bp_mk ⟨hf, h1, by omega, by omega, ?_⟩
      rw [hk1]
      rcases h4 with rfl | rfl
      · exact Or.inl (rel_new (by omega))
      · exact Or.inr (rel_fix (by omega))
  · have h := of_decide_eq_false h
    have : out = timesS g l := by
      rcases h4 with h4 | h4
      · rw [h4, show k.toNat = l.length by omega, List.drop_eq_nil_of_le (by omega), List.append_nil]; rfl
      · exact h4
    rw [this]
theorem p57b (l : List Item) (nl : Bool) (g out : List Int) (no : Bool) (n k : Int) (h : pre57b l g out n k = true) : a57bL l nl g out no n k = some (Xt.exit 2, [], [Blk.row false kA l, Blk.row false I g, Blk.row true I (timesS g l)]) := by
  obtain ⟨hf, h1, h2, h3, h4⟩ := bp_true.1 h
  obtain ⟨f1, f2, f3, f4⟩ := fine_at hf
  have hrl : (rdy l).length = l.length := List.length_map _
  have hol : out.length = l.length := by
    rcases h4 with ⟨_, rfl⟩ | rfl
    · exact hrl
    · exact timesS_len
  rw [a57b]
  simp only [List.take_length, Nat.zero_add, len_true, cond_true, show Int.toNat 0 = 0 from rfl]
  refine cond_split (fun h => ?_) (fun h => ?_)
  · have h := of_decide_eq_true h
    rw [IntWalk.i64_in (k + 1) (by omega)]
    refine guard_split ?_ (guard_split ?_ (guard_split ?_ rfl))
    · show pre57c l g out (l.length : Int) 0 = true
      exact bp_mk ⟨hf, rfl, by omega, by omega, h4.imp (fun h => h.2) id⟩
    · exact decide_eq_true (show (n - (k + 1)).toNat < (n - k).toNat by omega)
    · rw [timesS_len, hol, show decide (l.length = l.length) = true by simp]
      exact bp_mk ⟨hf, h1, by omega, by omega, Or.inr rfl⟩
  · have h := of_decide_eq_false h
    have : out = timesS g l := by
      rcases h4 with ⟨h5, h4⟩ | h4
      · have hl : l = [] := List.eq_nil_of_length_eq_zero (by omega)
        rw [h4, hl]; rfl
      · exact h4
    rw [this]
theorem p57 (l : List Item) (nl : Bool) (g : List Int) (h : preF l g = true) : a57L l nl g = some (PV.sl 1 0 1 (timesS g l).length (timesS g l).length false false, [Blk.row false kA l, Blk.row true I (timesS g l)]) := by
  have hf := bp_true.1 h
  obtain ⟨f1, f2, f3, f4⟩ := fine_at hf
  have hrl : (rdy l).length = l.length := List.length_map _
  rw [a57]
  simp only [List.take_length, Nat.zero_add, len_true, cond_true, List.length_replicate, Int.toNat_natCast, hrl, timesS_len, show decide (l.length = l.length) = true by simp]
  refine guard_split (by simp; omega) (guard_split ?_ (guard_split ?_ rfl))
  · exact bp_mk ⟨List.length_replicate, rfl, by omega, by omega, by omega, rfl⟩
  · exact bp_mk ⟨hf, rfl, by omega, by omega, Or.inl ⟨rfl, rfl⟩⟩
end Go.Proofs.YtacdahpjmeianaaAs
