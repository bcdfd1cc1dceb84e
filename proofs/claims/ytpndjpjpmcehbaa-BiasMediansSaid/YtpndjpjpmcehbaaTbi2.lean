/- What is proved: the law BiasMedians answers true for all values. No condition. -/
import Derived.Test.YtpndjpjpmcehbaaTbi1
import Derived.Test.YtpndjpjpmcehbaaEvZd
namespace Go.Proofs.YtpndjpjpmcehbaaBi
open Go Go.Proofs Go.Proofs.YtpndjpjpmcehbaaEv Go.Proofs.YtpndjpjpmcehbaaTk
set_option maxRecDepth 100000
set_option linter.unusedSimpArgs false
set_option linter.unusedVariables false
noncomputable abbrev b11aL (a0 : Of) (a1 : Int) (a2 : List (Int × Int × Int × Int × Int × Int)) (a3 : Bool) (a4 : Int) (a5 : Int) := evRound Try.prog B3 noCuts 164 (loopOf (codeAt 0 (bodyF Try.f11))) kLa muLa (killA 0 kLa) [7, 8, 51, 52, 53] [4] cLa (a0, (a1, ((a2, a3), (a4, (a5, ())))))
theorem b11a (a0 : Of) (a1 : Int) (a2 : List (Int × Int × Int × Int × Int × Int)) (a3 : Bool) (a4 : Int) (a5 : Int) : b11aL a0 a1 a2 a3 a4 a5 = (bif decide (a5 < a4) then
  guardB (decide (0 ≤ a5) && decide (a5 < (↑a2.length : Int)))
    (bindO a2[0 + a5.toNat]? fun x =>
      bif plE x != 0 then
        bif a1 == 4 then
          some
            (Xt.ret, [PV.sc (Value.bool (a0.fst == 0 && (a0.snd.fst == 0 && (a0.snd.snd == 0 && true))))],
              [Blk.fix false
                  [PV.sc (Value.int IntKind.i64 a0.fst), PV.sc (Value.int IntKind.i64 a0.snd.fst),
                    PV.sc (Value.int IntKind.i64 a0.snd.snd)],
                Blk.row false
                  ((Kd.int IntKind.i64).pair
                    ((Kd.int IntKind.i64).pair
                      ((Kd.int IntKind.i64).pair
                        ((Kd.int IntKind.i64).pair ((Kd.int IntKind.i64).pair (Kd.int IntKind.i64))))))
                  a2])
        else
          some
            (Xt.ret, [PV.sc (Value.bool false)],
              [Blk.fix false
                  [PV.sc (Value.int IntKind.i64 a0.fst), PV.sc (Value.int IntKind.i64 a0.snd.fst),
                    PV.sc (Value.int IntKind.i64 a0.snd.snd)],
                Blk.row false
                  ((Kd.int IntKind.i64).pair
                    ((Kd.int IntKind.i64).pair
                      ((Kd.int IntKind.i64).pair
                        ((Kd.int IntKind.i64).pair ((Kd.int IntKind.i64).pair (Kd.int IntKind.i64))))))
                  a2])
      else
        guardB
          (decide
            (muLa (a0, a1, (List.take a2.length a2, a3), a4, IntKind.i64.wrap (a5 + 1), PUnit.unit) <
              muLa (a0, a1, (a2, a3), a4, a5, ())))
          (guardB
            (bif decide (0 + a2.length ≤ a2.length) then preLa (List.take a2.length a2) a4 (IntKind.i64.wrap (a5 + 1))
            else false)
            (bif okP (List.drop (IntKind.i64.wrap (a5 + 1)).toNat (List.take a2.length a2)) then
              some
                (Xt.exit 0, [PV.undef],
                  [Blk.fix false
                      [PV.sc (Value.int IntKind.i64 a0.fst), PV.sc (Value.int IntKind.i64 a0.snd.fst),
                        PV.sc (Value.int IntKind.i64 a0.snd.snd)],
                    Blk.row false
                      ((Kd.int IntKind.i64).pair
                        ((Kd.int IntKind.i64).pair
                          ((Kd.int IntKind.i64).pair
                            ((Kd.int IntKind.i64).pair ((Kd.int IntKind.i64).pair (Kd.int IntKind.i64))))))
                      a2])
            else
              some
                (Xt.ret, [PV.sc (Value.bool (lawZ a0 a1 4))],
                  [Blk.fix false
                      [PV.sc (Value.int IntKind.i64 a0.fst), PV.sc (Value.int IntKind.i64 a0.snd.fst),
                        PV.sc (Value.int IntKind.i64 a0.snd.snd)],
                    Blk.row false
                      ((Kd.int IntKind.i64).pair
                        ((Kd.int IntKind.i64).pair
                          ((Kd.int IntKind.i64).pair
                            ((Kd.int IntKind.i64).pair ((Kd.int IntKind.i64).pair (Kd.int IntKind.i64))))))
                      a2]))))
else
  some
    (Xt.exit 0, [PV.undef],
      [Blk.fix false
          [PV.sc (Value.int IntKind.i64 a0.fst), PV.sc (Value.int IntKind.i64 a0.snd.fst),
            PV.sc (Value.int IntKind.i64 a0.snd.snd)],
        Blk.row false
          ((Kd.int IntKind.i64).pair
            ((Kd.int IntKind.i64).pair
              ((Kd.int IntKind.i64).pair ((Kd.int IntKind.i64).pair ((Kd.int IntKind.i64).pair (Kd.int IntKind.i64))))))
          a2])) := by kernel_rfl
noncomputable abbrev b11cL (a0 : List (Int × Int × Int × Int × Int × Int)) (a1 : Bool) (a2 : List (Int × Int × Int × Int × Int × Int)) (a3 : Bool) (a4 : List Int) (a5 : Bool) (a6 : List Int) (a7 : Bool) (a8 : List Int) (a9 : Bool) (a10 : Int) (a11 : Int) := evRound Try.prog B3 noCuts 164 (loopOf (codeAt 2 (bodyF Try.f11))) kLc muLc (killA 0 kLc) [0, 1, 11, 12, 13, 81, 82] [11, 12, 13] cLc ((a0, a1), ((a2, a3), ((a4, a5), ((a6, a7), ((a8, a9), (a10, (a11, ())))))))
theorem b11c (a0 : List (Int × Int × Int × Int × Int × Int)) (a1 : Bool) (a2 : List (Int × Int × Int × Int × Int × Int)) (a3 : Bool) (a4 : List Int) (a5 : Bool) (a6 : List Int) (a7 : Bool) (a8 : List Int) (a9 : Bool) (a10 : Int) (a11 : Int) : b11cL a0 a1 a2 a3 a4 a5 a6 a7 a8 a9 a10 a11 = (bif decide (a11 < a10) then
  guardB (decide (0 ≤ a11) && decide (a11 < (↑a2.length : Int)))
    (bindO a2[0 + a11.toNat]? fun x =>
      guardB (decide (0 ≤ a11) && decide (a11 < (↑a0.length : Int)))
        (bindO a0[0 + a11.toNat]? fun x_1 =>
          guardB
            (decide (0 + a4.length ≤ a4.length) && true && decide ((a4.length + 1) * 8 ≤ 140737488355328) &&
              decide (a4.length + 1 ≤ 4611686018427387904))
            (guardB (decide (0 ≤ a11) && decide (a11 < (↑a0.length : Int)))
              (bindO a0[0 + a11.toNat]? fun x_2 =>
                guardB (decide (0 ≤ a11) && decide (a11 < (↑a2.length : Int)))
                  (bindO a2[0 + a11.toNat]? fun x_3 =>
                    guardB (preAz x_2.snd.snd.snd.fst x_3.snd.snd.snd.fst)
                      (guardB
                        (decide (0 + a6.length ≤ a6.length) && true && decide ((a6.length + 1) * 8 ≤ 140737488355328) &&
                          decide (a6.length + 1 ≤ 4611686018427387904))
                        (guardB (decide (0 ≤ a11) && decide (a11 < (↑a2.length : Int)))
                          (bindO a2[0 + a11.toNat]? fun x_4 =>
                            guardB (decide (0 ≤ a11) && decide (a11 < (↑a0.length : Int)))
                              (bindO a0[0 + a11.toNat]? fun x_5 =>
                                guardB
                                  (decide (0 + a8.length ≤ a8.length) && true &&
                                      decide ((a8.length + 1) * 8 ≤ 140737488355328) &&
                                    decide (a8.length + 1 ≤ 4611686018427387904))
                                  (guardB
                                    (decide
                                      (muLc
                                          ((List.take a0.length a0, a1), (List.take a2.length a2, a3),
                                            (List.take a4.length a4 ++
                                                [IntKind.i64.wrap (x.snd.snd.fst - x_1.snd.snd.fst)],
                                              false),
                                            (List.take a6.length a6 ++ [diffS x_2.snd.snd.snd.fst x_3.snd.snd.snd.fst],
                                              false),
                                            (List.take a8.length a8 ++ [IntKind.i64.wrap (x_4.snd.fst - x_5.snd.fst)],
                                              false),
                                            a10, IntKind.i64.wrap (a11 + 1), PUnit.unit) <
                                        muLc ((a0, a1), (a2, a3), (a4, a5), (a6, a7), (a8, a9), a10, a11, ())))
                                    (guardB
                                      (bif decide (0 + a0.length ≤ a0.length) then
                                        bif decide (0 + a2.length ≤ a2.length) then
                                          bif
                                              decide
                                                (a4.length + 1 =
                                                  (List.take a4.length a4 ++
                                                      [IntKind.i64.wrap (x.snd.snd.fst - x_1.snd.snd.fst)]).length) then
                                            bif
                                                decide
                                                  (a6.length + 1 =
                                                    (List.take a6.length a6 ++
                                                        [diffS x_2.snd.snd.snd.fst x_3.snd.snd.snd.fst]).length) then
                                              bif
                                                  decide
                                                    (a8.length + 1 =
                                                      (List.take a8.length a8 ++
                                                          [IntKind.i64.wrap (x_4.snd.fst - x_5.snd.fst)]).length) then
                                                preZ (List.take a0.length a0) (List.take a2.length a2)
                                                  (List.take a4.length a4 ++
                                                    [IntKind.i64.wrap (x.snd.snd.fst - x_1.snd.snd.fst)])
                                                  (List.take a6.length a6 ++
                                                    [diffS x_2.snd.snd.snd.fst x_3.snd.snd.snd.fst])
                                                  (List.take a8.length a8 ++
                                                    [IntKind.i64.wrap (x_4.snd.fst - x_5.snd.fst)])
                                                  a10 (IntKind.i64.wrap (a11 + 1))
                                              else false
                                            else false
                                          else false
                                        else false
                                      else false)
                                      (some
                                        (Xt.exit 2,
                                          [PV.sl 5 0 1
                                              (List.take a4.length a4 ++
                                                    [IntKind.i64.wrap (x.snd.snd.fst - x_1.snd.snd.fst)] ++
                                                  zipK fR (List.take a0.length a0) (List.take a2.length a2)
                                                    (IntKind.i64.wrap (a11 + 1))).length
                                              (List.take a4.length a4 ++
                                                    [IntKind.i64.wrap (x.snd.snd.fst - x_1.snd.snd.fst)] ++
                                                  zipK fR (List.take a0.length a0) (List.take a2.length a2)
                                                    (IntKind.i64.wrap (a11 + 1))).length
                                              false false,
                                            PV.sl 6 0 1
                                              (List.take a6.length a6 ++
                                                    [diffS x_2.snd.snd.snd.fst x_3.snd.snd.snd.fst] ++
                                                  zipK fA (List.take a0.length a0) (List.take a2.length a2)
                                                    (IntKind.i64.wrap (a11 + 1))).length
                                              (List.take a6.length a6 ++
                                                    [diffS x_2.snd.snd.snd.fst x_3.snd.snd.snd.fst] ++
                                                  zipK fA (List.take a0.length a0) (List.take a2.length a2)
                                                    (IntKind.i64.wrap (a11 + 1))).length
                                              false false,
                                            PV.sl 7 0 1
                                              (List.take a8.length a8 ++
                                                    [IntKind.i64.wrap (x_4.snd.fst - x_5.snd.fst)] ++
                                                  zipK fT (List.take a0.length a0) (List.take a2.length a2)
                                                    (IntKind.i64.wrap (a11 + 1))).length
                                              (List.take a8.length a8 ++
                                                    [IntKind.i64.wrap (x_4.snd.fst - x_5.snd.fst)] ++
                                                  zipK fT (List.take a0.length a0) (List.take a2.length a2)
                                                    (IntKind.i64.wrap (a11 + 1))).length
                                              false false],
                                          [Blk.row false
                                              ((Kd.int IntKind.i64).pair
                                                ((Kd.int IntKind.i64).pair
                                                  ((Kd.int IntKind.i64).pair
                                                    ((Kd.int IntKind.i64).pair
                                                      ((Kd.int IntKind.i64).pair (Kd.int IntKind.i64))))))
                                              a0,
                                            Blk.row false
                                              ((Kd.int IntKind.i64).pair
                                                ((Kd.int IntKind.i64).pair
                                                  ((Kd.int IntKind.i64).pair
                                                    ((Kd.int IntKind.i64).pair
                                                      ((Kd.int IntKind.i64).pair (Kd.int IntKind.i64))))))
                                              a2,
                                            Blk.dead, Blk.dead, Blk.dead,
                                            Blk.row true (Kd.int IntKind.i64)
                                              (List.take a4.length a4 ++
                                                  [IntKind.i64.wrap (x.snd.snd.fst - x_1.snd.snd.fst)] ++
                                                zipK fR (List.take a0.length a0) (List.take a2.length a2)
                                                  (IntKind.i64.wrap (a11 + 1))),
                                            Blk.row true (Kd.int IntKind.i64)
                                              (List.take a6.length a6 ++
                                                  [diffS x_2.snd.snd.snd.fst x_3.snd.snd.snd.fst] ++
                                                zipK fA (List.take a0.length a0) (List.take a2.length a2)
                                                  (IntKind.i64.wrap (a11 + 1))),
                                            Blk.row true (Kd.int IntKind.i64)
                                              (List.take a8.length a8 ++
                                                  [IntKind.i64.wrap (x_4.snd.fst - x_5.snd.fst)] ++
                                                zipK fT (List.take a0.length a0) (List.take a2.length a2)
                                                  (IntKind.i64.wrap (a11 + 1)))])))))))))))))
else
  some
    (Xt.exit 2,
      [PV.sl 5 0 1 a4.length a4.length false a5, PV.sl 6 0 1 a6.length a6.length false a7,
        PV.sl 7 0 1 a8.length a8.length false a9],
      [Blk.row false
          ((Kd.int IntKind.i64).pair
            ((Kd.int IntKind.i64).pair
              ((Kd.int IntKind.i64).pair ((Kd.int IntKind.i64).pair ((Kd.int IntKind.i64).pair (Kd.int IntKind.i64))))))
          a0,
        Blk.row false
          ((Kd.int IntKind.i64).pair
            ((Kd.int IntKind.i64).pair
              ((Kd.int IntKind.i64).pair ((Kd.int IntKind.i64).pair ((Kd.int IntKind.i64).pair (Kd.int IntKind.i64))))))
          a2,
        Blk.dead, Blk.dead, Blk.dead, Blk.row true (Kd.int IntKind.i64) a4, Blk.row true (Kd.int IntKind.i64) a6,
        Blk.row true (Kd.int IntKind.i64) a8])) := by kernel_rfl
noncomputable abbrev b11L (a0 : List (Int × Int × Int × Int × Int × Int)) (a1 : Bool) (a2 : List (Int × Int × Int × Int × Int × Int)) (a3 : Bool) := evFuncV Try.prog B3 (addCut 0 [7, 8, 51, 52, 53] [4] (entC kLa cLa)
  (addCut 2 [0, 1, 11, 12, 13, 81, 82] [11, 12, 13] (entC kLc cLc) noCuts)) Try.f11 (killA 0 [rPl, rPl]) (showA 0 [rPl, rPl] ((a0, a1), ((a2, a3), ()))).1 (showA 0 [rPl, rPl] ((a0, a1), ((a2, a3), ()))).2
theorem b11 (a0 : List (Int × Int × Int × Int × Int × Int)) (a1 : Bool) (a2 : List (Int × Int × Int × Int × Int × Int)) (a3 : Bool) : b11L a0 a1 a2 a3 = (bif decide ((↑a0.length : Int) > 40) then
  guardB (decide (40 ≤ (↑a0.length : Int)))
    (bif decide ((↑a2.length : Int) > 40) then
      guardB (decide (40 ≤ (↑a2.length : Int)))
        (guardB (bif decide (40 ≤ a0.length) then bif decide (40 ≤ a2.length) then true else false else false)
          (guardB (decide (40 ≤ a0.length) && true && true)
            (guardB (decide (40 ≤ (List.take 40 a0).length) && decide (40 ≤ a2.length) && true && true)
              (guardB
                (bif decide (80 ≤ (List.take 40 (List.take 40 a0) ++ List.take 40 a2).length) then
                  preLa (List.take 80 (List.take 40 (List.take 40 a0) ++ List.take 40 a2)) 80 0
                else false)
                (bif
                    okP
                      (List.drop (Int.toNat 0) (List.take 80 (List.take 40 (List.take 40 a0) ++ List.take 40 a2))) then
                  guardB
                    (bif decide (40 ≤ a0.length) then
                      bif decide (40 ≤ a2.length) then preZ (List.take 40 a0) (List.take 40 a2) [] [] [] 40 0 else false
                    else false)
                    (guardB
                      (bif
                          decide
                            (0 + ([] ++ zipK fR (List.take 40 a0) (List.take 40 a2) 0).length ≤
                              (zipK fR (List.take 40 a0) (List.take 40 a2) 0).length) then
                        decide
                          (1 ≤
                              (List.take ([] ++ zipK fR (List.take 40 a0) (List.take 40 a2) 0).length
                                  (zipK fR (List.take 40 a0) (List.take 40 a2) 0)).length ∧
                            (List.take ([] ++ zipK fR (List.take 40 a0) (List.take 40 a2) 0).length
                                  (zipK fR (List.take 40 a0) (List.take 40 a2) 0)).length ≤
                              1000)
                      else false)
                      (guardB
                        (bif
                            decide
                              (0 + ([] ++ zipK fA (List.take 40 a0) (List.take 40 a2) 0).length ≤
                                (zipK fA (List.take 40 a0) (List.take 40 a2) 0).length) then
                          decide
                            (1 ≤
                                (List.take ([] ++ zipK fA (List.take 40 a0) (List.take 40 a2) 0).length
                                    (zipK fA (List.take 40 a0) (List.take 40 a2) 0)).length ∧
                              (List.take ([] ++ zipK fA (List.take 40 a0) (List.take 40 a2) 0).length
                                    (zipK fA (List.take 40 a0) (List.take 40 a2) 0)).length ≤
                                1000)
                        else false)
                        (guardB
                          (bif
                              decide
                                (0 + ([] ++ zipK fT (List.take 40 a0) (List.take 40 a2) 0).length ≤
                                  (zipK fT (List.take 40 a0) (List.take 40 a2) 0).length) then
                            decide
                              (1 ≤
                                  (List.take ([] ++ zipK fT (List.take 40 a0) (List.take 40 a2) 0).length
                                      (zipK fT (List.take 40 a0) (List.take 40 a2) 0)).length ∧
                                (List.take ([] ++ zipK fT (List.take 40 a0) (List.take 40 a2) 0).length
                                      (zipK fT (List.take 40 a0) (List.take 40 a2) 0)).length ≤
                                  1000)
                          else false)
                          (bif
                              !inS
                                  (mid
                                    (List.take ([] ++ zipK fR (List.take 40 a0) (List.take 40 a2) 0).length
                                      (zipK fR (List.take 40 a0) (List.take 40 a2) 0)))
                                  (-10000) 10000 then
                            bif estE (List.take 40 a0) (List.take 40 a2) == 4 then
                              some
                                (PV.sc
                                    (Value.bool
                                      ((estV (List.take 40 a0) (List.take 40 a2)).fst == 0 &&
                                        ((estV (List.take 40 a0) (List.take 40 a2)).snd.fst == 0 &&
                                          ((estV (List.take 40 a0) (List.take 40 a2)).snd.snd == 0 && true)))),
                                  [Blk.row false
                                      ((Kd.int IntKind.i64).pair
                                        ((Kd.int IntKind.i64).pair
                                          ((Kd.int IntKind.i64).pair
                                            ((Kd.int IntKind.i64).pair
                                              ((Kd.int IntKind.i64).pair (Kd.int IntKind.i64))))))
                                      a0,
                                    Blk.row false
                                      ((Kd.int IntKind.i64).pair
                                        ((Kd.int IntKind.i64).pair
                                          ((Kd.int IntKind.i64).pair
                                            ((Kd.int IntKind.i64).pair
                                              ((Kd.int IntKind.i64).pair (Kd.int IntKind.i64))))))
                                      a2])
                            else
                              some
                                (PV.sc (Value.bool false),
                                  [Blk.row false
                                      ((Kd.int IntKind.i64).pair
                                        ((Kd.int IntKind.i64).pair
                                          ((Kd.int IntKind.i64).pair
                                            ((Kd.int IntKind.i64).pair
                                              ((Kd.int IntKind.i64).pair (Kd.int IntKind.i64))))))
                                      a0,
                                    Blk.row false
                                      ((Kd.int IntKind.i64).pair
                                        ((Kd.int IntKind.i64).pair
                                          ((Kd.int IntKind.i64).pair
                                            ((Kd.int IntKind.i64).pair
                                              ((Kd.int IntKind.i64).pair (Kd.int IntKind.i64))))))
                                      a2])
                          else
                            bif
                                !inS
                                    (mid
                                      (List.take ([] ++ zipK fT (List.take 40 a0) (List.take 40 a2) 0).length
                                        (zipK fT (List.take 40 a0) (List.take 40 a2) 0)))
                                    (-1000) 1000 then
                              bif estE (List.take 40 a0) (List.take 40 a2) == 4 then
                                some
                                  (PV.sc
                                      (Value.bool
                                        ((estV (List.take 40 a0) (List.take 40 a2)).fst == 0 &&
                                          ((estV (List.take 40 a0) (List.take 40 a2)).snd.fst == 0 &&
                                            ((estV (List.take 40 a0) (List.take 40 a2)).snd.snd == 0 && true)))),
                                    [Blk.row false
                                        ((Kd.int IntKind.i64).pair
                                          ((Kd.int IntKind.i64).pair
                                            ((Kd.int IntKind.i64).pair
                                              ((Kd.int IntKind.i64).pair
                                                ((Kd.int IntKind.i64).pair (Kd.int IntKind.i64))))))
                                        a0,
                                      Blk.row false
                                        ((Kd.int IntKind.i64).pair
                                          ((Kd.int IntKind.i64).pair
                                            ((Kd.int IntKind.i64).pair
                                              ((Kd.int IntKind.i64).pair
                                                ((Kd.int IntKind.i64).pair (Kd.int IntKind.i64))))))
                                        a2])
                              else
                                some
                                  (PV.sc (Value.bool false),
                                    [Blk.row false
                                        ((Kd.int IntKind.i64).pair
                                          ((Kd.int IntKind.i64).pair
                                            ((Kd.int IntKind.i64).pair
                                              ((Kd.int IntKind.i64).pair
                                                ((Kd.int IntKind.i64).pair (Kd.int IntKind.i64))))))
                                        a0,
                                      Blk.row false
                                        ((Kd.int IntKind.i64).pair
                                          ((Kd.int IntKind.i64).pair
                                            ((Kd.int IntKind.i64).pair
                                              ((Kd.int IntKind.i64).pair
                                                ((Kd.int IntKind.i64).pair (Kd.int IntKind.i64))))))
                                        a2])
                            else
                              bif estE (List.take 40 a0) (List.take 40 a2) == 0 then
                                bif
                                    (estV (List.take 40 a0) (List.take 40 a2)).fst ==
                                        mid
                                          (List.take ([] ++ zipK fR (List.take 40 a0) (List.take 40 a2) 0).length
                                            (zipK fR (List.take 40 a0) (List.take 40 a2) 0)) &&
                                      ((estV (List.take 40 a0) (List.take 40 a2)).snd.fst ==
                                          mid
                                            (List.take ([] ++ zipK fA (List.take 40 a0) (List.take 40 a2) 0).length
                                              (zipK fA (List.take 40 a0) (List.take 40 a2) 0)) &&
                                        ((estV (List.take 40 a0) (List.take 40 a2)).snd.snd ==
                                            mid
                                              (List.take ([] ++ zipK fT (List.take 40 a0) (List.take 40 a2) 0).length
                                                (zipK fT (List.take 40 a0) (List.take 40 a2) 0)) &&
                                          true)) then
                                  some
                                    (PV.sc (Value.bool (ofE (estV (List.take 40 a0) (List.take 40 a2)) == 0)),
                                      [Blk.row false
                                          ((Kd.int IntKind.i64).pair
                                            ((Kd.int IntKind.i64).pair
                                              ((Kd.int IntKind.i64).pair
                                                ((Kd.int IntKind.i64).pair
                                                  ((Kd.int IntKind.i64).pair (Kd.int IntKind.i64))))))
                                          a0,
                                        Blk.row false
                                          ((Kd.int IntKind.i64).pair
                                            ((Kd.int IntKind.i64).pair
                                              ((Kd.int IntKind.i64).pair
                                                ((Kd.int IntKind.i64).pair
                                                  ((Kd.int IntKind.i64).pair (Kd.int IntKind.i64))))))
                                          a2])
                                else
                                  some
                                    (PV.sc (Value.bool false),
                                      [Blk.row false
                                          ((Kd.int IntKind.i64).pair
                                            ((Kd.int IntKind.i64).pair
                                              ((Kd.int IntKind.i64).pair
                                                ((Kd.int IntKind.i64).pair
                                                  ((Kd.int IntKind.i64).pair (Kd.int IntKind.i64))))))
                                          a0,
                                        Blk.row false
                                          ((Kd.int IntKind.i64).pair
                                            ((Kd.int IntKind.i64).pair
                                              ((Kd.int IntKind.i64).pair
                                                ((Kd.int IntKind.i64).pair
                                                  ((Kd.int IntKind.i64).pair (Kd.int IntKind.i64))))))
                                          a2])
                              else
                                some
                                  (PV.sc (Value.bool false),
                                    [Blk.row false
                                        ((Kd.int IntKind.i64).pair
                                          ((Kd.int IntKind.i64).pair
                                            ((Kd.int IntKind.i64).pair
                                              ((Kd.int IntKind.i64).pair
                                                ((Kd.int IntKind.i64).pair (Kd.int IntKind.i64))))))
                                        a0,
                                      Blk.row false
                                        ((Kd.int IntKind.i64).pair
                                          ((Kd.int IntKind.i64).pair
                                            ((Kd.int IntKind.i64).pair
                                              ((Kd.int IntKind.i64).pair
                                                ((Kd.int IntKind.i64).pair (Kd.int IntKind.i64))))))
                                        a2])))))
                else
                  some
                    (PV.sc
                        (Value.bool
                          (lawZ (estV (List.take 40 a0) (List.take 40 a2)) (estE (List.take 40 a0) (List.take 40 a2))
                            4)),
                      [Blk.row false
                          ((Kd.int IntKind.i64).pair
                            ((Kd.int IntKind.i64).pair
                              ((Kd.int IntKind.i64).pair
                                ((Kd.int IntKind.i64).pair ((Kd.int IntKind.i64).pair (Kd.int IntKind.i64))))))
                          a0,
                        Blk.row false
                          ((Kd.int IntKind.i64).pair
                            ((Kd.int IntKind.i64).pair
                              ((Kd.int IntKind.i64).pair
                                ((Kd.int IntKind.i64).pair ((Kd.int IntKind.i64).pair (Kd.int IntKind.i64))))))
                          a2]))))))
    else
      guardB (bif decide (40 ≤ a0.length) then bif decide (0 + a2.length ≤ a2.length) then true else false else false)
        (guardB (decide (40 ≤ a0.length) && true && true)
          (guardB
            (decide (40 ≤ (List.take 40 a0).length) && decide (0 + a2.length ≤ a2.length) &&
                decide ((40 + a2.length) * 48 ≤ 140737488355328) &&
              decide (40 + a2.length ≤ 4611686018427387904))
            (guardB
              (bif
                  decide (0 + (40 + a2.length) ≤ (List.take 40 (List.take 40 a0) ++ List.take a2.length a2).length) then
                preLa (List.take (40 + a2.length) (List.take 40 (List.take 40 a0) ++ List.take a2.length a2))
                  (↑(40 + a2.length) : Int) 0
              else false)
              (bif
                  okP
                    (List.drop (Int.toNat 0)
                      (List.take (40 + a2.length) (List.take 40 (List.take 40 a0) ++ List.take a2.length a2))) then
                bif 40 != (↑a2.length : Int) then
                  some
                    (PV.sc (Value.bool (estE (List.take 40 a0) (List.take a2.length a2) == 3)),
                      [Blk.row false
                          ((Kd.int IntKind.i64).pair
                            ((Kd.int IntKind.i64).pair
                              ((Kd.int IntKind.i64).pair
                                ((Kd.int IntKind.i64).pair ((Kd.int IntKind.i64).pair (Kd.int IntKind.i64))))))
                          a0,
                        Blk.row false
                          ((Kd.int IntKind.i64).pair
                            ((Kd.int IntKind.i64).pair
                              ((Kd.int IntKind.i64).pair
                                ((Kd.int IntKind.i64).pair ((Kd.int IntKind.i64).pair (Kd.int IntKind.i64))))))
                          a2])
                else
                  guardB
                    (bif decide (40 ≤ a0.length) then
                      bif decide (0 + a2.length ≤ a2.length) then
                        preZ (List.take 40 a0) (List.take a2.length a2) [] [] [] 40 0
                      else false
                    else false)
                    (guardB
                      (bif
                          decide
                            (0 + ([] ++ zipK fR (List.take 40 a0) (List.take a2.length a2) 0).length ≤
                              (zipK fR (List.take 40 a0) (List.take a2.length a2) 0).length) then
                        decide
                          (1 ≤
                              (List.take ([] ++ zipK fR (List.take 40 a0) (List.take a2.length a2) 0).length
                                  (zipK fR (List.take 40 a0) (List.take a2.length a2) 0)).length ∧
                            (List.take ([] ++ zipK fR (List.take 40 a0) (List.take a2.length a2) 0).length
                                  (zipK fR (List.take 40 a0) (List.take a2.length a2) 0)).length ≤
                              1000)
                      else false)
                      (guardB
                        (bif
                            decide
                              (0 + ([] ++ zipK fA (List.take 40 a0) (List.take a2.length a2) 0).length ≤
                                (zipK fA (List.take 40 a0) (List.take a2.length a2) 0).length) then
                          decide
                            (1 ≤
                                (List.take ([] ++ zipK fA (List.take 40 a0) (List.take a2.length a2) 0).length
                                    (zipK fA (List.take 40 a0) (List.take a2.length a2) 0)).length ∧
                              (List.take ([] ++ zipK fA (List.take 40 a0) (List.take a2.length a2) 0).length
                                    (zipK fA (List.take 40 a0) (List.take a2.length a2) 0)).length ≤
                                1000)
                        else false)
                        (guardB
                          (bif
                              decide
                                (0 + ([] ++ zipK fT (List.take 40 a0) (List.take a2.length a2) 0).length ≤
                                  (zipK fT (List.take 40 a0) (List.take a2.length a2) 0).length) then
                            decide
                              (1 ≤
                                  (List.take ([] ++ zipK fT (List.take 40 a0) (List.take a2.length a2) 0).length
                                      (zipK fT (List.take 40 a0) (List.take a2.length a2) 0)).length ∧
                                (List.take ([] ++ zipK fT (List.take 40 a0) (List.take a2.length a2) 0).length
                                      (zipK fT (List.take 40 a0) (List.take a2.length a2) 0)).length ≤
                                  1000)
                          else false)
                          (bif
                              !inS
                                  (mid
                                    (List.take ([] ++ zipK fR (List.take 40 a0) (List.take a2.length a2) 0).length
                                      (zipK fR (List.take 40 a0) (List.take a2.length a2) 0)))
                                  (-10000) 10000 then
                            bif estE (List.take 40 a0) (List.take a2.length a2) == 4 then
                              some
                                (PV.sc
                                    (Value.bool
                                      ((estV (List.take 40 a0) (List.take a2.length a2)).fst == 0 &&
                                        ((estV (List.take 40 a0) (List.take a2.length a2)).snd.fst == 0 &&
                                          ((estV (List.take 40 a0) (List.take a2.length a2)).snd.snd == 0 && true)))),
                                  [Blk.row false
                                      ((Kd.int IntKind.i64).pair
                                        ((Kd.int IntKind.i64).pair
                                          ((Kd.int IntKind.i64).pair
                                            ((Kd.int IntKind.i64).pair
                                              ((Kd.int IntKind.i64).pair (Kd.int IntKind.i64))))))
                                      a0,
                                    Blk.row false
                                      ((Kd.int IntKind.i64).pair
                                        ((Kd.int IntKind.i64).pair
                                          ((Kd.int IntKind.i64).pair
                                            ((Kd.int IntKind.i64).pair
                                              ((Kd.int IntKind.i64).pair (Kd.int IntKind.i64))))))
                                      a2])
                            else
                              some
                                (PV.sc (Value.bool false),
                                  [Blk.row false
                                      ((Kd.int IntKind.i64).pair
                                        ((Kd.int IntKind.i64).pair
                                          ((Kd.int IntKind.i64).pair
                                            ((Kd.int IntKind.i64).pair
                                              ((Kd.int IntKind.i64).pair (Kd.int IntKind.i64))))))
                                      a0,
                                    Blk.row false
                                      ((Kd.int IntKind.i64).pair
                                        ((Kd.int IntKind.i64).pair
                                          ((Kd.int IntKind.i64).pair
                                            ((Kd.int IntKind.i64).pair
                                              ((Kd.int IntKind.i64).pair (Kd.int IntKind.i64))))))
                                      a2])
                          else
                            bif
                                !inS
                                    (mid
                                      (List.take ([] ++ zipK fT (List.take 40 a0) (List.take a2.length a2) 0).length
                                        (zipK fT (List.take 40 a0) (List.take a2.length a2) 0)))
                                    (-1000) 1000 then
                              bif estE (List.take 40 a0) (List.take a2.length a2) == 4 then
                                some
                                  (PV.sc
                                      (Value.bool
                                        ((estV (List.take 40 a0) (List.take a2.length a2)).fst == 0 &&
                                          ((estV (List.take 40 a0) (List.take a2.length a2)).snd.fst == 0 &&
                                            ((estV (List.take 40 a0) (List.take a2.length a2)).snd.snd == 0 && true)))),
                                    [Blk.row false
                                        ((Kd.int IntKind.i64).pair
                                          ((Kd.int IntKind.i64).pair
                                            ((Kd.int IntKind.i64).pair
                                              ((Kd.int IntKind.i64).pair
                                                ((Kd.int IntKind.i64).pair (Kd.int IntKind.i64))))))
                                        a0,
                                      Blk.row false
                                        ((Kd.int IntKind.i64).pair
                                          ((Kd.int IntKind.i64).pair
                                            ((Kd.int IntKind.i64).pair
                                              ((Kd.int IntKind.i64).pair
                                                ((Kd.int IntKind.i64).pair (Kd.int IntKind.i64))))))
                                        a2])
                              else
                                some
                                  (PV.sc (Value.bool false),
                                    [Blk.row false
                                        ((Kd.int IntKind.i64).pair
                                          ((Kd.int IntKind.i64).pair
                                            ((Kd.int IntKind.i64).pair
                                              ((Kd.int IntKind.i64).pair
                                                ((Kd.int IntKind.i64).pair (Kd.int IntKind.i64))))))
                                        a0,
                                      Blk.row false
                                        ((Kd.int IntKind.i64).pair
                                          ((Kd.int IntKind.i64).pair
                                            ((Kd.int IntKind.i64).pair
                                              ((Kd.int IntKind.i64).pair
                                                ((Kd.int IntKind.i64).pair (Kd.int IntKind.i64))))))
                                        a2])
                            else
                              bif estE (List.take 40 a0) (List.take a2.length a2) == 0 then
                                bif
                                    (estV (List.take 40 a0) (List.take a2.length a2)).fst ==
                                        mid
                                          (List.take ([] ++ zipK fR (List.take 40 a0) (List.take a2.length a2) 0).length
                                            (zipK fR (List.take 40 a0) (List.take a2.length a2) 0)) &&
                                      ((estV (List.take 40 a0) (List.take a2.length a2)).snd.fst ==
                                          mid
                                            (List.take
                                              ([] ++ zipK fA (List.take 40 a0) (List.take a2.length a2) 0).length
                                              (zipK fA (List.take 40 a0) (List.take a2.length a2) 0)) &&
                                        ((estV (List.take 40 a0) (List.take a2.length a2)).snd.snd ==
                                            mid
                                              (List.take
                                                ([] ++ zipK fT (List.take 40 a0) (List.take a2.length a2) 0).length
                                                (zipK fT (List.take 40 a0) (List.take a2.length a2) 0)) &&
                                          true)) then
                                  some
                                    (PV.sc (Value.bool (ofE (estV (List.take 40 a0) (List.take a2.length a2)) == 0)),
                                      [Blk.row false
                                          ((Kd.int IntKind.i64).pair
                                            ((Kd.int IntKind.i64).pair
                                              ((Kd.int IntKind.i64).pair
                                                ((Kd.int IntKind.i64).pair
                                                  ((Kd.int IntKind.i64).pair (Kd.int IntKind.i64))))))
                                          a0,
                                        Blk.row false
                                          ((Kd.int IntKind.i64).pair
                                            ((Kd.int IntKind.i64).pair
                                              ((Kd.int IntKind.i64).pair
                                                ((Kd.int IntKind.i64).pair
                                                  ((Kd.int IntKind.i64).pair (Kd.int IntKind.i64))))))
                                          a2])
                                else
                                  some
                                    (PV.sc (Value.bool false),
                                      [Blk.row false
                                          ((Kd.int IntKind.i64).pair
                                            ((Kd.int IntKind.i64).pair
                                              ((Kd.int IntKind.i64).pair
                                                ((Kd.int IntKind.i64).pair
                                                  ((Kd.int IntKind.i64).pair (Kd.int IntKind.i64))))))
                                          a0,
                                        Blk.row false
                                          ((Kd.int IntKind.i64).pair
                                            ((Kd.int IntKind.i64).pair
                                              ((Kd.int IntKind.i64).pair
                                                ((Kd.int IntKind.i64).pair
                                                  ((Kd.int IntKind.i64).pair (Kd.int IntKind.i64))))))
                                          a2])
                              else
                                some
                                  (PV.sc (Value.bool false),
                                    [Blk.row false
                                        ((Kd.int IntKind.i64).pair
                                          ((Kd.int IntKind.i64).pair
                                            ((Kd.int IntKind.i64).pair
                                              ((Kd.int IntKind.i64).pair
                                                ((Kd.int IntKind.i64).pair (Kd.int IntKind.i64))))))
                                        a0,
                                      Blk.row false
                                        ((Kd.int IntKind.i64).pair
                                          ((Kd.int IntKind.i64).pair
                                            ((Kd.int IntKind.i64).pair
                                              ((Kd.int IntKind.i64).pair
                                                ((Kd.int IntKind.i64).pair (Kd.int IntKind.i64))))))
                                        a2])))))
              else
                some
                  (PV.sc
                      (Value.bool
                        (lawZ (estV (List.take 40 a0) (List.take a2.length a2))
                          (estE (List.take 40 a0) (List.take a2.length a2)) 4)),
                    [Blk.row false
                        ((Kd.int IntKind.i64).pair
                          ((Kd.int IntKind.i64).pair
                            ((Kd.int IntKind.i64).pair
                              ((Kd.int IntKind.i64).pair ((Kd.int IntKind.i64).pair (Kd.int IntKind.i64))))))
                        a0,
                      Blk.row false
                        ((Kd.int IntKind.i64).pair
                          ((Kd.int IntKind.i64).pair
                            ((Kd.int IntKind.i64).pair
                              ((Kd.int IntKind.i64).pair ((Kd.int IntKind.i64).pair (Kd.int IntKind.i64))))))
                        a2]))))))
else
  bif decide ((↑a2.length : Int) > 40) then
    guardB (decide (40 ≤ (↑a2.length : Int)))
      (guardB (bif decide (0 + a0.length ≤ a0.length) then bif decide (40 ≤ a2.length) then true else false else false)
        (guardB
          (decide (0 + a0.length ≤ a0.length) && decide ((0 + a0.length) * 48 ≤ 140737488355328) &&
            decide (0 + a0.length ≤ 4611686018427387904))
          (bif decide (1 ≤ a0.length) then
            guardB
              (decide (0 + (0 + a0.length) ≤ (List.take a0.length a0).length) && decide (40 ≤ a2.length) &&
                  decide ((0 + a0.length + 40) * 48 ≤ 140737488355328) &&
                decide (0 + a0.length + 40 ≤ 4611686018427387904))
              (guardB
                (bif
                    decide
                      (0 + (0 + a0.length + 40) ≤
                        (List.take (0 + a0.length) (List.take a0.length a0) ++ List.take 40 a2).length) then
                  preLa
                    (List.take (0 + a0.length + 40)
                      (List.take (0 + a0.length) (List.take a0.length a0) ++ List.take 40 a2))
                    (↑(0 + a0.length + 40) : Int) 0
                else false)
                (bif
                    okP
                      (List.drop (Int.toNat 0)
                        (List.take (0 + a0.length + 40)
                          (List.take (0 + a0.length) (List.take a0.length a0) ++ List.take 40 a2))) then
                  bif (↑a0.length : Int) != 40 then
                    some
                      (PV.sc (Value.bool (estE (List.take a0.length a0) (List.take 40 a2) == 3)),
                        [Blk.row false
                            ((Kd.int IntKind.i64).pair
                              ((Kd.int IntKind.i64).pair
                                ((Kd.int IntKind.i64).pair
                                  ((Kd.int IntKind.i64).pair ((Kd.int IntKind.i64).pair (Kd.int IntKind.i64))))))
                            a0,
                          Blk.row false
                            ((Kd.int IntKind.i64).pair
                              ((Kd.int IntKind.i64).pair
                                ((Kd.int IntKind.i64).pair
                                  ((Kd.int IntKind.i64).pair ((Kd.int IntKind.i64).pair (Kd.int IntKind.i64))))))
                            a2])
                  else
                    bif (↑a0.length : Int) == 0 then
                      some
                        (PV.sc (Value.bool (estE (List.take a0.length a0) (List.take 40 a2) == 8)),
                          [Blk.row false
                              ((Kd.int IntKind.i64).pair
                                ((Kd.int IntKind.i64).pair
                                  ((Kd.int IntKind.i64).pair
                                    ((Kd.int IntKind.i64).pair ((Kd.int IntKind.i64).pair (Kd.int IntKind.i64))))))
                              a0,
                            Blk.row false
                              ((Kd.int IntKind.i64).pair
                                ((Kd.int IntKind.i64).pair
                                  ((Kd.int IntKind.i64).pair
                                    ((Kd.int IntKind.i64).pair ((Kd.int IntKind.i64).pair (Kd.int IntKind.i64))))))
                              a2])
                    else
                      guardB
                        (bif decide (0 + a0.length ≤ a0.length) then
                          bif decide (40 ≤ a2.length) then
                            preZ (List.take a0.length a0) (List.take 40 a2) [] [] [] (↑a0.length : Int) 0
                          else false
                        else false)
                        (guardB
                          (bif
                              decide
                                (0 + ([] ++ zipK fR (List.take a0.length a0) (List.take 40 a2) 0).length ≤
                                  (zipK fR (List.take a0.length a0) (List.take 40 a2) 0).length) then
                            decide
                              (1 ≤
                                  (List.take ([] ++ zipK fR (List.take a0.length a0) (List.take 40 a2) 0).length
                                      (zipK fR (List.take a0.length a0) (List.take 40 a2) 0)).length ∧
                                (List.take ([] ++ zipK fR (List.take a0.length a0) (List.take 40 a2) 0).length
                                      (zipK fR (List.take a0.length a0) (List.take 40 a2) 0)).length ≤
                                  1000)
                          else false)
                          (guardB
                            (bif
                                decide
                                  (0 + ([] ++ zipK fA (List.take a0.length a0) (List.take 40 a2) 0).length ≤
                                    (zipK fA (List.take a0.length a0) (List.take 40 a2) 0).length) then
                              decide
                                (1 ≤
                                    (List.take ([] ++ zipK fA (List.take a0.length a0) (List.take 40 a2) 0).length
                                        (zipK fA (List.take a0.length a0) (List.take 40 a2) 0)).length ∧
                                  (List.take ([] ++ zipK fA (List.take a0.length a0) (List.take 40 a2) 0).length
                                        (zipK fA (List.take a0.length a0) (List.take 40 a2) 0)).length ≤
                                    1000)
                            else false)
                            (guardB
                              (bif
                                  decide
                                    (0 + ([] ++ zipK fT (List.take a0.length a0) (List.take 40 a2) 0).length ≤
                                      (zipK fT (List.take a0.length a0) (List.take 40 a2) 0).length) then
                                decide
                                  (1 ≤
                                      (List.take ([] ++ zipK fT (List.take a0.length a0) (List.take 40 a2) 0).length
                                          (zipK fT (List.take a0.length a0) (List.take 40 a2) 0)).length ∧
                                    (List.take ([] ++ zipK fT (List.take a0.length a0) (List.take 40 a2) 0).length
                                          (zipK fT (List.take a0.length a0) (List.take 40 a2) 0)).length ≤
                                      1000)
                              else false)
                              (bif
                                  !inS
                                      (mid
                                        (List.take ([] ++ zipK fR (List.take a0.length a0) (List.take 40 a2) 0).length
                                          (zipK fR (List.take a0.length a0) (List.take 40 a2) 0)))
                                      (-10000) 10000 then
                                bif estE (List.take a0.length a0) (List.take 40 a2) == 4 then
                                  some
                                    (PV.sc
                                        (Value.bool
                                          ((estV (List.take a0.length a0) (List.take 40 a2)).fst == 0 &&
                                            ((estV (List.take a0.length a0) (List.take 40 a2)).snd.fst == 0 &&
                                              ((estV (List.take a0.length a0) (List.take 40 a2)).snd.snd == 0 &&
                                                true)))),
                                      [Blk.row false
                                          ((Kd.int IntKind.i64).pair
                                            ((Kd.int IntKind.i64).pair
                                              ((Kd.int IntKind.i64).pair
                                                ((Kd.int IntKind.i64).pair
                                                  ((Kd.int IntKind.i64).pair (Kd.int IntKind.i64))))))
                                          a0,
                                        Blk.row false
                                          ((Kd.int IntKind.i64).pair
                                            ((Kd.int IntKind.i64).pair
                                              ((Kd.int IntKind.i64).pair
                                                ((Kd.int IntKind.i64).pair
                                                  ((Kd.int IntKind.i64).pair (Kd.int IntKind.i64))))))
                                          a2])
                                else
                                  some
                                    (PV.sc (Value.bool false),
                                      [Blk.row false
                                          ((Kd.int IntKind.i64).pair
                                            ((Kd.int IntKind.i64).pair
                                              ((Kd.int IntKind.i64).pair
                                                ((Kd.int IntKind.i64).pair
                                                  ((Kd.int IntKind.i64).pair (Kd.int IntKind.i64))))))
                                          a0,
                                        Blk.row false
                                          ((Kd.int IntKind.i64).pair
                                            ((Kd.int IntKind.i64).pair
                                              ((Kd.int IntKind.i64).pair
                                                ((Kd.int IntKind.i64).pair
                                                  ((Kd.int IntKind.i64).pair (Kd.int IntKind.i64))))))
                                          a2])
                              else
                                bif
                                    !inS
                                        (mid
                                          (List.take ([] ++ zipK fT (List.take a0.length a0) (List.take 40 a2) 0).length
                                            (zipK fT (List.take a0.length a0) (List.take 40 a2) 0)))
                                        (-1000) 1000 then
                                  bif estE (List.take a0.length a0) (List.take 40 a2) == 4 then
                                    some
                                      (PV.sc
                                          (Value.bool
                                            ((estV (List.take a0.length a0) (List.take 40 a2)).fst == 0 &&
                                              ((estV (List.take a0.length a0) (List.take 40 a2)).snd.fst == 0 &&
                                                ((estV (List.take a0.length a0) (List.take 40 a2)).snd.snd == 0 &&
                                                  true)))),
                                        [Blk.row false
                                            ((Kd.int IntKind.i64).pair
                                              ((Kd.int IntKind.i64).pair
                                                ((Kd.int IntKind.i64).pair
                                                  ((Kd.int IntKind.i64).pair
                                                    ((Kd.int IntKind.i64).pair (Kd.int IntKind.i64))))))
                                            a0,
                                          Blk.row false
                                            ((Kd.int IntKind.i64).pair
                                              ((Kd.int IntKind.i64).pair
                                                ((Kd.int IntKind.i64).pair
                                                  ((Kd.int IntKind.i64).pair
                                                    ((Kd.int IntKind.i64).pair (Kd.int IntKind.i64))))))
                                            a2])
                                  else
                                    some
                                      (PV.sc (Value.bool false),
                                        [Blk.row false
                                            ((Kd.int IntKind.i64).pair
                                              ((Kd.int IntKind.i64).pair
                                                ((Kd.int IntKind.i64).pair
                                                  ((Kd.int IntKind.i64).pair
                                                    ((Kd.int IntKind.i64).pair (Kd.int IntKind.i64))))))
                                            a0,
                                          Blk.row false
                                            ((Kd.int IntKind.i64).pair
                                              ((Kd.int IntKind.i64).pair
                                                ((Kd.int IntKind.i64).pair
                                                  ((Kd.int IntKind.i64).pair
                                                    ((Kd.int IntKind.i64).pair (Kd.int IntKind.i64))))))
                                            a2])
                                else
                                  bif estE (List.take a0.length a0) (List.take 40 a2) == 0 then
                                    bif
                                        (estV (List.take a0.length a0) (List.take 40 a2)).fst ==
                                            mid
                                              (List.take
                                                ([] ++ zipK fR (List.take a0.length a0) (List.take 40 a2) 0).length
                                                (zipK fR (List.take a0.length a0) (List.take 40 a2) 0)) &&
                                          ((estV (List.take a0.length a0) (List.take 40 a2)).snd.fst ==
                                              mid
                                                (List.take
                                                  ([] ++ zipK fA (List.take a0.length a0) (List.take 40 a2) 0).length
                                                  (zipK fA (List.take a0.length a0) (List.take 40 a2) 0)) &&
                                            ((estV (List.take a0.length a0) (List.take 40 a2)).snd.snd ==
                                                mid
                                                  (List.take
                                                    ([] ++ zipK fT (List.take a0.length a0) (List.take 40 a2) 0).length
                                                    (zipK fT (List.take a0.length a0) (List.take 40 a2) 0)) &&
                                              true)) then
                                      some
                                        (PV.sc
                                            (Value.bool (ofE (estV (List.take a0.length a0) (List.take 40 a2)) == 0)),
                                          [Blk.row false
                                              ((Kd.int IntKind.i64).pair
                                                ((Kd.int IntKind.i64).pair
                                                  ((Kd.int IntKind.i64).pair
                                                    ((Kd.int IntKind.i64).pair
                                                      ((Kd.int IntKind.i64).pair (Kd.int IntKind.i64))))))
                                              a0,
                                            Blk.row false
                                              ((Kd.int IntKind.i64).pair
                                                ((Kd.int IntKind.i64).pair
                                                  ((Kd.int IntKind.i64).pair
                                                    ((Kd.int IntKind.i64).pair
                                                      ((Kd.int IntKind.i64).pair (Kd.int IntKind.i64))))))
                                              a2])
                                    else
                                      some
                                        (PV.sc (Value.bool false),
                                          [Blk.row false
                                              ((Kd.int IntKind.i64).pair
                                                ((Kd.int IntKind.i64).pair
                                                  ((Kd.int IntKind.i64).pair
                                                    ((Kd.int IntKind.i64).pair
                                                      ((Kd.int IntKind.i64).pair (Kd.int IntKind.i64))))))
                                              a0,
                                            Blk.row false
                                              ((Kd.int IntKind.i64).pair
                                                ((Kd.int IntKind.i64).pair
                                                  ((Kd.int IntKind.i64).pair
                                                    ((Kd.int IntKind.i64).pair
                                                      ((Kd.int IntKind.i64).pair (Kd.int IntKind.i64))))))
                                              a2])
                                  else
                                    some
                                      (PV.sc (Value.bool false),
                                        [Blk.row false
                                            ((Kd.int IntKind.i64).pair
                                              ((Kd.int IntKind.i64).pair
                                                ((Kd.int IntKind.i64).pair
                                                  ((Kd.int IntKind.i64).pair
                                                    ((Kd.int IntKind.i64).pair (Kd.int IntKind.i64))))))
                                            a0,
                                          Blk.row false
                                            ((Kd.int IntKind.i64).pair
                                              ((Kd.int IntKind.i64).pair
                                                ((Kd.int IntKind.i64).pair
                                                  ((Kd.int IntKind.i64).pair
                                                    ((Kd.int IntKind.i64).pair (Kd.int IntKind.i64))))))
                                            a2])))))
                else
                  some
                    (PV.sc
                        (Value.bool
                          (lawZ (estV (List.take a0.length a0) (List.take 40 a2))
                            (estE (List.take a0.length a0) (List.take 40 a2)) 4)),
                      [Blk.row false
                          ((Kd.int IntKind.i64).pair
                            ((Kd.int IntKind.i64).pair
                              ((Kd.int IntKind.i64).pair
                                ((Kd.int IntKind.i64).pair ((Kd.int IntKind.i64).pair (Kd.int IntKind.i64))))))
                          a0,
                        Blk.row false
                          ((Kd.int IntKind.i64).pair
                            ((Kd.int IntKind.i64).pair
                              ((Kd.int IntKind.i64).pair
                                ((Kd.int IntKind.i64).pair ((Kd.int IntKind.i64).pair (Kd.int IntKind.i64))))))
                          a2])))
          else
            guardB
              (decide (0 + (0 + a0.length) ≤ (List.take a0.length a0).length) && decide (40 ≤ a2.length) &&
                  decide ((0 + a0.length + 40) * 48 ≤ 140737488355328) &&
                decide (0 + a0.length + 40 ≤ 4611686018427387904))
              (guardB
                (bif
                    decide
                      (0 + (0 + a0.length + 40) ≤
                        (List.take (0 + a0.length) (List.take a0.length a0) ++ List.take 40 a2).length) then
                  preLa
                    (List.take (0 + a0.length + 40)
                      (List.take (0 + a0.length) (List.take a0.length a0) ++ List.take 40 a2))
                    (↑(0 + a0.length + 40) : Int) 0
                else false)
                (bif
                    okP
                      (List.drop (Int.toNat 0)
                        (List.take (0 + a0.length + 40)
                          (List.take (0 + a0.length) (List.take a0.length a0) ++ List.take 40 a2))) then
                  bif (↑a0.length : Int) != 40 then
                    some
                      (PV.sc (Value.bool (estE (List.take a0.length a0) (List.take 40 a2) == 3)),
                        [Blk.row false
                            ((Kd.int IntKind.i64).pair
                              ((Kd.int IntKind.i64).pair
                                ((Kd.int IntKind.i64).pair
                                  ((Kd.int IntKind.i64).pair ((Kd.int IntKind.i64).pair (Kd.int IntKind.i64))))))
                            a0,
                          Blk.row false
                            ((Kd.int IntKind.i64).pair
                              ((Kd.int IntKind.i64).pair
                                ((Kd.int IntKind.i64).pair
                                  ((Kd.int IntKind.i64).pair ((Kd.int IntKind.i64).pair (Kd.int IntKind.i64))))))
                            a2])
                  else
                    bif (↑a0.length : Int) == 0 then
                      some
                        (PV.sc (Value.bool (estE (List.take a0.length a0) (List.take 40 a2) == 8)),
                          [Blk.row false
                              ((Kd.int IntKind.i64).pair
                                ((Kd.int IntKind.i64).pair
                                  ((Kd.int IntKind.i64).pair
                                    ((Kd.int IntKind.i64).pair ((Kd.int IntKind.i64).pair (Kd.int IntKind.i64))))))
                              a0,
                            Blk.row false
                              ((Kd.int IntKind.i64).pair
                                ((Kd.int IntKind.i64).pair
                                  ((Kd.int IntKind.i64).pair
                                    ((Kd.int IntKind.i64).pair ((Kd.int IntKind.i64).pair (Kd.int IntKind.i64))))))
                              a2])
                    else
                      guardB
                        (bif decide (0 + a0.length ≤ a0.length) then
                          bif decide (40 ≤ a2.length) then
                            preZ (List.take a0.length a0) (List.take 40 a2) [] [] [] (↑a0.length : Int) 0
                          else false
                        else false)
                        (guardB
                          (bif
                              decide
                                (0 + ([] ++ zipK fR (List.take a0.length a0) (List.take 40 a2) 0).length ≤
                                  (zipK fR (List.take a0.length a0) (List.take 40 a2) 0).length) then
                            decide
                              (1 ≤
                                  (List.take ([] ++ zipK fR (List.take a0.length a0) (List.take 40 a2) 0).length
                                      (zipK fR (List.take a0.length a0) (List.take 40 a2) 0)).length ∧
                                (List.take ([] ++ zipK fR (List.take a0.length a0) (List.take 40 a2) 0).length
                                      (zipK fR (List.take a0.length a0) (List.take 40 a2) 0)).length ≤
                                  1000)
                          else false)
                          (guardB
                            (bif
                                decide
                                  (0 + ([] ++ zipK fA (List.take a0.length a0) (List.take 40 a2) 0).length ≤
                                    (zipK fA (List.take a0.length a0) (List.take 40 a2) 0).length) then
                              decide
                                (1 ≤
                                    (List.take ([] ++ zipK fA (List.take a0.length a0) (List.take 40 a2) 0).length
                                        (zipK fA (List.take a0.length a0) (List.take 40 a2) 0)).length ∧
                                  (List.take ([] ++ zipK fA (List.take a0.length a0) (List.take 40 a2) 0).length
                                        (zipK fA (List.take a0.length a0) (List.take 40 a2) 0)).length ≤
                                    1000)
                            else false)
                            (guardB
                              (bif
                                  decide
                                    (0 + ([] ++ zipK fT (List.take a0.length a0) (List.take 40 a2) 0).length ≤
                                      (zipK fT (List.take a0.length a0) (List.take 40 a2) 0).length) then
                                decide
                                  (1 ≤
                                      (List.take ([] ++ zipK fT (List.take a0.length a0) (List.take 40 a2) 0).length
                                          (zipK fT (List.take a0.length a0) (List.take 40 a2) 0)).length ∧
                                    (List.take ([] ++ zipK fT (List.take a0.length a0) (List.take 40 a2) 0).length
                                          (zipK fT (List.take a0.length a0) (List.take 40 a2) 0)).length ≤
                                      1000)
                              else false)
                              (bif
                                  !inS
                                      (mid
                                        (List.take ([] ++ zipK fR (List.take a0.length a0) (List.take 40 a2) 0).length
                                          (zipK fR (List.take a0.length a0) (List.take 40 a2) 0)))
                                      (-10000) 10000 then
                                bif estE (List.take a0.length a0) (List.take 40 a2) == 4 then
                                  some
                                    (PV.sc
                                        (Value.bool
                                          ((estV (List.take a0.length a0) (List.take 40 a2)).fst == 0 &&
                                            ((estV (List.take a0.length a0) (List.take 40 a2)).snd.fst == 0 &&
                                              ((estV (List.take a0.length a0) (List.take 40 a2)).snd.snd == 0 &&
                                                true)))),
                                      [Blk.row false
                                          ((Kd.int IntKind.i64).pair
                                            ((Kd.int IntKind.i64).pair
                                              ((Kd.int IntKind.i64).pair
                                                ((Kd.int IntKind.i64).pair
                                                  ((Kd.int IntKind.i64).pair (Kd.int IntKind.i64))))))
                                          a0,
                                        Blk.row false
                                          ((Kd.int IntKind.i64).pair
                                            ((Kd.int IntKind.i64).pair
                                              ((Kd.int IntKind.i64).pair
                                                ((Kd.int IntKind.i64).pair
                                                  ((Kd.int IntKind.i64).pair (Kd.int IntKind.i64))))))
                                          a2])
                                else
                                  some
                                    (PV.sc (Value.bool false),
                                      [Blk.row false
                                          ((Kd.int IntKind.i64).pair
                                            ((Kd.int IntKind.i64).pair
                                              ((Kd.int IntKind.i64).pair
                                                ((Kd.int IntKind.i64).pair
                                                  ((Kd.int IntKind.i64).pair (Kd.int IntKind.i64))))))
                                          a0,
                                        Blk.row false
                                          ((Kd.int IntKind.i64).pair
                                            ((Kd.int IntKind.i64).pair
                                              ((Kd.int IntKind.i64).pair
                                                ((Kd.int IntKind.i64).pair
                                                  ((Kd.int IntKind.i64).pair (Kd.int IntKind.i64))))))
                                          a2])
                              else
                                bif
                                    !inS
                                        (mid
                                          (List.take ([] ++ zipK fT (List.take a0.length a0) (List.take 40 a2) 0).length
                                            (zipK fT (List.take a0.length a0) (List.take 40 a2) 0)))
                                        (-1000) 1000 then
                                  bif estE (List.take a0.length a0) (List.take 40 a2) == 4 then
                                    some
                                      (PV.sc
                                          (Value.bool
                                            ((estV (List.take a0.length a0) (List.take 40 a2)).fst == 0 &&
                                              ((estV (List.take a0.length a0) (List.take 40 a2)).snd.fst == 0 &&
                                                ((estV (List.take a0.length a0) (List.take 40 a2)).snd.snd == 0 &&
                                                  true)))),
                                        [Blk.row false
                                            ((Kd.int IntKind.i64).pair
                                              ((Kd.int IntKind.i64).pair
                                                ((Kd.int IntKind.i64).pair
                                                  ((Kd.int IntKind.i64).pair
                                                    ((Kd.int IntKind.i64).pair (Kd.int IntKind.i64))))))
                                            a0,
                                          Blk.row false
                                            ((Kd.int IntKind.i64).pair
                                              ((Kd.int IntKind.i64).pair
                                                ((Kd.int IntKind.i64).pair
                                                  ((Kd.int IntKind.i64).pair
                                                    ((Kd.int IntKind.i64).pair (Kd.int IntKind.i64))))))
                                            a2])
                                  else
                                    some
                                      (PV.sc (Value.bool false),
                                        [Blk.row false
                                            ((Kd.int IntKind.i64).pair
                                              ((Kd.int IntKind.i64).pair
                                                ((Kd.int IntKind.i64).pair
                                                  ((Kd.int IntKind.i64).pair
                                                    ((Kd.int IntKind.i64).pair (Kd.int IntKind.i64))))))
                                            a0,
                                          Blk.row false
                                            ((Kd.int IntKind.i64).pair
                                              ((Kd.int IntKind.i64).pair
                                                ((Kd.int IntKind.i64).pair
                                                  ((Kd.int IntKind.i64).pair
                                                    ((Kd.int IntKind.i64).pair (Kd.int IntKind.i64))))))
                                            a2])
                                else
                                  bif estE (List.take a0.length a0) (List.take 40 a2) == 0 then
                                    bif
                                        (estV (List.take a0.length a0) (List.take 40 a2)).fst ==
                                            mid
                                              (List.take
                                                ([] ++ zipK fR (List.take a0.length a0) (List.take 40 a2) 0).length
                                                (zipK fR (List.take a0.length a0) (List.take 40 a2) 0)) &&
                                          ((estV (List.take a0.length a0) (List.take 40 a2)).snd.fst ==
                                              mid
                                                (List.take
                                                  ([] ++ zipK fA (List.take a0.length a0) (List.take 40 a2) 0).length
                                                  (zipK fA (List.take a0.length a0) (List.take 40 a2) 0)) &&
                                            ((estV (List.take a0.length a0) (List.take 40 a2)).snd.snd ==
                                                mid
                                                  (List.take
                                                    ([] ++ zipK fT (List.take a0.length a0) (List.take 40 a2) 0).length
                                                    (zipK fT (List.take a0.length a0) (List.take 40 a2) 0)) &&
                                              true)) then
                                      some
                                        (PV.sc
                                            (Value.bool (ofE (estV (List.take a0.length a0) (List.take 40 a2)) == 0)),
                                          [Blk.row false
                                              ((Kd.int IntKind.i64).pair
                                                ((Kd.int IntKind.i64).pair
                                                  ((Kd.int IntKind.i64).pair
                                                    ((Kd.int IntKind.i64).pair
                                                      ((Kd.int IntKind.i64).pair (Kd.int IntKind.i64))))))
                                              a0,
                                            Blk.row false
                                              ((Kd.int IntKind.i64).pair
                                                ((Kd.int IntKind.i64).pair
                                                  ((Kd.int IntKind.i64).pair
                                                    ((Kd.int IntKind.i64).pair
                                                      ((Kd.int IntKind.i64).pair (Kd.int IntKind.i64))))))
                                              a2])
                                    else
                                      some
                                        (PV.sc (Value.bool false),
                                          [Blk.row false
                                              ((Kd.int IntKind.i64).pair
                                                ((Kd.int IntKind.i64).pair
                                                  ((Kd.int IntKind.i64).pair
                                                    ((Kd.int IntKind.i64).pair
                                                      ((Kd.int IntKind.i64).pair (Kd.int IntKind.i64))))))
                                              a0,
                                            Blk.row false
                                              ((Kd.int IntKind.i64).pair
                                                ((Kd.int IntKind.i64).pair
                                                  ((Kd.int IntKind.i64).pair
                                                    ((Kd.int IntKind.i64).pair
                                                      ((Kd.int IntKind.i64).pair (Kd.int IntKind.i64))))))
                                              a2])
                                  else
                                    some
                                      (PV.sc (Value.bool false),
                                        [Blk.row false
                                            ((Kd.int IntKind.i64).pair
                                              ((Kd.int IntKind.i64).pair
                                                ((Kd.int IntKind.i64).pair
                                                  ((Kd.int IntKind.i64).pair
                                                    ((Kd.int IntKind.i64).pair (Kd.int IntKind.i64))))))
                                            a0,
                                          Blk.row false
                                            ((Kd.int IntKind.i64).pair
                                              ((Kd.int IntKind.i64).pair
                                                ((Kd.int IntKind.i64).pair
                                                  ((Kd.int IntKind.i64).pair
                                                    ((Kd.int IntKind.i64).pair (Kd.int IntKind.i64))))))
                                            a2])))))
                else
                  some
                    (PV.sc
                        (Value.bool
                          (lawZ (estV (List.take a0.length a0) (List.take 40 a2))
                            (estE (List.take a0.length a0) (List.take 40 a2)) 4)),
                      [Blk.row false
                          ((Kd.int IntKind.i64).pair
                            ((Kd.int IntKind.i64).pair
                              ((Kd.int IntKind.i64).pair
                                ((Kd.int IntKind.i64).pair ((Kd.int IntKind.i64).pair (Kd.int IntKind.i64))))))
                          a0,
                        Blk.row false
                          ((Kd.int IntKind.i64).pair
                            ((Kd.int IntKind.i64).pair
                              ((Kd.int IntKind.i64).pair
                                ((Kd.int IntKind.i64).pair ((Kd.int IntKind.i64).pair (Kd.int IntKind.i64))))))
                          a2]))))))
  else
    guardB
      (bif decide (0 + a0.length ≤ a0.length) then bif decide (0 + a2.length ≤ a2.length) then true else false
      else false)
      (guardB
        (decide (0 + a0.length ≤ a0.length) && decide ((0 + a0.length) * 48 ≤ 140737488355328) &&
          decide (0 + a0.length ≤ 4611686018427387904))
        (bif decide (1 ≤ a0.length) then
          guardB
            (decide (0 + (0 + a0.length) ≤ (List.take a0.length a0).length) && decide (0 + a2.length ≤ a2.length) &&
                decide ((0 + a0.length + a2.length) * 48 ≤ 140737488355328) &&
              decide (0 + a0.length + a2.length ≤ 4611686018427387904))
            (guardB
              (bif
                  decide
                    (0 + (0 + a0.length + a2.length) ≤
                      (List.take (0 + a0.length) (List.take a0.length a0) ++ List.take a2.length a2).length) then
                preLa
                  (List.take (0 + a0.length + a2.length)
                    (List.take (0 + a0.length) (List.take a0.length a0) ++ List.take a2.length a2))
                  (↑(0 + a0.length + a2.length) : Int) 0
              else false)
              (bif
                  okP
                    (List.drop (Int.toNat 0)
                      (List.take (0 + a0.length + a2.length)
                        (List.take (0 + a0.length) (List.take a0.length a0) ++ List.take a2.length a2))) then
                bif (↑a0.length : Int) != (↑a2.length : Int) then
                  some
                    (PV.sc (Value.bool (estE (List.take a0.length a0) (List.take a2.length a2) == 3)),
                      [Blk.row false
                          ((Kd.int IntKind.i64).pair
                            ((Kd.int IntKind.i64).pair
                              ((Kd.int IntKind.i64).pair
                                ((Kd.int IntKind.i64).pair ((Kd.int IntKind.i64).pair (Kd.int IntKind.i64))))))
                          a0,
                        Blk.row false
                          ((Kd.int IntKind.i64).pair
                            ((Kd.int IntKind.i64).pair
                              ((Kd.int IntKind.i64).pair
                                ((Kd.int IntKind.i64).pair ((Kd.int IntKind.i64).pair (Kd.int IntKind.i64))))))
                          a2])
                else
                  bif (↑a0.length : Int) == 0 then
                    some
                      (PV.sc (Value.bool (estE (List.take a0.length a0) (List.take a2.length a2) == 8)),
                        [Blk.row false
                            ((Kd.int IntKind.i64).pair
                              ((Kd.int IntKind.i64).pair
                                ((Kd.int IntKind.i64).pair
                                  ((Kd.int IntKind.i64).pair ((Kd.int IntKind.i64).pair (Kd.int IntKind.i64))))))
                            a0,
                          Blk.row false
                            ((Kd.int IntKind.i64).pair
                              ((Kd.int IntKind.i64).pair
                                ((Kd.int IntKind.i64).pair
                                  ((Kd.int IntKind.i64).pair ((Kd.int IntKind.i64).pair (Kd.int IntKind.i64))))))
                            a2])
                  else
                    guardB
                      (bif decide (0 + a0.length ≤ a0.length) then
                        bif decide (0 + a2.length ≤ a2.length) then
                          preZ (List.take a0.length a0) (List.take a2.length a2) [] [] [] (↑a0.length : Int) 0
                        else false
                      else false)
                      (guardB
                        (bif
                            decide
                              (0 + ([] ++ zipK fR (List.take a0.length a0) (List.take a2.length a2) 0).length ≤
                                (zipK fR (List.take a0.length a0) (List.take a2.length a2) 0).length) then
                          decide
                            (1 ≤
                                (List.take ([] ++ zipK fR (List.take a0.length a0) (List.take a2.length a2) 0).length
                                    (zipK fR (List.take a0.length a0) (List.take a2.length a2) 0)).length ∧
                              (List.take ([] ++ zipK fR (List.take a0.length a0) (List.take a2.length a2) 0).length
                                    (zipK fR (List.take a0.length a0) (List.take a2.length a2) 0)).length ≤
                                1000)
                        else false)
                        (guardB
                          (bif
                              decide
                                (0 + ([] ++ zipK fA (List.take a0.length a0) (List.take a2.length a2) 0).length ≤
                                  (zipK fA (List.take a0.length a0) (List.take a2.length a2) 0).length) then
                            decide
                              (1 ≤
                                  (List.take ([] ++ zipK fA (List.take a0.length a0) (List.take a2.length a2) 0).length
                                      (zipK fA (List.take a0.length a0) (List.take a2.length a2) 0)).length ∧
                                (List.take ([] ++ zipK fA (List.take a0.length a0) (List.take a2.length a2) 0).length
                                      (zipK fA (List.take a0.length a0) (List.take a2.length a2) 0)).length ≤
                                  1000)
                          else false)
                          (guardB
                            (bif
                                decide
                                  (0 + ([] ++ zipK fT (List.take a0.length a0) (List.take a2.length a2) 0).length ≤
                                    (zipK fT (List.take a0.length a0) (List.take a2.length a2) 0).length) then
                              decide
                                (1 ≤
                                    (List.take
                                        ([] ++ zipK fT (List.take a0.length a0) (List.take a2.length a2) 0).length
                                        (zipK fT (List.take a0.length a0) (List.take a2.length a2) 0)).length ∧
                                  (List.take ([] ++ zipK fT (List.take a0.length a0) (List.take a2.length a2) 0).length
                                        (zipK fT (List.take a0.length a0) (List.take a2.length a2) 0)).length ≤
                                    1000)
                            else false)
                            (bif
                                !inS
                                    (mid
                                      (List.take
                                        ([] ++ zipK fR (List.take a0.length a0) (List.take a2.length a2) 0).length
                                        (zipK fR (List.take a0.length a0) (List.take a2.length a2) 0)))
                                    (-10000) 10000 then
                              bif estE (List.take a0.length a0) (List.take a2.length a2) == 4 then
                                some
                                  (PV.sc
                                      (Value.bool
                                        ((estV (List.take a0.length a0) (List.take a2.length a2)).fst == 0 &&
                                          ((estV (List.take a0.length a0) (List.take a2.length a2)).snd.fst == 0 &&
                                            ((estV (List.take a0.length a0) (List.take a2.length a2)).snd.snd == 0 &&
                                              true)))),
                                    [Blk.row false
                                        ((Kd.int IntKind.i64).pair
                                          ((Kd.int IntKind.i64).pair
                                            ((Kd.int IntKind.i64).pair
                                              ((Kd.int IntKind.i64).pair
                                                ((Kd.int IntKind.i64).pair (Kd.int IntKind.i64))))))
                                        a0,
                                      Blk.row false
                                        ((Kd.int IntKind.i64).pair
                                          ((Kd.int IntKind.i64).pair
                                            ((Kd.int IntKind.i64).pair
                                              ((Kd.int IntKind.i64).pair
                                                ((Kd.int IntKind.i64).pair (Kd.int IntKind.i64))))))
                                        a2])
                              else
                                some
                                  (PV.sc (Value.bool false),
                                    [Blk.row false
                                        ((Kd.int IntKind.i64).pair
                                          ((Kd.int IntKind.i64).pair
                                            ((Kd.int IntKind.i64).pair
                                              ((Kd.int IntKind.i64).pair
                                                ((Kd.int IntKind.i64).pair (Kd.int IntKind.i64))))))
                                        a0,
                                      Blk.row false
                                        ((Kd.int IntKind.i64).pair
                                          ((Kd.int IntKind.i64).pair
                                            ((Kd.int IntKind.i64).pair
                                              ((Kd.int IntKind.i64).pair
                                                ((Kd.int IntKind.i64).pair (Kd.int IntKind.i64))))))
                                        a2])
                            else
                              bif
                                  !inS
                                      (mid
                                        (List.take
                                          ([] ++ zipK fT (List.take a0.length a0) (List.take a2.length a2) 0).length
                                          (zipK fT (List.take a0.length a0) (List.take a2.length a2) 0)))
                                      (-1000) 1000 then
                                bif estE (List.take a0.length a0) (List.take a2.length a2) == 4 then
                                  some
                                    (PV.sc
                                        (Value.bool
                                          ((estV (List.take a0.length a0) (List.take a2.length a2)).fst == 0 &&
                                            ((estV (List.take a0.length a0) (List.take a2.length a2)).snd.fst == 0 &&
                                              ((estV (List.take a0.length a0) (List.take a2.length a2)).snd.snd == 0 &&
                                                true)))),
                                      [Blk.row false
                                          ((Kd.int IntKind.i64).pair
                                            ((Kd.int IntKind.i64).pair
                                              ((Kd.int IntKind.i64).pair
                                                ((Kd.int IntKind.i64).pair
                                                  ((Kd.int IntKind.i64).pair (Kd.int IntKind.i64))))))
                                          a0,
                                        Blk.row false
                                          ((Kd.int IntKind.i64).pair
                                            ((Kd.int IntKind.i64).pair
                                              ((Kd.int IntKind.i64).pair
                                                ((Kd.int IntKind.i64).pair
                                                  ((Kd.int IntKind.i64).pair (Kd.int IntKind.i64))))))
                                          a2])
                                else
                                  some
                                    (PV.sc (Value.bool false),
                                      [Blk.row false
                                          ((Kd.int IntKind.i64).pair
                                            ((Kd.int IntKind.i64).pair
                                              ((Kd.int IntKind.i64).pair
                                                ((Kd.int IntKind.i64).pair
                                                  ((Kd.int IntKind.i64).pair (Kd.int IntKind.i64))))))
                                          a0,
                                        Blk.row false
                                          ((Kd.int IntKind.i64).pair
                                            ((Kd.int IntKind.i64).pair
                                              ((Kd.int IntKind.i64).pair
                                                ((Kd.int IntKind.i64).pair
                                                  ((Kd.int IntKind.i64).pair (Kd.int IntKind.i64))))))
                                          a2])
                              else
                                bif estE (List.take a0.length a0) (List.take a2.length a2) == 0 then
                                  bif
                                      (estV (List.take a0.length a0) (List.take a2.length a2)).fst ==
                                          mid
                                            (List.take
                                              ([] ++ zipK fR (List.take a0.length a0) (List.take a2.length a2) 0).length
                                              (zipK fR (List.take a0.length a0) (List.take a2.length a2) 0)) &&
                                        ((estV (List.take a0.length a0) (List.take a2.length a2)).snd.fst ==
                                            mid
                                              (List.take
                                                ([] ++
                                                    zipK fA (List.take a0.length a0) (List.take a2.length a2) 0).length
                                                (zipK fA (List.take a0.length a0) (List.take a2.length a2) 0)) &&
                                          ((estV (List.take a0.length a0) (List.take a2.length a2)).snd.snd ==
                                              mid
                                                (List.take
                                                  ([] ++
                                                      zipK fT (List.take a0.length a0) (List.take a2.length a2)
                                                        0).length
                                                  (zipK fT (List.take a0.length a0) (List.take a2.length a2) 0)) &&
                                            true)) then
                                    some
                                      (PV.sc
                                          (Value.bool
                                            (ofE (estV (List.take a0.length a0) (List.take a2.length a2)) == 0)),
                                        [Blk.row false
                                            ((Kd.int IntKind.i64).pair
                                              ((Kd.int IntKind.i64).pair
                                                ((Kd.int IntKind.i64).pair
                                                  ((Kd.int IntKind.i64).pair
                                                    ((Kd.int IntKind.i64).pair (Kd.int IntKind.i64))))))
                                            a0,
                                          Blk.row false
                                            ((Kd.int IntKind.i64).pair
                                              ((Kd.int IntKind.i64).pair
                                                ((Kd.int IntKind.i64).pair
                                                  ((Kd.int IntKind.i64).pair
                                                    ((Kd.int IntKind.i64).pair (Kd.int IntKind.i64))))))
                                            a2])
                                  else
                                    some
                                      (PV.sc (Value.bool false),
                                        [Blk.row false
                                            ((Kd.int IntKind.i64).pair
                                              ((Kd.int IntKind.i64).pair
                                                ((Kd.int IntKind.i64).pair
                                                  ((Kd.int IntKind.i64).pair
                                                    ((Kd.int IntKind.i64).pair (Kd.int IntKind.i64))))))
                                            a0,
                                          Blk.row false
                                            ((Kd.int IntKind.i64).pair
                                              ((Kd.int IntKind.i64).pair
                                                ((Kd.int IntKind.i64).pair
                                                  ((Kd.int IntKind.i64).pair
                                                    ((Kd.int IntKind.i64).pair (Kd.int IntKind.i64))))))
                                            a2])
                                else
                                  some
                                    (PV.sc (Value.bool false),
                                      [Blk.row false
                                          ((Kd.int IntKind.i64).pair
                                            ((Kd.int IntKind.i64).pair
                                              ((Kd.int IntKind.i64).pair
                                                ((Kd.int IntKind.i64).pair
                                                  ((Kd.int IntKind.i64).pair (Kd.int IntKind.i64))))))
                                          a0,
                                        Blk.row false
                                          ((Kd.int IntKind.i64).pair
                                            ((Kd.int IntKind.i64).pair
                                              ((Kd.int IntKind.i64).pair
                                                ((Kd.int IntKind.i64).pair
                                                  ((Kd.int IntKind.i64).pair (Kd.int IntKind.i64))))))
                                          a2])))))
              else
                some
                  (PV.sc
                      (Value.bool
                        (lawZ (estV (List.take a0.length a0) (List.take a2.length a2))
                          (estE (List.take a0.length a0) (List.take a2.length a2)) 4)),
                    [Blk.row false
                        ((Kd.int IntKind.i64).pair
                          ((Kd.int IntKind.i64).pair
                            ((Kd.int IntKind.i64).pair
                              ((Kd.int IntKind.i64).pair ((Kd.int IntKind.i64).pair (Kd.int IntKind.i64))))))
                        a0,
                      Blk.row false
                        ((Kd.int IntKind.i64).pair
                          ((Kd.int IntKind.i64).pair
                            ((Kd.int IntKind.i64).pair
                              ((Kd.int IntKind.i64).pair ((Kd.int IntKind.i64).pair (Kd.int IntKind.i64))))))
                        a2])))
        else
          guardB
            (decide (0 + (0 + a0.length) ≤ (List.take a0.length a0).length) && decide (0 + a2.length ≤ a2.length) &&
                decide ((0 + a0.length + a2.length) * 48 ≤ 140737488355328) &&
              decide (0 + a0.length + a2.length ≤ 4611686018427387904))
            (guardB
              (bif
                  decide
                    (0 + (0 + a0.length + a2.length) ≤
                      (List.take (0 + a0.length) (List.take a0.length a0) ++ List.take a2.length a2).length) then
                preLa
                  (List.take (0 + a0.length + a2.length)
                    (List.take (0 + a0.length) (List.take a0.length a0) ++ List.take a2.length a2))
                  (↑(0 + a0.length + a2.length) : Int) 0
              else false)
              (bif
                  okP
                    (List.drop (Int.toNat 0)
                      (List.take (0 + a0.length + a2.length)
                        (List.take (0 + a0.length) (List.take a0.length a0) ++ List.take a2.length a2))) then
                bif (↑a0.length : Int) != (↑a2.length : Int) then
                  some
                    (PV.sc (Value.bool (estE (List.take a0.length a0) (List.take a2.length a2) == 3)),
                      [Blk.row false
                          ((Kd.int IntKind.i64).pair
                            ((Kd.int IntKind.i64).pair
                              ((Kd.int IntKind.i64).pair
                                ((Kd.int IntKind.i64).pair ((Kd.int IntKind.i64).pair (Kd.int IntKind.i64))))))
                          a0,
                        Blk.row false
                          ((Kd.int IntKind.i64).pair
                            ((Kd.int IntKind.i64).pair
                              ((Kd.int IntKind.i64).pair
                                ((Kd.int IntKind.i64).pair ((Kd.int IntKind.i64).pair (Kd.int IntKind.i64))))))
                          a2])
                else
                  bif (↑a0.length : Int) == 0 then
                    some
                      (PV.sc (Value.bool (estE (List.take a0.length a0) (List.take a2.length a2) == 8)),
                        [Blk.row false
                            ((Kd.int IntKind.i64).pair
                              ((Kd.int IntKind.i64).pair
                                ((Kd.int IntKind.i64).pair
                                  ((Kd.int IntKind.i64).pair ((Kd.int IntKind.i64).pair (Kd.int IntKind.i64))))))
                            a0,
                          Blk.row false
                            ((Kd.int IntKind.i64).pair
                              ((Kd.int IntKind.i64).pair
                                ((Kd.int IntKind.i64).pair
                                  ((Kd.int IntKind.i64).pair ((Kd.int IntKind.i64).pair (Kd.int IntKind.i64))))))
                            a2])
                  else
                    guardB
                      (bif decide (0 + a0.length ≤ a0.length) then
                        bif decide (0 + a2.length ≤ a2.length) then
                          preZ (List.take a0.length a0) (List.take a2.length a2) [] [] [] (↑a0.length : Int) 0
                        else false
                      else false)
                      (guardB
                        (bif
                            decide
                              (0 + ([] ++ zipK fR (List.take a0.length a0) (List.take a2.length a2) 0).length ≤
                                (zipK fR (List.take a0.length a0) (List.take a2.length a2) 0).length) then
                          decide
                            (1 ≤
                                (List.take ([] ++ zipK fR (List.take a0.length a0) (List.take a2.length a2) 0).length
                                    (zipK fR (List.take a0.length a0) (List.take a2.length a2) 0)).length ∧
                              (List.take ([] ++ zipK fR (List.take a0.length a0) (List.take a2.length a2) 0).length
                                    (zipK fR (List.take a0.length a0) (List.take a2.length a2) 0)).length ≤
                                1000)
                        else false)
                        (guardB
                          (bif
                              decide
                                (0 + ([] ++ zipK fA (List.take a0.length a0) (List.take a2.length a2) 0).length ≤
                                  (zipK fA (List.take a0.length a0) (List.take a2.length a2) 0).length) then
                            decide
                              (1 ≤
                                  (List.take ([] ++ zipK fA (List.take a0.length a0) (List.take a2.length a2) 0).length
                                      (zipK fA (List.take a0.length a0) (List.take a2.length a2) 0)).length ∧
                                (List.take ([] ++ zipK fA (List.take a0.length a0) (List.take a2.length a2) 0).length
                                      (zipK fA (List.take a0.length a0) (List.take a2.length a2) 0)).length ≤
                                  1000)
                          else false)
                          (guardB
                            (bif
                                decide
                                  (0 + ([] ++ zipK fT (List.take a0.length a0) (List.take a2.length a2) 0).length ≤
                                    (zipK fT (List.take a0.length a0) (List.take a2.length a2) 0).length) then
                              decide
                                (1 ≤
                                    (List.take
                                        ([] ++ zipK fT (List.take a0.length a0) (List.take a2.length a2) 0).length
                                        (zipK fT (List.take a0.length a0) (List.take a2.length a2) 0)).length ∧
                                  (List.take ([] ++ zipK fT (List.take a0.length a0) (List.take a2.length a2) 0).length
                                        (zipK fT (List.take a0.length a0) (List.take a2.length a2) 0)).length ≤
                                    1000)
                            else false)
                            (bif
                                !inS
                                    (mid
                                      (List.take
                                        ([] ++ zipK fR (List.take a0.length a0) (List.take a2.length a2) 0).length
                                        (zipK fR (List.take a0.length a0) (List.take a2.length a2) 0)))
                                    (-10000) 10000 then
                              bif estE (List.take a0.length a0) (List.take a2.length a2) == 4 then
                                some
                                  (PV.sc
                                      (Value.bool
                                        ((estV (List.take a0.length a0) (List.take a2.length a2)).fst == 0 &&
                                          ((estV (List.take a0.length a0) (List.take a2.length a2)).snd.fst == 0 &&
                                            ((estV (List.take a0.length a0) (List.take a2.length a2)).snd.snd == 0 &&
                                              true)))),
                                    [Blk.row false
                                        ((Kd.int IntKind.i64).pair
                                          ((Kd.int IntKind.i64).pair
                                            ((Kd.int IntKind.i64).pair
                                              ((Kd.int IntKind.i64).pair
                                                ((Kd.int IntKind.i64).pair (Kd.int IntKind.i64))))))
                                        a0,
                                      Blk.row false
                                        ((Kd.int IntKind.i64).pair
                                          ((Kd.int IntKind.i64).pair
                                            ((Kd.int IntKind.i64).pair
                                              ((Kd.int IntKind.i64).pair
                                                ((Kd.int IntKind.i64).pair (Kd.int IntKind.i64))))))
                                        a2])
                              else
                                some
                                  (PV.sc (Value.bool false),
                                    [Blk.row false
                                        ((Kd.int IntKind.i64).pair
                                          ((Kd.int IntKind.i64).pair
                                            ((Kd.int IntKind.i64).pair
                                              ((Kd.int IntKind.i64).pair
                                                ((Kd.int IntKind.i64).pair (Kd.int IntKind.i64))))))
                                        a0,
                                      Blk.row false
                                        ((Kd.int IntKind.i64).pair
                                          ((Kd.int IntKind.i64).pair
                                            ((Kd.int IntKind.i64).pair
                                              ((Kd.int IntKind.i64).pair
                                                ((Kd.int IntKind.i64).pair (Kd.int IntKind.i64))))))
                                        a2])
                            else
                              bif
                                  !inS
                                      (mid
                                        (List.take
                                          ([] ++ zipK fT (List.take a0.length a0) (List.take a2.length a2) 0).length
                                          (zipK fT (List.take a0.length a0) (List.take a2.length a2) 0)))
                                      (-1000) 1000 then
                                bif estE (List.take a0.length a0) (List.take a2.length a2) == 4 then
                                  some
                                    (PV.sc
                                        (Value.bool
                                          ((estV (List.take a0.length a0) (List.take a2.length a2)).fst == 0 &&
                                            ((estV (List.take a0.length a0) (List.take a2.length a2)).snd.fst == 0 &&
                                              ((estV (List.take a0.length a0) (List.take a2.length a2)).snd.snd == 0 &&
                                                true)))),
                                      [Blk.row false
                                          ((Kd.int IntKind.i64).pair
                                            ((Kd.int IntKind.i64).pair
                                              ((Kd.int IntKind.i64).pair
                                                ((Kd.int IntKind.i64).pair
                                                  ((Kd.int IntKind.i64).pair (Kd.int IntKind.i64))))))
                                          a0,
                                        Blk.row false
                                          ((Kd.int IntKind.i64).pair
                                            ((Kd.int IntKind.i64).pair
                                              ((Kd.int IntKind.i64).pair
                                                ((Kd.int IntKind.i64).pair
                                                  ((Kd.int IntKind.i64).pair (Kd.int IntKind.i64))))))
                                          a2])
                                else
                                  some
                                    (PV.sc (Value.bool false),
                                      [Blk.row false
                                          ((Kd.int IntKind.i64).pair
                                            ((Kd.int IntKind.i64).pair
                                              ((Kd.int IntKind.i64).pair
                                                ((Kd.int IntKind.i64).pair
                                                  ((Kd.int IntKind.i64).pair (Kd.int IntKind.i64))))))
                                          a0,
                                        Blk.row false
                                          ((Kd.int IntKind.i64).pair
                                            ((Kd.int IntKind.i64).pair
                                              ((Kd.int IntKind.i64).pair
                                                ((Kd.int IntKind.i64).pair
                                                  ((Kd.int IntKind.i64).pair (Kd.int IntKind.i64))))))
                                          a2])
                              else
                                bif estE (List.take a0.length a0) (List.take a2.length a2) == 0 then
                                  bif
                                      (estV (List.take a0.length a0) (List.take a2.length a2)).fst ==
                                          mid
                                            (List.take
                                              ([] ++ zipK fR (List.take a0.length a0) (List.take a2.length a2) 0).length
                                              (zipK fR (List.take a0.length a0) (List.take a2.length a2) 0)) &&
                                        ((estV (List.take a0.length a0) (List.take a2.length a2)).snd.fst ==
                                            mid
                                              (List.take
                                                ([] ++
                                                    zipK fA (List.take a0.length a0) (List.take a2.length a2) 0).length
                                                (zipK fA (List.take a0.length a0) (List.take a2.length a2) 0)) &&
                                          ((estV (List.take a0.length a0) (List.take a2.length a2)).snd.snd ==
                                              mid
                                                (List.take
                                                  ([] ++
                                                      zipK fT (List.take a0.length a0) (List.take a2.length a2)
                                                        0).length
                                                  (zipK fT (List.take a0.length a0) (List.take a2.length a2) 0)) &&
                                            true)) then
                                    some
                                      (PV.sc
                                          (Value.bool
                                            (ofE (estV (List.take a0.length a0) (List.take a2.length a2)) == 0)),
                                        [Blk.row false
                                            ((Kd.int IntKind.i64).pair
                                              ((Kd.int IntKind.i64).pair
                                                ((Kd.int IntKind.i64).pair
                                                  ((Kd.int IntKind.i64).pair
                                                    ((Kd.int IntKind.i64).pair (Kd.int IntKind.i64))))))
                                            a0,
                                          Blk.row false
                                            ((Kd.int IntKind.i64).pair
                                              ((Kd.int IntKind.i64).pair
                                                ((Kd.int IntKind.i64).pair
                                                  ((Kd.int IntKind.i64).pair
                                                    ((Kd.int IntKind.i64).pair (Kd.int IntKind.i64))))))
                                            a2])
                                  else
                                    some
                                      (PV.sc (Value.bool false),
                                        [Blk.row false
                                            ((Kd.int IntKind.i64).pair
                                              ((Kd.int IntKind.i64).pair
                                                ((Kd.int IntKind.i64).pair
                                                  ((Kd.int IntKind.i64).pair
                                                    ((Kd.int IntKind.i64).pair (Kd.int IntKind.i64))))))
                                            a0,
                                          Blk.row false
                                            ((Kd.int IntKind.i64).pair
                                              ((Kd.int IntKind.i64).pair
                                                ((Kd.int IntKind.i64).pair
                                                  ((Kd.int IntKind.i64).pair
                                                    ((Kd.int IntKind.i64).pair (Kd.int IntKind.i64))))))
                                            a2])
                                else
                                  some
                                    (PV.sc (Value.bool false),
                                      [Blk.row false
                                          ((Kd.int IntKind.i64).pair
                                            ((Kd.int IntKind.i64).pair
                                              ((Kd.int IntKind.i64).pair
                                                ((Kd.int IntKind.i64).pair
                                                  ((Kd.int IntKind.i64).pair (Kd.int IntKind.i64))))))
                                          a0,
                                        Blk.row false
                                          ((Kd.int IntKind.i64).pair
                                            ((Kd.int IntKind.i64).pair
                                              ((Kd.int IntKind.i64).pair
                                                ((Kd.int IntKind.i64).pair
                                                  ((Kd.int IntKind.i64).pair (Kd.int IntKind.i64))))))
                                          a2])))))
              else
                some
                  (PV.sc
                      (Value.bool
                        (lawZ (estV (List.take a0.length a0) (List.take a2.length a2))
                          (estE (List.take a0.length a0) (List.take a2.length a2)) 4)),
                    [Blk.row false
                        ((Kd.int IntKind.i64).pair
                          ((Kd.int IntKind.i64).pair
                            ((Kd.int IntKind.i64).pair
                              ((Kd.int IntKind.i64).pair ((Kd.int IntKind.i64).pair (Kd.int IntKind.i64))))))
                        a0,
                      Blk.row false
                        ((Kd.int IntKind.i64).pair
                          ((Kd.int IntKind.i64).pair
                            ((Kd.int IntKind.i64).pair
                              ((Kd.int IntKind.i64).pair ((Kd.int IntKind.i64).pair (Kd.int IntKind.i64))))))
                        a2])))))) := by kernel_rfl
theorem isZ_at (o : Of) : (o.1 == 0 && (o.2.1 == 0 && (o.2.2 == 0 && true))) = isZ o := by
  unfold isZ
  rw [Bool.and_true]; rfl
theorem lawZ_at (o : Of) (e : Int) {α : Type} (f : Bool → α) : (bif e == 4 then f (o.1 == 0 && (o.2.1 == 0 && (o.2.2 == 0 && true))) else f false) = f (lawZ o e 4) := by
  rw [isZ_at]
  unfold lawZ
  rw [show (e == 4) = decide (e = 4) from rfl]
  cases decide (e = 4) <;> rfl
abbrev BA (o : Of) (l : List Pl) : List Blk := [.fix false (pvOf o), .row false kPl l]
theorem q11a (o : Of) (e : Int) (l : List Pl) (nl : Bool) (n k : Int) (h : preLa l n k = true) :
    b11aL o e l nl n k = cond (okP (l.drop k.toNat)) (some (.exit 0, [.undef], BA o l)) (some (.ret, [.sc (.bool (lawZ o e 4))], BA o l)) := by
  obtain ⟨h1, h2, h3, h4⟩ := of_decide_eq_true h
  rw [b11a]
  simp only [List.take_length, Nat.zero_add, len_true, cond_true]
  refine cond_split (fun hk => ?_) (fun hk => ?_)
  · have hk := of_decide_eq_true hk
    obtain ⟨x, hx⟩ := get_ex (l := l) (k := k.toNat) (by omega)
    have hw : IntKind.i64.wrap (k + 1) = k + 1 := W_id _ (by omega) (by omega)
    rw [hx, hw, drop_cons hx, ok_cons]
    refine guard_split (by simp; omega) ?_
    simp only [bindO]
    refine cond_split (fun hc => ?_) (fun hc => ?_)
    · have hc : plE x ≠ 0 := by simpa using hc
      rw [decide_eq_false hc]
      exact lawZ_at o e (fun b => some (Xt.ret, [PV.sc (.bool b)], BA o l))
    have hc : plE x = 0 := by simpa using hc
    rw [decide_eq_true hc, Bool.true_and, show k.toNat + 1 = (k + 1).toNat by omega]
    refine guard_split (decide_eq_true ?_) (guard_split (decide_eq_true ⟨h1, h2, by omega, by omega⟩) rfl)
    show (n - (k + 1)).toNat < (n - k).toNat
    omega
  · have hk := of_decide_eq_false hk
    rw [List.drop_eq_nil_of_le (by omega)]; rfl
theorem q11c (a : List Pl) (al : Bool) (b : List Pl) (bl : Bool) (x : List Int) (xl : Bool) (y : List Int) (yl : Bool) (z : List Int) (zl : Bool) (n k : Int) (h : preZ a b x y z n k = true) :
    b11cL a al b bl x xl y yl z zl n k = some (.exit 2, [slI 5 (x ++ zipK fR a b k) (xl && decide (n ≤ k)), slI 6 (y ++ zipK fA a b k) (yl && decide (n ≤ k)), slI 7 (z ++ zipK fT a b k) (zl && decide (n ≤ k))], [.row false kPl a, .row false kPl b, .dead, .dead, .dead, .row true I (x ++ zipK fR a b k), .row true I (y ++ zipK fA a b k), .row true I (z ++ zipK fT a b k)]) := by
  obtain ⟨h1, h2, h3, h4, h5, h6, h7, h8, h9, h10⟩ := bp_true.1 h
  rw [b11c]
  simp only [List.take_length, Nat.zero_add, len_true, len_same, cond_true]
  refine cond_split (fun hk => ?_) (fun hk => ?_)
  · have hk := of_decide_eq_true hk
    obtain ⟨q, hq⟩ := get_ex (l := b) (k := k.toNat) (by omega)
    obtain ⟨p, hp⟩ := get_ex (l := a) (k := k.toNat) (by omega)
    have hw : IntKind.i64.wrap (k + 1) = k + 1 := W_id _ (by omega) (by omega)
    have z1 := az_of h2 hp
    have z2 := az_of h3 hq
    have haz : preAz p.2.2.2.1 q.2.2.2.1 = true := decide_eq_true ⟨z1.1, z1.2, z2.1, z2.2⟩
    rw [hp, hq, hw, zip_step h6 hp hq, zip_step h6 hp hq, zip_step h6 hp hq, decide_eq_false (show ¬ n ≤ k by omega)]
    have ga : (decide (0 ≤ k) && decide (k < (a.length : Int))) = true := by simp; omega
    have gb : (decide (0 ≤ k) && decide (k < (b.length : Int))) = true := by simp; omega
    have gl : ∀ (w : List Int), w.length ≤ k → (true && true && decide ((w.length + 1) * 8 ≤ 140737488355328) && decide (w.length + 1 ≤ 4611686018427387904)) = true := fun w hw => by simp; omega
    have ls : ∀ (w : List Int) (i : Int), decide (w.length + 1 = (w ++ [i]).length) = true := fun w i => decide_eq_true (by simp)
    rw [ga, gb, gl x h8, gl y h9, gl z h10]
    simp only [bindO]
    rw [ls, ls, ls]
    refine guard_split rfl (guard_split rfl (guard_split rfl (guard_split rfl (guard_split rfl (guard_split haz (guard_split rfl (guard_split rfl (guard_split rfl (guard_split rfl (guard_split (decide_eq_true ?_) (guard_split (bp_mk ⟨h1, h2, h3, h4, h5, by omega, by omega, ?_, ?_, ?_⟩) ?_)))))))))))
    · show (n - (k + 1)).toNat < (n - k).toNat
      omega
    · rw [List.length_append]; simp; omega
    · rw [List.length_append]; simp; omega
    · rw [List.length_append]; simp; omega
    · simp only [Bool.and_false, List.append_assoc, List.singleton_append]; rfl
  · have hk := of_decide_eq_false hk
    rw [zip_end (by omega), zip_end (by omega), zip_end (by omega), decide_eq_true (show n ≤ k by omega)]
    simp only [List.append_nil, Bool.and_true]
/-! ### Putting it together -/
theorem est_short {A B : List Pl} (hA : A.length ≤ 40) (hB : B.length ≤ 40) : estE A B = bif !(okP A && okP B) then 4 else bif decide (A.length ≠ B.length) then 3 else bif decide (B.length = 0) then 8 else ofE (est A B) := by
  unfold estE; rw [decide_eq_false (show ¬ 256 < A.length by omega), decide_eq_false (show ¬ 256 < B.length by omega)]; rfl
theorem ok_app (A B : List Pl) : okP (A ++ B) = (okP A && okP B) := by unfold okP; exact List.all_append
theorem bad_ok {A B : List Pl} (hA : A.length ≤ 40) (hB : B.length ≤ 40) (h : okP (A ++ B) = false) : lawZ (estV A B) (estE A B) 4 = true := by
  have h : (okP A && okP B) = false := by rw [← ok_app]; exact h
  have e : estE A B = 4 := by rw [est_short hA hB, h]; rfl
  unfold estV; rw [e]; rfl
theorem ok_two {A B : List Pl} (h : okP (A ++ B) = true) : okP A = true ∧ okP B = true := by
  have h : (okP A && okP B) = true := by rw [← ok_app]; exact h
  simpa using h
theorem est3 {A B : List Pl} (hA : A.length ≤ 40) (hB : B.length ≤ 40) (h : okP (A ++ B) = true) (hl : A.length ≠ B.length) : (estE A B == 3) = true := by
  rw [est_short hA hB, (ok_two h).1, (ok_two h).2, decide_eq_true hl]; rfl
theorem est8 {A B : List Pl} (hA : A.length ≤ 40) (hB : B.length ≤ 40) (h : okP (A ++ B) = true) (hl : A.length = B.length) (h0 : A.length = 0) : (estE A B == 8) = true := by
  rw [est_short hA hB, (ok_two h).1, (ok_two h).2, decide_eq_false (show ¬ A.length ≠ B.length by omega), decide_eq_true (show B.length = 0 by omega)]; rfl
noncomputable abbrev tailF (A B : List Pl) (Z : List Blk) (n : Int) : Option (PV × List Blk) :=
  guardB (preZ A B [] [] [] n 0) (guardB (decide (1 ≤ (zipK fR A B 0).length ∧ (zipK fR A B 0).length ≤ 1000)) (guardB (decide (1 ≤ (zipK fA A B 0).length ∧ (zipK fA A B 0).length ≤ 1000)) (guardB (decide (1 ≤ (zipK fT A B 0).length ∧ (zipK fT A B 0).length ≤ 1000))
    (bif !inS (mid (zipK fR A B 0)) (-10000) 10000 then (bif estE A B == 4 then some (.sc (.bool ((estV A B).1 == 0 && ((estV A B).2.1 == 0 && ((estV A B).2.2 == 0 && true)))), Z) else some (.sc (.bool false), Z))
     else bif !inS (mid (zipK fT A B 0)) (-1000) 1000 then (bif estE A B == 4 then some (.sc (.bool ((estV A B).1 == 0 && ((estV A B).2.1 == 0 && ((estV A B).2.2 == 0 && true)))), Z) else some (.sc (.bool false), Z))
     else bif estE A B == 0 then (bif (estV A B).1 == mid (zipK fR A B 0) && ((estV A B).2.1 == mid (zipK fA A B 0) && ((estV A B).2.2 == mid (zipK fT A B 0) && true)) then some (.sc (.bool (ofE (estV A B) == 0)), Z) else some (.sc (.bool false), Z)) else some (.sc (.bool false), Z)))))
theorem mem_mid {l : List Int} (h : 1 ≤ l.length) : mid l ∈ l := (List.mergeSort_perm l _).mem_iff.1 (List.mem_of_getElem? (srt_mid h))
theorem zipA_rng : ∀ (a b : List Pl) (x : Int), x ∈ List.zipWith fA a b → -2047 ≤ x ∧ x ≤ 2048
  | [], _, x, h => by rw [List.zipWith_nil_left] at h; cases h
  | p :: r, [], x, h => by rw [List.zipWith_nil_right] at h; cases h
  | p :: r, q :: t, x, h => by
    rw [List.zipWith_cons_cons] at h
    rcases List.mem_cons.1 h with rfl | h
    · exact ⟨(diff_rng _ _).1, (diff_rng _ _).2.1⟩
    · exact zipA_rng r t x h
theorem az_mid {A B : List Pl} (hl : A.length = B.length) (h0 : A.length ≠ 0) : -2047 ≤ mid (zipK fA A B 0) ∧ mid (zipK fA A B 0) ≤ 2048 := by
  have hm := mem_mid (l := zipK fA A B 0) (by rw [zip_len hl]; omega)
  exact zipA_rng _ _ _ hm
theorem tail_ok {A B : List Pl} (hA : A.length ≤ 40) (hB : B.length ≤ 40) (h : okP (A ++ B) = true) (hl : A.length = B.length) (h0 : A.length ≠ 0) {n : Int} (hn : n = A.length) (Z : List Blk) : tailF A B Z n = some (.sc (.bool true), Z) := by
  have hr : ∀ f, decide (1 ≤ (zipK f A B 0).length ∧ (zipK f A B 0).length ≤ 1000) = true := fun f => decide_eq_true (by rw [zip_len hl]; omega)
  refine guard_split (bp_mk ⟨hl, (ok_two h).1, (ok_two h).2, by omega, by omega, by omega, by omega, by simp, by simp, by simp⟩) (guard_split (hr _) (guard_split (hr _) (guard_split (hr _) ?_)))
  have e : estE A B = ofE (est A B) := by rw [est_short hA hB, (ok_two h).1, (ok_two h).2, decide_eq_false (show ¬ A.length ≠ B.length by omega), decide_eq_false (show ¬ B.length = 0 by omega)]; rfl
  have haz := az_mid hl h0
  have hin : ofE (est A B) = bif inS (mid (zipK fR A B 0)) (-10000) 10000 && inS (mid (zipK fT A B 0)) (-1000) 1000 then 0 else 4 := by
    unfold ofE ofX inS
    congr 1
    show decide (ofN (mid (zipK fR A B 0)) (mid (zipK fA A B 0)) (mid (zipK fT A B 0))) = _
    rw [← Bool.decide_and]
    exact decide_eq_decide.mpr ⟨fun g => ⟨⟨g.1, g.2.1⟩, g.2.2.2.2.1, g.2.2.2.2.2⟩, fun g => ⟨g.1.1, g.1.2, haz.1, haz.2, g.2.1, g.2.2⟩⟩
  have hz : ofE (est A B) = 4 → ∀ f : Bool → Option (PV × List Blk), (bif estE A B == 4 then f ((estV A B).1 == 0 && ((estV A B).2.1 == 0 && ((estV A B).2.2 == 0 && true))) else f false) = f true := fun g f => by
    rw [lawZ_at (estV A B) (estE A B) f]
    unfold lawZ estV
    rw [e, g]; rfl
  cases c1 : inS (mid (zipK fR A B 0)) (-10000) 10000 with
  | false =>
    rw [c1] at hin
    exact hz hin (fun b => some (.sc (.bool b), Z))
  | true =>
    cases c2 : inS (mid (zipK fT A B 0)) (-1000) 1000 with
    | false =>
      rw [c1, c2] at hin
      exact hz hin (fun b => some (.sc (.bool b), Z))
    | true =>
      rw [c1, c2] at hin
      have hin : ofE (est A B) = 0 := hin
      have hv : estV A B = est A B := by unfold estV; rw [e, hin]; rfl
      rw [e, hv, hin]
      have : ((est A B).1 == mid (zipK fR A B 0) && ((est A B).2.1 == mid (zipK fA A B 0) && ((est A B).2.2 == mid (zipK fT A B 0) && true))) = true := by
        unfold est; simp
      rw [this]; rfl
theorem q11 (a : List Pl) (al : Bool) (b : List Pl) (bl : Bool) : b11L a al b bl = some (.sc (.bool true), [.row false kPl a, .row false kPl b]) := by
  rw [b11]
  simp only [List.take_length, Nat.zero_add, len_true, cond_true, List.nil_append]
  refine cond_split (fun ha => ?_) (fun ha => ?_)
  · have ha : (a.length : Int) > 40 := of_decide_eq_true ha
    rw [decide_eq_true (show 40 ≤ (a.length : Int) by omega), decide_eq_true (show 40 ≤ a.length by omega)]
    have hAl : (List.take 40 a).length = 40 := by rw [List.length_take]; omega
    generalize List.take 40 a = A at hAl ⊢
    refine guard_split rfl ?_
    refine cond_split (fun hb => ?_) (fun hb => ?_)
    · have hb : (b.length : Int) > 40 := of_decide_eq_true hb
      rw [decide_eq_true (show 40 ≤ (b.length : Int) by omega), decide_eq_true (show 40 ≤ b.length by omega)]
      have hBl : (List.take 40 b).length = 40 := by rw [List.length_take]; omega
      generalize List.take 40 b = B at hBl ⊢
      have t1 : List.take 40 A = A := List.take_of_length_le (by omega)
      have t2 : List.take 80 (A ++ B) = A ++ B := List.take_of_length_le (by rw [List.length_append]; omega)
      rw [t1, t2]
      have hAB : (A ++ B).length = 80 := by rw [List.length_append]; omega
      rw [hAB, hAl, show (A ++ B).drop (Int.toNat 0) = A ++ B from rfl]
      refine guard_split rfl (guard_split rfl (guard_split rfl (guard_split rfl (guard_split (decide_eq_true ⟨by omega, by omega, by omega, by omega⟩) ?_))))
      refine cond_split (fun ho => ?_) (fun ho => by rw [bad_ok (by omega) (by omega) ho])
      exact tail_ok (by omega) (by omega) ho (by omega) (by omega) (by omega) _
    · have hb : ¬ (b.length : Int) > 40 := of_decide_eq_false hb
      have t1 : List.take 40 A = A := List.take_of_length_le (by omega)
      have hAB : (A ++ b).length = 40 + b.length := by rw [List.length_append]; omega
      have t2 : List.take (40 + b.length) (A ++ b) = A ++ b := List.take_of_length_le (by omega)
      rw [t1, t2, hAB, hAl, show (A ++ b).drop (Int.toNat 0) = A ++ b from rfl, decide_eq_true (Nat.le_refl (40 + b.length))]
      refine guard_split rfl (guard_split rfl (guard_split (by simp; omega) (guard_split (decide_eq_true ⟨by omega, by omega, by omega, by omega⟩) ?_)))
      refine cond_split (fun ho => ?_) (fun ho => by rw [bad_ok (by omega) (by omega) ho])
      refine cond_split (fun hl => ?_) (fun hl => ?_)
      · have hl : (40 : Int) ≠ b.length := by simpa using hl
        rw [est3 (by omega) (by omega) ho (by omega)]
      have hl : (40 : Int) = b.length := by simpa using hl
      exact tail_ok (by omega) (by omega) ho (by omega) (by omega) (by omega) _
  · have ha : ¬ (a.length : Int) > 40 := of_decide_eq_false ha
    refine cond_split (fun hb => ?_) (fun hb => ?_)
    · have hb : (b.length : Int) > 40 := of_decide_eq_true hb
      rw [decide_eq_true (show 40 ≤ (b.length : Int) by omega), decide_eq_true (show 40 ≤ b.length by omega)]
      have hBl : (List.take 40 b).length = 40 := by rw [List.length_take]; omega
      generalize List.take 40 b = B at hBl ⊢
      refine guard_split rfl (guard_split rfl (guard_split (by simp; omega) ?_))
      refine cond_split (fun h1 => ?_) (fun h1 => ?_)
      all_goals
        have hAB : (a ++ B).length = a.length + 40 := by rw [List.length_append]; omega
        have t2 : List.take (a.length + 40) (a ++ B) = a ++ B := List.take_of_length_le (by omega)
        rw [t2, hAB, show (a ++ B).drop (Int.toNat 0) = a ++ B from rfl, decide_eq_true (Nat.le_refl (a.length + 40))]
        refine guard_split (by simp; omega) (guard_split (decide_eq_true ⟨by omega, by omega, by omega, by omega⟩) ?_)
        refine cond_split (fun ho => ?_) (fun ho => by rw [bad_ok (by omega) (by omega) ho])
        refine cond_split (fun hl => ?_) (fun hl => ?_)
        · have hl : (a.length : Int) ≠ 40 := by simpa using hl
          rw [est3 (by omega) (by omega) ho (by omega)]
        have hl : (a.length : Int) = 40 := by simpa using hl
        refine cond_split (fun hz => ?_) (fun hz => ?_)
        · have hz : (a.length : Int) = 0 := by simpa using hz
          rw [est8 (by omega) (by omega) ho (by omega) (by omega)]
        have hz : (a.length : Int) ≠ 0 := by simpa using hz
        exact tail_ok (by omega) (by omega) ho (by omega) (by omega) rfl _
    · have hb : ¬ (b.length : Int) > 40 := of_decide_eq_false hb
      refine guard_split rfl (guard_split (by simp; omega) ?_)
      refine cond_split (fun h1 => ?_) (fun h1 => ?_)
      all_goals
        have hAB : (a ++ b).length = a.length + b.length := List.length_append
        have t2 : List.take (a.length + b.length) (a ++ b) = a ++ b := List.take_of_length_le (by omega)
        rw [t2, hAB, show (a ++ b).drop (Int.toNat 0) = a ++ b from rfl, decide_eq_true (Nat.le_refl (a.length + b.length))]
        refine guard_split (by simp; omega) (guard_split (decide_eq_true ⟨by omega, by omega, by omega, by omega⟩) ?_)
        refine cond_split (fun ho => ?_) (fun ho => by rw [bad_ok (by omega) (by omega) ho])
        refine cond_split (fun hl => ?_) (fun hl => ?_)
        · have hl : (a.length : Int) ≠ b.length := by simpa using hl
          rw [est3 (by omega) (by omega) ho (by omega)]
        have hl : (a.length : Int) = b.length := by simpa using hl
        refine cond_split (fun hz => ?_) (fun hz => ?_)
        · have hz : (a.length : Int) = 0 := by simpa using hz
          rw [est8 (by omega) (by omega) ho (by omega) (by omega)]
        have hz : (a.length : Int) ≠ 0 := by simpa using hz
        exact tail_ok (by omega) (by omega) ho (by omega) (by omega) rfl _
theorem in11a : CutOK Try.prog Try.f11.ntmps (codeAt 0 (bodyF Try.f11)) [7, 8, 51, 52, 53] [4] (entC kLa cLa) := loop_cutW (kill := killA 0 kLa) B3_ok mixed muLa (by kernel_rfl) (noCuts_ok _) fun v h => q11a v.1 v.2.1 v.2.2.1.1 v.2.2.1.2 v.2.2.2.1 v.2.2.2.2.1 h
theorem in11c : CutOK Try.prog Try.f11.ntmps (codeAt 2 (bodyF Try.f11)) [0, 1, 11, 12, 13, 81, 82] [11, 12, 13] (entC kLc cLc) := loop_cutW (kill := killA 0 kLc) B3_ok mixed muLc (by kernel_rfl) (noCuts_ok _) fun v h => q11c v.1.1 v.1.2 v.2.1.1 v.2.1.2 v.2.2.1.1 v.2.2.1.2 v.2.2.2.1.1 v.2.2.2.1.2 v.2.2.2.2.1.1 v.2.2.2.2.1.2 v.2.2.2.2.2.1 v.2.2.2.2.2.2.1 h
theorem lawOK (v : denA [(.s (.ro (Kd.pair (Kd.int .i64) (Kd.pair (Kd.int .i64) (Kd.pair (Kd.int .i64) (Kd.pair (Kd.int .i64) (Kd.pair (Kd.int .i64) (Kd.int .i64)))))))), (.s (.ro (Kd.pair (Kd.int .i64) (Kd.pair (Kd.int .i64) (Kd.pair (Kd.int .i64) (Kd.pair (Kd.int .i64) (Kd.pair (Kd.int .i64) (Kd.int .i64))))))))]) (h : (gSlice (k := (Kd.pair (Kd.int .i64) (Kd.pair (Kd.int .i64) (Kd.pair (Kd.int .i64) (Kd.pair (Kd.int .i64) (Kd.pair (Kd.int .i64) (Kd.int .i64))))))) 48 (both (gInt .i64) (both (gInt .i64) (both (gInt .i64) (both (gInt .i64) (both (gInt .i64) (gInt .i64))))))) v.1 ∧ (gSlice (k := (Kd.pair (Kd.int .i64) (Kd.pair (Kd.int .i64) (Kd.pair (Kd.int .i64) (Kd.pair (Kd.int .i64) (Kd.pair (Kd.int .i64) (Kd.int .i64))))))) 48 (both (gInt .i64) (both (gInt .i64) (both (gInt .i64) (both (gInt .i64) (both (gInt .i64) (gInt .i64))))))) v.2.1 ∧ True) : ∃ H', CallOK Try.prog 11 (showA 0 [(.s (.ro (Kd.pair (Kd.int .i64) (Kd.pair (Kd.int .i64) (Kd.pair (Kd.int .i64) (Kd.pair (Kd.int .i64) (Kd.pair (Kd.int .i64) (Kd.int .i64)))))))), (.s (.ro (Kd.pair (Kd.int .i64) (Kd.pair (Kd.int .i64) (Kd.pair (Kd.int .i64) (Kd.pair (Kd.int .i64) (Kd.pair (Kd.int .i64) (Kd.int .i64))))))))] v).1 (showA 0 [(.s (.ro (Kd.pair (Kd.int .i64) (Kd.pair (Kd.int .i64) (Kd.pair (Kd.int .i64) (Kd.pair (Kd.int .i64) (Kd.pair (Kd.int .i64) (Kd.int .i64)))))))), (.s (.ro (Kd.pair (Kd.int .i64) (Kd.pair (Kd.int .i64) (Kd.pair (Kd.int .i64) (Kd.pair (Kd.int .i64) (Kd.pair (Kd.int .i64) (Kd.int .i64))))))))] v).2 (.sc (.bool true)) H' := by
  exact ⟨_, evFuncV_sound B3_ok mixed Try.func11 (show Try.f11.body = some (bodyF Try.f11) from rfl) (cut_cons (by kernel_rfl) in11a (cut_cons (by kernel_rfl) in11c (noCuts_ok _))) (q11 v.1.1 v.1.2 v.2.1.1 v.2.1.2) (by rw [showA_len]; decide)⟩
end Go.Proofs.YtpndjpjpmcehbaaBi
