/- What is proved: the law MosaicSees answers true for all values. No condition. -/
import Derived.Test.YtpndjpjpmcehbaaTmo1
import Derived.Test.YtpndjpjpmcehbaaEvZd
namespace Go.Proofs.YtpndjpjpmcehbaaMo
open Go Go.Proofs Go.Proofs.YtpndjpjpmcehbaaEv Go.Proofs.YtpndjpjpmcehbaaTk
set_option maxRecDepth 100000
set_option linter.unusedSimpArgs false
set_option linter.unusedVariables false
noncomputable abbrev m12bL (a0 : List Int) (a1 : Bool) (a2 : Int) (a3 : YtpndjpjpmcehbaaMo.St) (a4 : List (Int × (Int × Int) × Int × Int × Int)) (a5 : Bool) (a6 : Int) (a7 : Int) := evRound Try.prog M8 noCuts 140 (loopOf (codeAt 2 (bodyF Try.f12))) kLb muLb (killA 0 kLb) [7, 8, 10, 67, 68, 69] [4] cLb ((a0, a1), (a2, (a3, ((a4, a5), (a6, (a7, ()))))))
theorem m12b (a0 : List Int) (a1 : Bool) (a2 : Int) (a3 : YtpndjpjpmcehbaaMo.St) (a4 : List (Int × (Int × Int) × Int × Int × Int)) (a5 : Bool) (a6 : Int) (a7 : Int) : m12bL a0 a1 a2 a3 a4 a5 a6 a7 = (bif decide (a7 < a6) then
  guardB (decide (0 ≤ a7) && decide (a7 < (↑a4.length : Int)))
    (bindO a4[0 + a7.toNat]? fun x =>
      bif a3.fst == x.fst then
        bif a2 == 7 then
          some
            (Xt.ret, [PV.sc (Value.bool ((↑a0.length : Int) == 0))],
              [Blk.row false (Kd.int IntKind.i64) a0,
                Blk.fix false
                  [PV.sc (Value.int IntKind.i64 a3.fst), PV.sc (Value.int IntKind.i64 a3.snd.fst.fst),
                    PV.sc (Value.int IntKind.i64 a3.snd.fst.snd), PV.sc (Value.int IntKind.i64 a3.snd.snd.fst),
                    PV.sc (Value.int IntKind.i64 a3.snd.snd.snd.fst), PV.sc (Value.int IntKind.i64 a3.snd.snd.snd.snd)],
                Blk.row false
                  ((Kd.int IntKind.i64).pair
                    (((Kd.int IntKind.i64).pair (Kd.int IntKind.i64)).pair
                      ((Kd.int IntKind.i64).pair ((Kd.int IntKind.i64).pair (Kd.int IntKind.i64)))))
                  a4])
        else
          some
            (Xt.ret, [PV.sc (Value.bool false)],
              [Blk.row false (Kd.int IntKind.i64) a0,
                Blk.fix false
                  [PV.sc (Value.int IntKind.i64 a3.fst), PV.sc (Value.int IntKind.i64 a3.snd.fst.fst),
                    PV.sc (Value.int IntKind.i64 a3.snd.fst.snd), PV.sc (Value.int IntKind.i64 a3.snd.snd.fst),
                    PV.sc (Value.int IntKind.i64 a3.snd.snd.snd.fst), PV.sc (Value.int IntKind.i64 a3.snd.snd.snd.snd)],
                Blk.row false
                  ((Kd.int IntKind.i64).pair
                    (((Kd.int IntKind.i64).pair (Kd.int IntKind.i64)).pair
                      ((Kd.int IntKind.i64).pair ((Kd.int IntKind.i64).pair (Kd.int IntKind.i64)))))
                  a4])
      else
        guardB
          (decide
            (muLb
                ((List.take a0.length a0, a1), a2, a3, (List.take a4.length a4, a5), a6, IntKind.i64.wrap (a7 + 1),
                  PUnit.unit) <
              muLb ((a0, a1), a2, a3, (a4, a5), a6, a7, ())))
          (guardB
            (bif decide (0 + a0.length ≤ a0.length) then
              bif decide (0 + a4.length ≤ a4.length) then preLb (List.take a4.length a4) a6 (IntKind.i64.wrap (a7 + 1))
              else false
            else false)
            (bif !(List.drop (IntKind.i64.wrap (a7 + 1)).toNat (List.take a4.length a4)).any (qS a3) then
              some
                (Xt.exit 2, [PV.undef],
                  [Blk.row false (Kd.int IntKind.i64) a0,
                    Blk.fix false
                      [PV.sc (Value.int IntKind.i64 a3.fst), PV.sc (Value.int IntKind.i64 a3.snd.fst.fst),
                        PV.sc (Value.int IntKind.i64 a3.snd.fst.snd), PV.sc (Value.int IntKind.i64 a3.snd.snd.fst),
                        PV.sc (Value.int IntKind.i64 a3.snd.snd.snd.fst),
                        PV.sc (Value.int IntKind.i64 a3.snd.snd.snd.snd)],
                    Blk.row false
                      ((Kd.int IntKind.i64).pair
                        (((Kd.int IntKind.i64).pair (Kd.int IntKind.i64)).pair
                          ((Kd.int IntKind.i64).pair ((Kd.int IntKind.i64).pair (Kd.int IntKind.i64)))))
                      a4])
            else
              some
                (Xt.ret, [PV.sc (Value.bool (lawR (List.take a0.length a0) a2 7))],
                  [Blk.row false (Kd.int IntKind.i64) a0,
                    Blk.fix false
                      [PV.sc (Value.int IntKind.i64 a3.fst), PV.sc (Value.int IntKind.i64 a3.snd.fst.fst),
                        PV.sc (Value.int IntKind.i64 a3.snd.fst.snd), PV.sc (Value.int IntKind.i64 a3.snd.snd.fst),
                        PV.sc (Value.int IntKind.i64 a3.snd.snd.snd.fst),
                        PV.sc (Value.int IntKind.i64 a3.snd.snd.snd.snd)],
                    Blk.row false
                      ((Kd.int IntKind.i64).pair
                        (((Kd.int IntKind.i64).pair (Kd.int IntKind.i64)).pair
                          ((Kd.int IntKind.i64).pair ((Kd.int IntKind.i64).pair (Kd.int IntKind.i64)))))
                      a4]))))
else
  some
    (Xt.exit 2, [PV.undef],
      [Blk.row false (Kd.int IntKind.i64) a0,
        Blk.fix false
          [PV.sc (Value.int IntKind.i64 a3.fst), PV.sc (Value.int IntKind.i64 a3.snd.fst.fst),
            PV.sc (Value.int IntKind.i64 a3.snd.fst.snd), PV.sc (Value.int IntKind.i64 a3.snd.snd.fst),
            PV.sc (Value.int IntKind.i64 a3.snd.snd.snd.fst), PV.sc (Value.int IntKind.i64 a3.snd.snd.snd.snd)],
        Blk.row false
          ((Kd.int IntKind.i64).pair
            (((Kd.int IntKind.i64).pair (Kd.int IntKind.i64)).pair
              ((Kd.int IntKind.i64).pair ((Kd.int IntKind.i64).pair (Kd.int IntKind.i64)))))
          a4])) := by kernel_rfl
noncomputable abbrev m12aL (a0 : List (Int × (Int × Int) × Int × Int × Int)) (a1 : Bool) (a2 : List Int) (a3 : Bool) (a4 : Int) (a5 : List (Int × (Int × Int) × Int × Int × Int)) (a6 : Bool) (a7 : Int) (a8 : Int) := evRound Try.prog M8 (addCut 2 [7, 8, 10, 67, 68, 69] [4] (entC kLb cLb) noCuts) 140 (loopOf (codeAt 0 (bodyF Try.f12))) kLa muLa (killA 0 kLa) [0, 7, 8, 48, 49, 50] [4] cLa ((a0, a1), ((a2, a3), (a4, ((a5, a6), (a7, (a8, ()))))))
theorem m12a (a0 : List (Int × (Int × Int) × Int × Int × Int)) (a1 : Bool) (a2 : List Int) (a3 : Bool) (a4 : Int) (a5 : List (Int × (Int × Int) × Int × Int × Int)) (a6 : Bool) (a7 : Int) (a8 : Int) : m12aL a0 a1 a2 a3 a4 a5 a6 a7 a8 = (bif decide (a8 < a7) then
  guardB (decide (0 ≤ a8) && decide (a8 < (↑a5.length : Int)))
    (bindO a5[0 + a8.toNat]? fun x =>
      bif sE x != 0 then
        bif a4 == 4 then
          some
            (Xt.ret, [PV.sc (Value.bool ((↑a2.length : Int) == 0))],
              [Blk.row false
                  ((Kd.int IntKind.i64).pair
                    (((Kd.int IntKind.i64).pair (Kd.int IntKind.i64)).pair
                      ((Kd.int IntKind.i64).pair ((Kd.int IntKind.i64).pair (Kd.int IntKind.i64)))))
                  a0,
                Blk.row false (Kd.int IntKind.i64) a2,
                Blk.row false
                  ((Kd.int IntKind.i64).pair
                    (((Kd.int IntKind.i64).pair (Kd.int IntKind.i64)).pair
                      ((Kd.int IntKind.i64).pair ((Kd.int IntKind.i64).pair (Kd.int IntKind.i64)))))
                  a5])
        else
          some
            (Xt.ret, [PV.sc (Value.bool false)],
              [Blk.row false
                  ((Kd.int IntKind.i64).pair
                    (((Kd.int IntKind.i64).pair (Kd.int IntKind.i64)).pair
                      ((Kd.int IntKind.i64).pair ((Kd.int IntKind.i64).pair (Kd.int IntKind.i64)))))
                  a0,
                Blk.row false (Kd.int IntKind.i64) a2,
                Blk.row false
                  ((Kd.int IntKind.i64).pair
                    (((Kd.int IntKind.i64).pair (Kd.int IntKind.i64)).pair
                      ((Kd.int IntKind.i64).pair ((Kd.int IntKind.i64).pair (Kd.int IntKind.i64)))))
                  a5])
      else
        guardB (decide (0 ≤ a8) && decide (a8 ≤ (↑a0.length : Int)))
          (guardB
            (bif decide (0 + a2.length ≤ a2.length) then
              bif decide (0 + (a8.toNat - 0) ≤ a0.length) then
                preLb (List.take (a8.toNat - 0) a0) (↑(a8.toNat - 0) : Int) 0
              else false
            else false)
            (bif !(List.drop (Int.toNat 0) (List.take (a8.toNat - 0) a0)).any (qS x) then
              guardB
                (decide
                  (muLa
                      ((List.take a0.length a0, a1), (List.take a2.length a2, a3), a4, (List.take a5.length a5, a6), a7,
                        IntKind.i64.wrap (a8 + 1), PUnit.unit) <
                    muLa ((a0, a1), (a2, a3), a4, (a5, a6), a7, a8, ())))
                (guardB
                  (bif decide (0 + a0.length ≤ a0.length) then
                    bif decide (0 + a2.length ≤ a2.length) then
                      bif decide (0 + a5.length ≤ a5.length) then
                        pre100 (List.take a0.length a0) (List.take a5.length a5) a7 (IntKind.i64.wrap (a8 + 1))
                      else false
                    else false
                  else false)
                  (bif decide (mV (List.take a0.length a0) (IntKind.i64.wrap (a8 + 1)) = 0) then
                    some
                      (Xt.exit 0, [PV.undef],
                        [Blk.row false
                            ((Kd.int IntKind.i64).pair
                              (((Kd.int IntKind.i64).pair (Kd.int IntKind.i64)).pair
                                ((Kd.int IntKind.i64).pair ((Kd.int IntKind.i64).pair (Kd.int IntKind.i64)))))
                            a0,
                          Blk.row false (Kd.int IntKind.i64) a2,
                          Blk.row false
                            ((Kd.int IntKind.i64).pair
                              (((Kd.int IntKind.i64).pair (Kd.int IntKind.i64)).pair
                                ((Kd.int IntKind.i64).pair ((Kd.int IntKind.i64).pair (Kd.int IntKind.i64)))))
                            a5])
                  else
                    some
                      (Xt.ret,
                        [PV.sc
                            (Value.bool
                              (lawR (List.take a2.length a2) a4
                                (mV (List.take a0.length a0) (IntKind.i64.wrap (a8 + 1)))))],
                        [Blk.row false
                            ((Kd.int IntKind.i64).pair
                              (((Kd.int IntKind.i64).pair (Kd.int IntKind.i64)).pair
                                ((Kd.int IntKind.i64).pair ((Kd.int IntKind.i64).pair (Kd.int IntKind.i64)))))
                            a0,
                          Blk.row false (Kd.int IntKind.i64) a2,
                          Blk.row false
                            ((Kd.int IntKind.i64).pair
                              (((Kd.int IntKind.i64).pair (Kd.int IntKind.i64)).pair
                                ((Kd.int IntKind.i64).pair ((Kd.int IntKind.i64).pair (Kd.int IntKind.i64)))))
                            a5])))
            else
              some
                (Xt.ret, [PV.sc (Value.bool (lawR (List.take a2.length a2) a4 7))],
                  [Blk.row false
                      ((Kd.int IntKind.i64).pair
                        (((Kd.int IntKind.i64).pair (Kd.int IntKind.i64)).pair
                          ((Kd.int IntKind.i64).pair ((Kd.int IntKind.i64).pair (Kd.int IntKind.i64)))))
                      a0,
                    Blk.row false (Kd.int IntKind.i64) a2,
                    Blk.row false
                      ((Kd.int IntKind.i64).pair
                        (((Kd.int IntKind.i64).pair (Kd.int IntKind.i64)).pair
                          ((Kd.int IntKind.i64).pair ((Kd.int IntKind.i64).pair (Kd.int IntKind.i64)))))
                      a5]))))
else
  some
    (Xt.exit 0, [PV.undef],
      [Blk.row false
          ((Kd.int IntKind.i64).pair
            (((Kd.int IntKind.i64).pair (Kd.int IntKind.i64)).pair
              ((Kd.int IntKind.i64).pair ((Kd.int IntKind.i64).pair (Kd.int IntKind.i64)))))
          a0,
        Blk.row false (Kd.int IntKind.i64) a2,
        Blk.row false
          ((Kd.int IntKind.i64).pair
            (((Kd.int IntKind.i64).pair (Kd.int IntKind.i64)).pair
              ((Kd.int IntKind.i64).pair ((Kd.int IntKind.i64).pair (Kd.int IntKind.i64)))))
          a5])) := by kernel_rfl
noncomputable abbrev m12dL (a0 : Pt) (a1 : List Int) (a2 : Bool) (a3 : Int) (a4 : List (Int × (Int × Int) × Int × Int × Int)) (a5 : Bool) (a6 : Int) (a7 : Int) := evRound Try.prog M8 noCuts 140 (loopOf (codeAt 6 (bodyF Try.f12))) kLd muLd (killA 0 kLd) [3, 13, 14, 105, 106, 107] [13] cLd (a0, ((a1, a2), (a3, ((a4, a5), (a6, (a7, ()))))))
theorem m12d (a0 : Pt) (a1 : List Int) (a2 : Bool) (a3 : Int) (a4 : List (Int × (Int × Int) × Int × Int × Int)) (a5 : Bool) (a6 : Int) (a7 : Int) : m12dL a0 a1 a2 a3 a4 a5 a6 a7 = (bif decide (a7 < a6) then
  guardB (decide (0 ≤ a7) && decide (a7 < (↑a4.length : Int)))
    (bindO a4[0 + a7.toNat]? fun x =>
      bif x.fst == a3 then
        bif
            decide
              (far x.snd.fst.fst x.snd.fst.snd a0.fst a0.snd ≤ IntKind.i64.wrap (x.snd.snd.fst * x.snd.snd.fst)) then
          guardB
            (decide (0 + a1.length ≤ a1.length) && true && decide ((a1.length + 1) * 8 ≤ 140737488355328) &&
              decide (a1.length + 1 ≤ 4611686018427387904))
            (guardB
              (decide
                (muLd
                    (a0, (List.take a1.length a1 ++ [a3], false), a3, (List.take a4.length a4, a5), a6,
                      IntKind.i64.wrap (a7 + 1), PUnit.unit) <
                  muLd (a0, (a1, a2), a3, (a4, a5), a6, a7, ())))
              (guardB
                (bif decide (a1.length + 1 = (List.take a1.length a1 ++ [a3]).length) then
                  bif decide (0 + a4.length ≤ a4.length) then
                    preLd (List.take a1.length a1 ++ [a3]) (List.take a4.length a4) a6 (IntKind.i64.wrap (a7 + 1))
                  else false
                else false)
                (some
                  (Xt.exit 6,
                    [PV.sl 3 0 1
                        (List.take a1.length a1 ++ [a3] ++
                            wIn (List.take a4.length a4) a0 a3 (IntKind.i64.wrap (a7 + 1))).length
                        (List.take a1.length a1 ++ [a3] ++
                            wIn (List.take a4.length a4) a0 a3 (IntKind.i64.wrap (a7 + 1))).length
                        false false],
                    [Blk.fix false [PV.sc (Value.int IntKind.i64 a0.fst), PV.sc (Value.int IntKind.i64 a0.snd)],
                      Blk.dead,
                      Blk.row false
                        ((Kd.int IntKind.i64).pair
                          (((Kd.int IntKind.i64).pair (Kd.int IntKind.i64)).pair
                            ((Kd.int IntKind.i64).pair ((Kd.int IntKind.i64).pair (Kd.int IntKind.i64)))))
                        a4,
                      Blk.row true (Kd.int IntKind.i64)
                        (List.take a1.length a1 ++ [a3] ++
                          wIn (List.take a4.length a4) a0 a3 (IntKind.i64.wrap (a7 + 1)))]))))
        else
          guardB
            (decide
              (muLd (a0, (a1, a2), a3, (List.take a4.length a4, a5), a6, IntKind.i64.wrap (a7 + 1), PUnit.unit) <
                muLd (a0, (a1, a2), a3, (a4, a5), a6, a7, ())))
            (guardB
              (bif decide (a1.length = a1.length) then
                bif decide (0 + a4.length ≤ a4.length) then
                  preLd a1 (List.take a4.length a4) a6 (IntKind.i64.wrap (a7 + 1))
                else false
              else false)
              (some
                (Xt.exit 6,
                  [PV.sl 3 0 1 (a1 ++ wIn (List.take a4.length a4) a0 a3 (IntKind.i64.wrap (a7 + 1))).length
                      (a1 ++ wIn (List.take a4.length a4) a0 a3 (IntKind.i64.wrap (a7 + 1))).length false
                      (a2 && (wIn (List.take a4.length a4) a0 a3 (IntKind.i64.wrap (a7 + 1))).isEmpty)],
                  [Blk.fix false [PV.sc (Value.int IntKind.i64 a0.fst), PV.sc (Value.int IntKind.i64 a0.snd)], Blk.dead,
                    Blk.row false
                      ((Kd.int IntKind.i64).pair
                        (((Kd.int IntKind.i64).pair (Kd.int IntKind.i64)).pair
                          ((Kd.int IntKind.i64).pair ((Kd.int IntKind.i64).pair (Kd.int IntKind.i64)))))
                      a4,
                    Blk.row true (Kd.int IntKind.i64)
                      (a1 ++ wIn (List.take a4.length a4) a0 a3 (IntKind.i64.wrap (a7 + 1)))])))
      else
        guardB
          (decide
            (muLd (a0, (a1, a2), a3, (List.take a4.length a4, a5), a6, IntKind.i64.wrap (a7 + 1), PUnit.unit) <
              muLd (a0, (a1, a2), a3, (a4, a5), a6, a7, ())))
          (guardB
            (bif decide (a1.length = a1.length) then
              bif decide (0 + a4.length ≤ a4.length) then
                preLd a1 (List.take a4.length a4) a6 (IntKind.i64.wrap (a7 + 1))
              else false
            else false)
            (some
              (Xt.exit 6,
                [PV.sl 3 0 1 (a1 ++ wIn (List.take a4.length a4) a0 a3 (IntKind.i64.wrap (a7 + 1))).length
                    (a1 ++ wIn (List.take a4.length a4) a0 a3 (IntKind.i64.wrap (a7 + 1))).length false
                    (a2 && (wIn (List.take a4.length a4) a0 a3 (IntKind.i64.wrap (a7 + 1))).isEmpty)],
                [Blk.fix false [PV.sc (Value.int IntKind.i64 a0.fst), PV.sc (Value.int IntKind.i64 a0.snd)], Blk.dead,
                  Blk.row false
                    ((Kd.int IntKind.i64).pair
                      (((Kd.int IntKind.i64).pair (Kd.int IntKind.i64)).pair
                        ((Kd.int IntKind.i64).pair ((Kd.int IntKind.i64).pair (Kd.int IntKind.i64)))))
                    a4,
                  Blk.row true (Kd.int IntKind.i64)
                    (a1 ++ wIn (List.take a4.length a4) a0 a3 (IntKind.i64.wrap (a7 + 1)))]))))
else
  some
    (Xt.exit 6, [PV.sl 3 0 1 a1.length a1.length false a2],
      [Blk.fix false [PV.sc (Value.int IntKind.i64 a0.fst), PV.sc (Value.int IntKind.i64 a0.snd)], Blk.dead,
        Blk.row false
          ((Kd.int IntKind.i64).pair
            (((Kd.int IntKind.i64).pair (Kd.int IntKind.i64)).pair
              ((Kd.int IntKind.i64).pair ((Kd.int IntKind.i64).pair (Kd.int IntKind.i64)))))
          a4,
        Blk.row true (Kd.int IntKind.i64) a1])) := by kernel_rfl
noncomputable abbrev m12cL (a0 : List (Int × (Int × Int) × Int × Int × Int)) (a1 : Bool) (a2 : Pt) (a3 : List Int) (a4 : Bool) (a5 : Int) := evRound Try.prog M8 (addCut 6 [3, 13, 14, 105, 106, 107] [13] (entC kLd cLd) noCuts) 140 (loopOf (codeAt 4 (bodyF Try.f12))) kLc muLc (killA 0 kLc) [0, 3, 13, 102] [13] cLc ((a0, a1), (a2, ((a3, a4), (a5, ()))))
theorem m12c (a0 : List (Int × (Int × Int) × Int × Int × Int)) (a1 : Bool) (a2 : Pt) (a3 : List Int) (a4 : Bool) (a5 : Int) : m12cL a0 a1 a2 a3 a4 a5 = (bif decide (a5 < 256) then
  guardB
    (bif decide (a3.length = a3.length) then
      bif decide (0 + a0.length ≤ a0.length) then preLd a3 (List.take a0.length a0) (↑a0.length : Int) 0 else false
    else false)
    (guardB
      (decide
        (muLc
            ((List.take a0.length a0, a1), a2,
              (a3 ++ wIn (List.take a0.length a0) a2 a5 0, a4 && (wIn (List.take a0.length a0) a2 a5 0).isEmpty),
              IntKind.i64.wrap (a5 + 1), PUnit.unit) <
          muLc ((a0, a1), a2, (a3, a4), a5, ())))
      (guardB
        (bif decide (0 + a0.length ≤ a0.length) then
          bif
              decide
                ((a3 ++ wIn (List.take a0.length a0) a2 a5 0).length =
                  (a3 ++ wIn (List.take a0.length a0) a2 a5 0).length) then
            preLc (a3 ++ wIn (List.take a0.length a0) a2 a5 0) (List.take a0.length a0) (IntKind.i64.wrap (a5 + 1))
          else false
        else false)
        (some
          (Xt.exit 4,
            [PV.sl 3 0 1
                (a3 ++ wIn (List.take a0.length a0) a2 a5 0 ++
                    wantV (List.take a0.length a0) a2 (IntKind.i64.wrap (a5 + 1))).length
                (a3 ++ wIn (List.take a0.length a0) a2 a5 0 ++
                    wantV (List.take a0.length a0) a2 (IntKind.i64.wrap (a5 + 1))).length
                false
                (a4 && (wIn (List.take a0.length a0) a2 a5 0).isEmpty &&
                  (wantV (List.take a0.length a0) a2 (IntKind.i64.wrap (a5 + 1))).isEmpty)],
            [Blk.row false
                ((Kd.int IntKind.i64).pair
                  (((Kd.int IntKind.i64).pair (Kd.int IntKind.i64)).pair
                    ((Kd.int IntKind.i64).pair ((Kd.int IntKind.i64).pair (Kd.int IntKind.i64)))))
                a0,
              Blk.fix false [PV.sc (Value.int IntKind.i64 a2.fst), PV.sc (Value.int IntKind.i64 a2.snd)], Blk.dead,
              Blk.row true (Kd.int IntKind.i64)
                (a3 ++ wIn (List.take a0.length a0) a2 a5 0 ++
                  wantV (List.take a0.length a0) a2 (IntKind.i64.wrap (a5 + 1)))]))))
else
  some
    (Xt.exit 4, [PV.sl 3 0 1 a3.length a3.length false a4],
      [Blk.row false
          ((Kd.int IntKind.i64).pair
            (((Kd.int IntKind.i64).pair (Kd.int IntKind.i64)).pair
              ((Kd.int IntKind.i64).pair ((Kd.int IntKind.i64).pair (Kd.int IntKind.i64)))))
          a0,
        Blk.fix false [PV.sc (Value.int IntKind.i64 a2.fst), PV.sc (Value.int IntKind.i64 a2.snd)], Blk.dead,
        Blk.row true (Kd.int IntKind.i64) a3])) := by kernel_rfl
noncomputable abbrev m12L (a0 : List (Int × (Int × Int) × Int × Int × Int)) (a1 : Bool) (a2 : Pt) := evFuncV Try.prog M8 (addCut 0 [0, 7, 8, 48, 49, 50] [4] (entC kLa cLa) (addCut 4 [0, 3, 13, 102] [13] (entC kLc cLc) noCuts)) Try.f12 (killA 0 [rSt, sP]) (showA 0 [rSt, sP] ((a0, a1), (a2, ()))).1 (showA 0 [rSt, sP] ((a0, a1), (a2, ()))).2
theorem m12 (a0 : List (Int × (Int × Int) × Int × Int × Int)) (a1 : Bool) (a2 : Pt) : m12L a0 a1 a2 = (guardB (bif decide (0 + a0.length ≤ a0.length) then true else false)
  (bif decide (seeE (List.take a0.length a0) a2 = 0) then
    bif decide ((↑a0.length : Int) > 4) then
      some
        (PV.sc (Value.bool false),
          [Blk.row false
              ((Kd.int IntKind.i64).pair
                (((Kd.int IntKind.i64).pair (Kd.int IntKind.i64)).pair
                  ((Kd.int IntKind.i64).pair ((Kd.int IntKind.i64).pair (Kd.int IntKind.i64)))))
              a0])
    else
      guardB
        (bif decide (0 + a0.length ≤ a0.length) then
          bif decide (0 + (seeL (List.take a0.length a0) a2).length ≤ (seeL (List.take a0.length a0) a2).length) then
            bif decide (0 + a0.length ≤ a0.length) then
              pre100 (List.take a0.length a0) (List.take a0.length a0) (↑a0.length : Int) 0
            else false
          else false
        else false)
        (bif decide (mV (List.take a0.length a0) 0 = 0) then
          bif decide ((↑a0.length : Int) > 0) then
            bif !placedS a2.fst a2.snd then
              some
                (PV.sc (Value.bool false),
                  [Blk.row false
                      ((Kd.int IntKind.i64).pair
                        (((Kd.int IntKind.i64).pair (Kd.int IntKind.i64)).pair
                          ((Kd.int IntKind.i64).pair ((Kd.int IntKind.i64).pair (Kd.int IntKind.i64)))))
                      a0])
            else
              guardB (bif decide (0 + a0.length ≤ a0.length) then preLc [] (List.take a0.length a0) 0 else false)
                (guardB
                  (bif
                      decide
                        (0 + (seeL (List.take a0.length a0) a2).length ≤ (seeL (List.take a0.length a0) a2).length) then
                    bif
                        decide
                          (0 + ([] ++ wantV (List.take a0.length a0) a2 0).length ≤
                            (wantV (List.take a0.length a0) a2 0).length) then
                      decide
                        ((List.take (seeL (List.take a0.length a0) a2).length
                              (seeL (List.take a0.length a0) a2)).length ≤
                          1000)
                    else false
                  else false)
                  (some
                    (PV.sc
                        (Value.bool
                          (decide
                            (List.take (seeL (List.take a0.length a0) a2).length (seeL (List.take a0.length a0) a2) =
                              List.take ([] ++ wantV (List.take a0.length a0) a2 0).length
                                (wantV (List.take a0.length a0) a2 0)))),
                      [Blk.row false
                          ((Kd.int IntKind.i64).pair
                            (((Kd.int IntKind.i64).pair (Kd.int IntKind.i64)).pair
                              ((Kd.int IntKind.i64).pair ((Kd.int IntKind.i64).pair (Kd.int IntKind.i64)))))
                          a0])))
          else
            guardB (bif decide (0 + a0.length ≤ a0.length) then preLc [] (List.take a0.length a0) 0 else false)
              (guardB
                (bif
                    decide
                      (0 + (seeL (List.take a0.length a0) a2).length ≤ (seeL (List.take a0.length a0) a2).length) then
                  bif
                      decide
                        (0 + ([] ++ wantV (List.take a0.length a0) a2 0).length ≤
                          (wantV (List.take a0.length a0) a2 0).length) then
                    decide
                      ((List.take (seeL (List.take a0.length a0) a2).length (seeL (List.take a0.length a0) a2)).length ≤
                        1000)
                  else false
                else false)
                (some
                  (PV.sc
                      (Value.bool
                        (decide
                          (List.take (seeL (List.take a0.length a0) a2).length (seeL (List.take a0.length a0) a2) =
                            List.take ([] ++ wantV (List.take a0.length a0) a2 0).length
                              (wantV (List.take a0.length a0) a2 0)))),
                    [Blk.row false
                        ((Kd.int IntKind.i64).pair
                          (((Kd.int IntKind.i64).pair (Kd.int IntKind.i64)).pair
                            ((Kd.int IntKind.i64).pair ((Kd.int IntKind.i64).pair (Kd.int IntKind.i64)))))
                        a0])))
        else
          some
            (PV.sc
                (Value.bool
                  (lawR (List.take (seeL (List.take a0.length a0) a2).length (seeL (List.take a0.length a0) a2)) 0
                    (mV (List.take a0.length a0) 0))),
              [Blk.row false
                  ((Kd.int IntKind.i64).pair
                    (((Kd.int IntKind.i64).pair (Kd.int IntKind.i64)).pair
                      ((Kd.int IntKind.i64).pair ((Kd.int IntKind.i64).pair (Kd.int IntKind.i64)))))
                  a0]))
  else
    bif decide ((↑a0.length : Int) > 4) then
      some
        (PV.sc (Value.bool (seeE (List.take a0.length a0) a2 == 2)),
          [Blk.row false
              ((Kd.int IntKind.i64).pair
                (((Kd.int IntKind.i64).pair (Kd.int IntKind.i64)).pair
                  ((Kd.int IntKind.i64).pair ((Kd.int IntKind.i64).pair (Kd.int IntKind.i64)))))
              a0])
    else
      guardB
        (bif decide (0 + a0.length ≤ a0.length) then
          bif decide (0 + a0.length ≤ a0.length) then
            pre100 (List.take a0.length a0) (List.take a0.length a0) (↑a0.length : Int) 0
          else false
        else false)
        (bif decide (mV (List.take a0.length a0) 0 = 0) then
          bif decide ((↑a0.length : Int) > 0) then
            bif !placedS a2.fst a2.snd then
              bif seeE (List.take a0.length a0) a2 == 4 then
                some
                  (PV.sc (Value.bool true),
                    [Blk.row false
                        ((Kd.int IntKind.i64).pair
                          (((Kd.int IntKind.i64).pair (Kd.int IntKind.i64)).pair
                            ((Kd.int IntKind.i64).pair ((Kd.int IntKind.i64).pair (Kd.int IntKind.i64)))))
                        a0])
              else
                some
                  (PV.sc (Value.bool false),
                    [Blk.row false
                        ((Kd.int IntKind.i64).pair
                          (((Kd.int IntKind.i64).pair (Kd.int IntKind.i64)).pair
                            ((Kd.int IntKind.i64).pair ((Kd.int IntKind.i64).pair (Kd.int IntKind.i64)))))
                        a0])
            else
              guardB (bif decide (0 + a0.length ≤ a0.length) then preLc [] (List.take a0.length a0) 0 else false)
                (bif seeE (List.take a0.length a0) a2 == 0 then
                  guardB
                    (bif
                        decide
                          (0 + ([] ++ wantV (List.take a0.length a0) a2 0).length ≤
                            (wantV (List.take a0.length a0) a2 0).length) then
                      true
                    else false)
                    (some
                      (PV.sc
                          (Value.bool
                            (decide
                              ([] =
                                List.take ([] ++ wantV (List.take a0.length a0) a2 0).length
                                  (wantV (List.take a0.length a0) a2 0)))),
                        [Blk.row false
                            ((Kd.int IntKind.i64).pair
                              (((Kd.int IntKind.i64).pair (Kd.int IntKind.i64)).pair
                                ((Kd.int IntKind.i64).pair ((Kd.int IntKind.i64).pair (Kd.int IntKind.i64)))))
                            a0]))
                else
                  some
                    (PV.sc (Value.bool false),
                      [Blk.row false
                          ((Kd.int IntKind.i64).pair
                            (((Kd.int IntKind.i64).pair (Kd.int IntKind.i64)).pair
                              ((Kd.int IntKind.i64).pair ((Kd.int IntKind.i64).pair (Kd.int IntKind.i64)))))
                          a0]))
          else
            guardB (bif decide (0 + a0.length ≤ a0.length) then preLc [] (List.take a0.length a0) 0 else false)
              (bif seeE (List.take a0.length a0) a2 == 0 then
                guardB
                  (bif
                      decide
                        (0 + ([] ++ wantV (List.take a0.length a0) a2 0).length ≤
                          (wantV (List.take a0.length a0) a2 0).length) then
                    true
                  else false)
                  (some
                    (PV.sc
                        (Value.bool
                          (decide
                            ([] =
                              List.take ([] ++ wantV (List.take a0.length a0) a2 0).length
                                (wantV (List.take a0.length a0) a2 0)))),
                      [Blk.row false
                          ((Kd.int IntKind.i64).pair
                            (((Kd.int IntKind.i64).pair (Kd.int IntKind.i64)).pair
                              ((Kd.int IntKind.i64).pair ((Kd.int IntKind.i64).pair (Kd.int IntKind.i64)))))
                          a0]))
              else
                some
                  (PV.sc (Value.bool false),
                    [Blk.row false
                        ((Kd.int IntKind.i64).pair
                          (((Kd.int IntKind.i64).pair (Kd.int IntKind.i64)).pair
                            ((Kd.int IntKind.i64).pair ((Kd.int IntKind.i64).pair (Kd.int IntKind.i64)))))
                        a0]))
        else
          some
            (PV.sc (Value.bool (lawR [] (seeE (List.take a0.length a0) a2) (mV (List.take a0.length a0) 0))),
              [Blk.row false
                  ((Kd.int IntKind.i64).pair
                    (((Kd.int IntKind.i64).pair (Kd.int IntKind.i64)).pair
                      ((Kd.int IntKind.i64).pair ((Kd.int IntKind.i64).pair (Kd.int IntKind.i64)))))
                  a0])))) := by kernel_rfl
/-! ### The sort gives what trying every number gives -/
def cnt (m : List Int) (y : Int) : Nat := (m.filter fun x => decide (x = y)).length
def F (c : Int → Nat) : Nat → Int → List Int
  | 0, _ => []
  | n + 1, i => List.replicate (c i) i ++ F c n (i + 1)
theorem F_app (c : Int → Nat) (m : Nat) : ∀ (n : Nat) (i : Int), F c (n + m) i = F c n i ++ F c m (i + n)
  | 0, i => by rw [Nat.zero_add, show i + ((0 : Nat) : Int) = i by omega]; rfl
  | n + 1, i => by
    rw [show n + 1 + m = (n + m) + 1 by omega]
    show List.replicate (c i) i ++ F c (n + m) (i + 1) = (List.replicate (c i) i ++ F c n (i + 1)) ++ F c m (i + (n + 1 : Nat))
    rw [F_app c m n (i + 1), List.append_assoc, show i + 1 + (n : Int) = i + ((n + 1 : Nat) : Int) by omega]
theorem F_mem {c : Int → Nat} {y : Int} : ∀ (n : Nat) (i : Int), y ∈ F c n i → i ≤ y ∧ y < i + n
  | 0, i, h => by cases h
  | n + 1, i, h => by
    rcases List.mem_append.1 h with h | h
    · have := (List.mem_replicate.1 h).2; omega
    · have := F_mem n (i + 1) h; omega
theorem F_cong {c c' : Int → Nat} : ∀ (n : Nat) (i : Int), (∀ y, i ≤ y → y < i + n → c' y = c y) → F c' n i = F c n i
  | 0, i, h => rfl
  | n + 1, i, h => by
    unfold F
    rw [h i (by omega) (by omega), F_cong n (i + 1) (fun y h1 h2 => h y (by omega) (by omega))]
theorem F_ins {c c' : Int → Nat} {x : Int} (h0 : 0 ≤ x) (h1 : x < 256) (hx : c' x = c x + 1) (hy : ∀ y, y ≠ x → c' y = c y) :
    ∃ A B, F c 256 0 = A ++ B ∧ F c' 256 0 = A ++ x :: B ∧ (∀ a ∈ A, a ≤ x) ∧ (∀ b ∈ B, x < b) := by
  have e : ∀ c : Int → Nat, F c 256 0 = F c x.toNat 0 ++ (List.replicate (c x) x ++ F c (255 - x.toNat) (x + 1)) := fun c => by
    have := F_app c (255 - x.toNat + 1) x.toNat 0
    rw [show x.toNat + (255 - x.toNat + 1) = 256 by omega, show (0 : Int) + (x.toNat : Int) = x by omega] at this
    exact this
  refine ⟨F c x.toNat 0 ++ List.replicate (c x) x, F c (255 - x.toNat) (x + 1), ?_, ?_, ?_, ?_⟩
  · rw [e c, List.append_assoc]
  · rw [e c', F_cong x.toNat 0 (fun y h2 h3 => hy y (by omega)), F_cong (255 - x.toNat) (x + 1) (fun y h2 h3 => hy y (by omega)), hx, List.replicate_succ', List.append_assoc, List.append_assoc]; rfl
  · intro a ha
    rcases List.mem_append.1 ha with ha | ha
    · have := F_mem _ _ ha; omega
    · have := (List.mem_replicate.1 ha).2; omega
  · intro b hb
    have := F_mem _ _ hb; omega
theorem bub_at {A : List Int} {x : Int} (hA : ∀ a ∈ A, a ≤ x) : ∀ (n : Nat) (B : List Int), B.length = n → (∀ b ∈ B, x < b) → ∀ post, bub (A.length + n) (A ++ (B ++ x :: post)) = A ++ x :: (B ++ post)
  | 0, B, hn, hB, post => by
    obtain rfl := List.length_eq_zero_iff.1 hn
    rw [List.nil_append, List.nil_append, Nat.add_zero]
    rcases List.eq_nil_or_concat A with rfl | ⟨A', a, rfl⟩
    · rfl
    · rw [List.concat_eq_append]
      rw [List.concat_eq_append] at hA
      rw [show (A' ++ [a]).length = A'.length + 1 by simp]
      have e1 : (A' ++ [a] ++ x :: post)[A'.length + 1]? = some x := by
        rw [List.getElem?_append_right (by simp)]; simp
      have e2 : (A' ++ [a] ++ x :: post)[A'.length]? = some a := by
        rw [List.append_assoc, List.getElem?_append_right (by simp)]; simp
      show (bif less ((A' ++ [a] ++ x :: post).getD (A'.length + 1) 0) ((A' ++ [a] ++ x :: post).getD A'.length 0) then _ else _) = _
      rw [getD_of e1, getD_of e2]
      have := hA a (by simp)
      rw [show less x a = false from decide_eq_false (by omega)]; rfl
  | n + 1, B, hn, hB, post => by
    rcases List.eq_nil_or_concat B with rfl | ⟨B', b, rfl⟩
    · cases hn
    · rw [List.concat_eq_append] at hn hB ⊢
      have hl : B'.length = n := by simpa using hn
      have e1 : (A ++ (B' ++ [b] ++ x :: post))[A.length + n + 1]? = some x := by
        rw [List.getElem?_append_right (by omega), List.getElem?_append_right (by simp; omega)]; simp [hl]; rw [show A.length + n + 1 - A.length - (n + 1) = 0 by omega]; rfl
      have e2 : (A ++ (B' ++ [b] ++ x :: post))[A.length + n]? = some b := by
        rw [List.getElem?_append_right (by omega), List.append_assoc, List.getElem?_append_right (by omega), hl, show A.length + n - A.length - n = 0 by omega]; rfl
      show (bif less ((A ++ (B' ++ [b] ++ x :: post)).getD (A.length + n + 1) 0) ((A ++ (B' ++ [b] ++ x :: post)).getD (A.length + n) 0) then bub (A.length + n) (swp (A ++ (B' ++ [b] ++ x :: post)) (A.length + n + 1)) else _) = _
      rw [getD_of e1, getD_of e2]
      have := hB b (by simp)
      rw [show less x b = true from decide_eq_true (by omega)]
      have e3 : swp (A ++ (B' ++ [b] ++ x :: post)) (A.length + n + 1) = A ++ (B' ++ x :: (b :: post)) := by
        unfold swp
        rw [getD_of e1, show A.length + n + 1 - 1 = A.length + n by omega, getD_of e2, List.set_append_right _ _ (by omega), List.set_append_right _ _ (by omega), List.append_assoc, List.set_append_right _ _ (by omega), List.set_append_right _ _ (by omega), hl, show A.length + n + 1 - A.length - n = 1 by omega, show A.length + n - A.length - n = 0 by omega]; rfl
      simp only [cond_true]
      rw [e3, bub_at hA n B' hl (fun y hy => hB y (by simp [hy])) (b :: post)]
      simp
theorem cnt_snoc (m : List Int) (x y : Int) : cnt (m ++ [x]) y = cnt m y + (if x = y then 1 else 0) := by
  unfold cnt
  rw [List.filter_append, List.length_append]
  by_cases h : x = y
  · rw [if_pos h, List.filter_cons_of_pos (by simpa using h)]; rfl
  · rw [if_neg h, List.filter_cons_of_neg (by simpa using h)]; rfl
theorem outB_F : ∀ (todo done : List Int), (∀ x ∈ todo, 0 ≤ x ∧ x < 256) → (F (cnt done) 256 0).length = done.length → outB todo.length done.length (F (cnt done) 256 0 ++ todo) = F (cnt (done ++ todo)) 256 0
  | [], done, _, _ => by rw [List.append_nil, List.append_nil]; rfl
  | x :: r, done, h, hl => by
    obtain ⟨A, B, e1, e2, h1, h2⟩ := F_ins (c := cnt done) (c' := cnt (done ++ [x])) (x := x) (h x (by simp)).1 (h x (by simp)).2 (by rw [cnt_snoc, if_pos rfl]) (fun y hy => by rw [cnt_snoc, if_neg (fun e => hy e.symm)]; rfl)
    have hb := bub_at h1 B.length B rfl h2 r
    rw [← List.append_assoc, ← e1, show A.length + B.length = done.length by rw [← hl, e1, List.length_append]] at hb
    have hb : bub done.length (F (cnt done) 256 0 ++ x :: r) = F (cnt (done ++ [x])) 256 0 ++ r := by rw [hb, e2, List.append_assoc]; rfl
    show outB r.length (done.length + 1) (bub done.length (F (cnt done) 256 0 ++ x :: r)) = _
    have ih := outB_F r (done ++ [x]) (fun y hy => h y (by simp [hy])) (by rw [e2, List.length_append, List.length_append, List.length_cons, ← hl, e1, List.length_append]; simp; omega)
    rw [hb, show done.length + 1 = (done ++ [x]).length by simp, ih, List.append_assoc]; rfl
theorem F_zero : ∀ (n : Nat) (i : Int), F (cnt []) n i = []
  | 0, _ => rfl
  | n + 1, i => by
    show List.replicate (cnt [] i) i ++ F (cnt []) n (i + 1) = []
    rw [F_zero n (i + 1)]; rfl
theorem isort_F {d : List Int} (h : ∀ x ∈ d, 0 ≤ x ∧ x < 256) : isort d = F (cnt d) 256 0 := by
  have := outB_F d [] h (by rw [F_zero])
  rw [F_zero, List.nil_append] at this
  cases d with
  | nil => rw [← this]; rfl
  | cons x r => rw [← this]; rfl
theorem map_const {l : List St} {q : St → Bool} {y : Int} : (l.filter q).map (fun _ => y) = List.replicate (l.filter q).length y := by
  rw [List.map_const']
theorem want_F (l : List St) (p : Pt) : ∀ (n : Nat) (i : Int), want l p n i = F (cnt (visK l p 0)) n i
  | 0, _ => rfl
  | n + 1, i => by
    show wIn l p i 0 ++ want l p n (i + 1) = List.replicate (cnt (visK l p 0) i) i ++ F (cnt (visK l p 0)) n (i + 1)
    rw [want_F l p n (i + 1)]
    congr 1
    unfold wIn cnt visK
    rw [show l.drop (Int.toNat 0) = l from rfl, map_const, List.filter_map, List.length_map, List.filter_filter]
    rfl
theorem id_ok {s : St} (h : sE s = 0) : @LE.le Int _ 0 s.1 ∧ @LT.lt Int _ s.1 256 := by
  unfold sE stE at h
  by_cases k : stN s.1 s.2.1.1 s.2.1.2 s.2.2.1 s.2.2.2.1 s.2.2.2.2
  · have h1 : @LE.le Int _ 0 s.1 := k.1
    have h2 : @LE.le Int _ s.1 255 := k.2.1
    exact ⟨h1, by omega⟩
  · rw [decide_eq_false k] at h; exact absurd (show (4 : Int) = 0 from h) (by decide)
theorem same_want {l : List St} (p : Pt) (h : ∀ s ∈ l, sE s = 0) : seeL l p = wantV l p 0 := by
  unfold seeL wantV
  rw [show ((256 : Int) - 0).toNat = 256 from rfl, want_F]
  refine isort_F fun x hx => ?_
  unfold visK at hx
  obtain ⟨s, hs, rfl⟩ := List.mem_map.1 hx
  exact id_ok (h s (List.mem_of_mem_drop (List.mem_filter.1 hs).1))
/-! ### The law's loops -/
abbrev B3 (out : List Int) (s : St) (l : List St) : List Blk := [.row false I out, .fix false (pvSt s), .row false kSpot l]
theorem lawR_at (out : List Int) (e c : Int) {X : List Blk} : (bif e == c then some (Xt.ret, [PV.sc (.bool ((out.length : Int) == 0))], X) else some (Xt.ret, [PV.sc (.bool false)], X)) = some (Xt.ret, [PV.sc (.bool (lawR out e c))], X) := by
  unfold lawR
  rw [show (e == c) = decide (e = c) from rfl]
  cases decide (e = c) <;> rfl
theorem q12b (out : List Int) (on : Bool) (e : Int) (s : St) (l : List St) (nl : Bool) (n k : Int) (h : preLb l n k = true) :
    m12bL out on e s l nl n k = cond (!((l.drop k.toNat).any (qS s))) (some (.exit 2, [.undef], B3 out s l)) (some (.ret, [.sc (.bool (lawR out e 7))], B3 out s l)) := by
  obtain ⟨h1, h2, h3, h4⟩ := of_decide_eq_true h
  rw [m12b]
  simp only [List.take_length, Nat.zero_add, len_true, cond_true]
  refine cond_split (fun hk => ?_) (fun hk => ?_)
  · have hk := of_decide_eq_true hk
    obtain ⟨x, hx⟩ := get_ex (l := l) (k := k.toNat) (by omega)
    have hw : IntKind.i64.wrap (k + 1) = k + 1 := W_id _ (by omega) (by omega)
    rw [hx, drop_cons hx, List.any_cons, hw]
    refine guard_split (by simp; omega) ?_
    simp only [bindO]
    have hq : qS s x = (s.1 == x.1) := by
      show decide (x.1 = s.1) = decide (s.1 = x.1)
      exact decide_eq_decide.mpr ⟨fun e => e.symm, fun e => e.symm⟩
    rw [hq]
    refine cond_split (fun hc => ?_) (fun hc => ?_)
    · rw [hc]; exact lawR_at out e 7
    · rw [hc, Bool.false_or, show (k + 1).toNat = k.toNat + 1 by omega]
      refine guard_split (decide_eq_true ?_) (guard_split (decide_eq_true ⟨h1, h2, by omega, by omega⟩) rfl)
      show (n - (k + 1)).toNat < (n - k).toNat
      omega
  · have hk := of_decide_eq_false hk
    rw [List.drop_eq_nil_of_le (by omega)]; rfl
abbrev B4 (l : List St) (out : List Int) (l2 : List St) : List Blk := [.row false kSpot l, .row false I out, .row false kSpot l2]
theorem q12a (l : List St) (nl : Bool) (out : List Int) (on : Bool) (e : Int) (l2 : List St) (nl2 : Bool) (n k : Int) (h : pre100 l l2 n k = true) :
    m12aL l nl out on e l2 nl2 n k = cond (decide (mV l k = 0)) (some (.exit 0, [.undef], B4 l out l2)) (some (.ret, [.sc (.bool (lawR out e (mV l k)))], B4 l out l2)) := by
  obtain ⟨rfl, h2, h3, h4, h5⟩ := bp_true.1 h
  rw [m12a]
  simp only [List.take_length, Nat.zero_add, len_true, cond_true, Nat.sub_zero]
  refine cond_split (fun hk => ?_) (fun hk => ?_)
  · have hk := of_decide_eq_true hk
    obtain ⟨x, hx⟩ := get_ex (l := l2) (k := k.toNat) (by omega)
    have hw : IntKind.i64.wrap (k + 1) = k + 1 := W_id _ (by omega) (by omega)
    rw [hx, hw, mV_step h4 hx]
    refine guard_split (by simp; omega) ?_
    simp only [bindO]
    refine cond_split (fun hc => ?_) (fun hc => ?_)
    · have hc : sE x ≠ 0 := by simpa using hc
      rw [decide_eq_false hc]
      simp only [cond_false]
      rw [decide_eq_false hc]
      have h4 : sE x = 4 := by
        unfold sE stE at hc ⊢
        cases hd : decide (stN x.1 x.2.1.1 x.2.1.2 x.2.2.1 x.2.2.2.1 x.2.2.2.2) with
        | true => rw [hd] at hc; exact absurd rfl hc
        | false => rfl
      rw [h4]
      exact lawR_at out e 4
    have hc : sE x = 0 := by simpa using hc
    rw [decide_eq_true hc]
    refine guard_split (by simp; omega) (guard_split ?_ ?_)
    · rw [decide_eq_true (show k.toNat ≤ l2.length by omega)]
      exact decide_eq_true ⟨by rw [List.length_take]; omega, by rw [List.length_take]; omega, by omega, by omega⟩
    rw [show (List.take k.toNat l2).drop (Int.toNat 0) = List.take k.toNat l2 from rfl]
    cases hq : (List.take k.toNat l2).any (qS x) with
    | true => rfl
    | false =>
      refine guard_split (decide_eq_true ?_) (guard_split (bp_mk ⟨rfl, h2, h3, by omega, by omega⟩) rfl)
      show (n - (k + 1)).toNat < (n - k).toNat
      omega
  · have hk := of_decide_eq_false hk
    rw [mV_end (by omega)]; rfl
theorem wIn_step {l : List St} {p : Pt} {id k : Int} {x : St} (h0 : 0 ≤ k) (hx : l[k.toNat]? = some x) : wIn l p id k = (bif decide (x.1 = id) && sees x p then [id] else []) ++ wIn l p id (k + 1) := by
  unfold wIn
  rw [drop_cons hx, show (k + 1).toNat = k.toNat + 1 by omega, List.filter_cons]
  cases (decide (x.1 = id) && sees x p) <;> rfl
theorem wIn_end {l : List St} {p : Pt} {id k : Int} (h : (l.length : Int) ≤ k) : wIn l p id k = [] := by
  unfold wIn; rw [List.drop_eq_nil_of_le (by omega)]; rfl
theorem wIn_len (l : List St) (p : Pt) (id k : Int) : (wIn l p id k).length ≤ l.length := by
  unfold wIn
  rw [List.length_map]
  refine Nat.le_trans (List.length_filter_le _ _) ?_
  rw [List.length_drop]; omega
theorem q12d (p : Pt) (acc : List Int) (an : Bool) (id : Int) (l : List St) (nl : Bool) (n k : Int) (h : preLd acc l n k = true) :
    m12dL p acc an id l nl n k = some (.exit 6, [slI 3 (acc ++ wIn l p id k) (an && (wIn l p id k).isEmpty)], [bP5 p, .dead, .row false kSpot l, .row true I (acc ++ wIn l p id k)]) := by
  obtain ⟨h1, h2, h3, h4, h5⟩ := of_decide_eq_true h
  rw [m12d]
  simp only [List.take_length, Nat.zero_add, len_true, len_same, cond_true]
  refine cond_split (fun hk => ?_) (fun hk => ?_)
  · have hk := of_decide_eq_true hk
    obtain ⟨x, hx⟩ := get_ex (l := l) (k := k.toNat) (by omega)
    have hw : IntKind.i64.wrap (k + 1) = k + 1 := W_id _ (by omega) (by omega)
    rw [hx, hw, wIn_step h4 hx]
    refine guard_split (by simp; omega) ?_
    simp only [bindO]
    have hmu : ∀ (a b : List Int) (an bn : Bool), decide (muLd (p, (a, an), id, (l, nl), n, k + 1, PUnit.unit) < muLd (p, (b, bn), id, (l, nl), n, k, ())) = true := fun a b an bn => decide_eq_true (show (n - (k + 1)).toNat < (n - k).toNat by omega)
    rw [show (x.1 == id) = decide (x.1 = id) from rfl]
    change cond (decide (x.1 = id)) (cond (sees x p) _ _) _ = _
    have hno : ∀ (Y : Option (Xt × List PV × List Blk)), (guardB (decide (muLd (p, (acc, an), id, (l, nl), n, k + 1, PUnit.unit) < muLd (p, (acc, an), id, (l, nl), n, k, ()))) (guardB (preLd acc l n (k + 1)) Y)) = Y := fun Y => by
      rw [hmu, show preLd acc l n (k + 1) = true from decide_eq_true ⟨by omega, h2, h3, by omega, by omega⟩]; rfl
    cases decide (x.1 = id) with
    | false =>
      simp only [cond_false, Bool.false_and, List.nil_append]
      exact hno _
    | true =>
      cases sees x p with
      | false =>
        simp only [cond_false, cond_true, Bool.and_false, List.nil_append]
        exact hno _
      | true =>
        simp only [cond_true, Bool.and_self]
        refine guard_split (by simp; omega) (guard_split (hmu _ _ _ _) (guard_split ?_ ?_))
        · rw [decide_eq_true (show acc.length + 1 = (acc ++ [id]).length by simp)]
          exact decide_eq_true ⟨by rw [List.length_append]; simp; omega, h2, h3, by omega, by omega⟩
        · simp only [List.singleton_append, List.isEmpty_cons, Bool.and_false, List.append_assoc]
  · have hk := of_decide_eq_false hk
    rw [wIn_end (by omega), List.append_nil, List.isEmpty_nil, Bool.and_true]
theorem q12c (l : List St) (nl : Bool) (p : Pt) (acc : List Int) (an : Bool) (id : Int) (h : preLc acc l id = true) :
    m12cL l nl p acc an id = some (.exit 4, [slI 3 (acc ++ wantV l p id) (an && (wantV l p id).isEmpty)], [.row false kSpot l, bP5 p, .dead, .row true I (acc ++ wantV l p id)]) := by
  obtain ⟨h1, h2, h3, h4⟩ := of_decide_eq_true h
  rw [m12c]
  simp only [List.take_length, Nat.zero_add, len_true, len_same, cond_true]
  refine cond_split (fun hk => ?_) (fun hk => ?_)
  · have hk := of_decide_eq_true hk
    have hw : IntKind.i64.wrap (id + 1) = id + 1 := W_id _ (by omega) (by omega)
    have hwl := wIn_len l p id 0
    rw [hw]
    have hs : wantV l p id = wIn l p id 0 ++ wantV l p (id + 1) := by
      unfold wantV
      rw [show (256 - id).toNat = (256 - (id + 1)).toNat + 1 by omega]; rfl
    rw [hs]
    refine guard_split (decide_eq_true ⟨by omega, h2, rfl, by omega, by omega⟩) (guard_split (decide_eq_true ?_) (guard_split (decide_eq_true ⟨by rw [List.length_append]; omega, h2, by omega, by omega⟩) ?_))
    · show (256 - (id + 1)).toNat < (256 - id).toNat
      omega
    · rw [List.append_assoc, show (wIn l p id 0 ++ wantV l p (id + 1)).isEmpty = ((wIn l p id 0).isEmpty && (wantV l p (id + 1)).isEmpty) by cases wIn l p id 0 <;> simp, Bool.and_assoc]
  · have hk := of_decide_eq_false hk
    have : wantV l p id = [] := by unfold wantV; rw [show (256 - id).toNat = 0 by omega]; rfl
    rw [this, List.append_nil, List.isEmpty_nil, Bool.and_true]
theorem q12 (l : List St) (nl : Bool) (p : Pt) : m12L l nl p = some (.sc (.bool true), [.row false kSpot l]) := by
  rw [m12]
  simp only [List.take_length, Nat.zero_add, len_true, len_same, cond_true, List.nil_append, List.append_nil]
  refine guard_split rfl ?_
  have hlen : l.length ≤ 4 → preLc [] l 0 = true := fun h => decide_eq_true ⟨by simp, h, by omega, by omega⟩
  have hp1 : l.length ≤ 4 → pre100 l l (l.length : Int) 0 = true := fun h => bp_mk ⟨rfl, rfl, h, by omega, by omega⟩
  refine cond_split (fun h0 => ?_) (fun h0 => ?_)
  · have h0 : seeE l p = 0 := of_decide_eq_true h0
    have hc : chkM l = 0 := by
      unfold seeE at h0
      by_cases k : chkM l = 0
      · exact k
      · rw [decide_eq_false k] at h0; exact h0
    obtain ⟨g1, g2⟩ := chk_ok hc
    rw [decide_eq_false (show ¬ (l.length : Int) > 4 by omega), hp1 g1, g2]
    have hpl : (plc p || decide (l.length = 0)) = true := by
      unfold seeE at h0
      rw [decide_eq_true hc] at h0
      cases k : (plc p || decide (l.length = 0)) with
      | true => rfl
      | false => rw [k] at h0; exact absurd (show (4 : Int) = 0 from h0) (by decide)
    have hsl : (seeL l p).length ≤ 1000 := by unfold seeL; rw [isort_len]; have := vis_len l p 0; omega
    have hfin : ∀ (Z : List Blk), guardB (preLc [] l 0) (guardB (decide ((seeL l p).length ≤ 1000)) (some (PV.sc (.bool (decide (seeL l p = wantV l p 0))), Z))) = some (PV.sc (.bool true), Z) := fun Z => by
      rw [hlen g1, decide_eq_true hsl, decide_eq_true (same_want p (mV_all g2))]; rfl
    rw [show decide ((0 : Int) = 0) = true from rfl]
    simp only [cond_true, cond_false]
    refine guard_split rfl ?_
    refine cond_split (fun hn => ?_) (fun hn => hfin _)
    have hn := of_decide_eq_true hn
    rw [decide_eq_false (show ¬ l.length = 0 by omega), Bool.or_false] at hpl
    rw [show placedS p.1 p.2 = true from hpl]
    exact hfin _
  · have h0 : seeE l p ≠ 0 := of_decide_eq_false h0
    refine cond_split (fun h4 => ?_) (fun h4 => ?_)
    · have h4 : ((l.length : Nat) : Int) > 4 := of_decide_eq_true h4
      have : seeE l p = 2 := by
        have : chkM l = 2 := by unfold chkM; rw [decide_eq_true (show 4 < l.length by omega)]; rfl
        unfold seeE; rw [this]; rfl
      rw [this]; rfl
    have h4 : ¬ ((l.length : Nat) : Int) > 4 := of_decide_eq_false h4
    have hcm : chkM l = mV l 0 := by unfold chkM; rw [decide_eq_false (show ¬ 4 < l.length by omega)]; rfl
    rw [hp1 (by omega)]
    refine guard_split rfl ?_
    refine cond_split (fun hm => ?_) (fun hm => ?_)
    · have hm : mV l 0 = 0 := of_decide_eq_true hm
      have hpl : (plc p || decide (l.length = 0)) = false := by
        cases k : (plc p || decide (l.length = 0)) with
        | false => rfl
        | true =>
          exfalso; apply h0
          unfold seeE
          rw [hcm, hm, k]; rfl
      have h5 : seeE l p = 4 := by unfold seeE; rw [hcm, hm, hpl]; rfl
      rw [Bool.or_eq_false_iff] at hpl
      have hne : l.length ≠ 0 := of_decide_eq_false hpl.2
      rw [decide_eq_true (show (l.length : Int) > 0 by omega), show placedS p.1 p.2 = false from hpl.1, h5]; rfl
    · have hm : mV l 0 ≠ 0 := of_decide_eq_false hm
      have h5 : seeE l p = mV l 0 := by unfold seeE; rw [hcm, decide_eq_false hm]; rfl
      rw [h5]
      have : lawR [] (mV l 0) (mV l 0) = true := by unfold lawR; rw [decide_eq_true rfl]; rfl
      rw [this]
theorem in12b : CutOK Try.prog Try.f12.ntmps (codeAt 2 (bodyF Try.f12)) [7, 8, 10, 67, 68, 69] [4] (entC kLb cLb) := loop_cutW (kill := killA 0 kLb) M8_ok mixed muLb (by kernel_rfl) (noCuts_ok _) fun v h => q12b v.1.1 v.1.2 v.2.1 v.2.2.1 v.2.2.2.1.1 v.2.2.2.1.2 v.2.2.2.2.1 v.2.2.2.2.2.1 h
theorem in12a : CutOK Try.prog Try.f12.ntmps (codeAt 0 (bodyF Try.f12)) [0, 7, 8, 48, 49, 50] [4] (entC kLa cLa) := loop_cutW (kill := killA 0 kLa) M8_ok mixed muLa (by kernel_rfl) (cut_cons (by kernel_rfl) in12b (noCuts_ok _)) fun v h => q12a v.1.1 v.1.2 v.2.1.1 v.2.1.2 v.2.2.1 v.2.2.2.1.1 v.2.2.2.1.2 v.2.2.2.2.1 v.2.2.2.2.2.1 h
theorem in12d : CutOK Try.prog Try.f12.ntmps (codeAt 6 (bodyF Try.f12)) [3, 13, 14, 105, 106, 107] [13] (entC kLd cLd) := loop_cutW (kill := killA 0 kLd) M8_ok mixed muLd (by kernel_rfl) (noCuts_ok _) fun v h => q12d v.1 v.2.1.1 v.2.1.2 v.2.2.1 v.2.2.2.1.1 v.2.2.2.1.2 v.2.2.2.2.1 v.2.2.2.2.2.1 h
theorem in12c : CutOK Try.prog Try.f12.ntmps (codeAt 4 (bodyF Try.f12)) [0, 3, 13, 102] [13] (entC kLc cLc) := loop_cutW (kill := killA 0 kLc) M8_ok mixed muLc (by kernel_rfl) (cut_cons (by kernel_rfl) in12d (noCuts_ok _)) fun v h => q12c v.1.1 v.1.2 v.2.1 v.2.2.1.1 v.2.2.1.2 v.2.2.2.1 h
theorem lawOK (v : denA [(.s (.ro (Kd.pair (Kd.int .i64) (Kd.pair (Kd.pair (Kd.int .i64) (Kd.int .i64)) (Kd.pair (Kd.int .i64) (Kd.pair (Kd.int .i64) (Kd.int .i64))))))), (.s (.v ⟨true, (Kd.pair (Kd.int .i64) (Kd.int .i64))⟩))]) (h : (gSlice (k := (Kd.pair (Kd.int .i64) (Kd.pair (Kd.pair (Kd.int .i64) (Kd.int .i64)) (Kd.pair (Kd.int .i64) (Kd.pair (Kd.int .i64) (Kd.int .i64)))))) 48 (both (gInt .i64) (both (both (gInt .i64) (gInt .i64)) (both (gInt .i64) (both (gInt .i64) (gInt .i64)))))) v.1 ∧ (both (gInt .i64) (gInt .i64)) v.2.1 ∧ True) : ∃ H', CallOK Try.prog 12 (showA 0 [(.s (.ro (Kd.pair (Kd.int .i64) (Kd.pair (Kd.pair (Kd.int .i64) (Kd.int .i64)) (Kd.pair (Kd.int .i64) (Kd.pair (Kd.int .i64) (Kd.int .i64))))))), (.s (.v ⟨true, (Kd.pair (Kd.int .i64) (Kd.int .i64))⟩))] v).1 (showA 0 [(.s (.ro (Kd.pair (Kd.int .i64) (Kd.pair (Kd.pair (Kd.int .i64) (Kd.int .i64)) (Kd.pair (Kd.int .i64) (Kd.pair (Kd.int .i64) (Kd.int .i64))))))), (.s (.v ⟨true, (Kd.pair (Kd.int .i64) (Kd.int .i64))⟩))] v).2 (.sc (.bool true)) H' := by
  exact ⟨_, evFuncV_sound M8_ok mixed Try.func12 (show Try.f12.body = some (bodyF Try.f12) from rfl) (cut_cons (by kernel_rfl) in12a (cut_cons (by kernel_rfl) in12c (noCuts_ok _))) (q12 v.1.1 v.1.2 v.2.1) (by rw [showA_len]; decide)⟩
end Go.Proofs.YtpndjpjpmcehbaaMo
