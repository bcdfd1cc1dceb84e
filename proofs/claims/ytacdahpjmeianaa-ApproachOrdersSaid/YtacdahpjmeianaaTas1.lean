/- What is proved: the checks and the times of arrivals are what the plain functions say. No condition. -/
import Derived.Test.YtacdahpjmeianaaTas0
namespace Go.Proofs.YtacdahpjmeianaaAs
open Go Go.Proofs Go.Proofs.YtacdahpjmeianaaEv
set_option maxRecDepth 100000
set_option linter.unusedSimpArgs false
set_option linter.unusedVariables false
theorem mixed : Try.prog.follows .mixedOrders = true := by kernel_rfl
noncomputable abbrev a24L (a0 : Int) (a1 : Int) (a2 : Int) := evFuncV Try.prog T0 noCuts Try.f41 (killA 0 [sI, sI, sI]) (showA 0 [sI, sI, sI] (a0, (a1, (a2, ())))).1 (showA 0 [sI, sI, sI] (a0, (a1, (a2, ())))).2
theorem a24 (a0 : Int) (a1 : Int) (a2 : Int) : a24L a0 a1 a2 = (bif decide (a0 ≥ a1) then some (PV.sc (Value.bool (decide (a0 ≤ a2))), []) else some (PV.sc (Value.bool false), [])) := by kernel_rfl
noncomputable abbrev a56cL (a0 : List Int) (a1 : Int) := evRound Try.prog T0 noCuts 65 (loopOf (codeAt 2 (bodyF Try.f83))) k56c mu56c (killA 0 k56c) [18, 19] [4] c56c (a0, (a1, ()))
theorem a56c (a0 : List Int) (a1 : Int) : a56cL a0 a1 = (bif decide (a1 < 4) then
  guardB (decide (0 ≤ a1) && decide (a1 < 4))
    (bindO a0[a1.toNat]? fun x =>
      bif decide (x < 0) then some (Xt.ret, [PV.sc (Value.int IntKind.i64 4)], [])
      else
        bif decide (x > 1000) then some (Xt.ret, [PV.sc (Value.int IntKind.i64 4)], [])
        else
          guardB (decide (mu56c (a0, IntKind.i64.wrap (a1 + 1), PUnit.unit) < mu56c (a0, a1, ())))
            (guardB (pre56c a0 (IntKind.i64.wrap (a1 + 1)))
              (bif !(List.drop (IntKind.i64.wrap (a1 + 1)).toNat a0).any badG then some (Xt.exit 2, [PV.undef], [])
              else some (Xt.ret, [PV.sc (Value.int IntKind.i64 4)], []))))
else some (Xt.exit 2, [PV.undef], [])) := by kernel_rfl
noncomputable abbrev a56aL (a0 : List Int) (a1 : Int) := evRound Try.prog T0 (addCut 2 [18, 19] [4] (entC k56c c56c) noCuts) 65 (loopOf (codeAt 0 (bodyF Try.f83))) k56a mu56a (killA 0 k56a) [14, 15] [4] c56a (a0, (a1, ()))
theorem a56a (a0 : List Int) (a1 : Int) : a56aL a0 a1 = (bif decide (a1 < 4) then
  guardB (decide (0 ≤ a1) && decide (a1 < 4))
    (guardB (decide (4 ≤ (splice [0, 0, 0, 0] 0 (List.take 4 (List.drop (a1.toNat * 4) a0))).length))
      (guardB (pre56c (List.take 4 (splice [0, 0, 0, 0] 0 (List.take 4 (List.drop (a1.toNat * 4) a0)))) 0)
        (bif
            !(List.drop (Int.toNat 0)
                    (List.take 4 (splice [0, 0, 0, 0] 0 (List.take 4 (List.drop (a1.toNat * 4) a0))))).any
                badG then
          guardB (decide (mu56a (a0, IntKind.i64.wrap (a1 + 1), PUnit.unit) < mu56a (a0, a1, ())))
            (guardB (pre56a a0 (IntKind.i64.wrap (a1 + 1)))
              (bif !(List.drop ((IntKind.i64.wrap (a1 + 1)).toNat * 4) a0).any badG then
                some (Xt.exit 0, [PV.undef], [])
              else some (Xt.ret, [PV.sc (Value.int IntKind.i64 4)], [])))
        else some (Xt.ret, [PV.sc (Value.int IntKind.i64 4)], []))))
else some (Xt.exit 0, [PV.undef], [])) := by kernel_rfl
noncomputable abbrev a56bL (a0 : List (ByteArray × Int × Int × Int)) (a1 : Bool) (a2 : Int) (a3 : Int) := evRound Try.prog T0 noCuts 65 (loopOf (codeAt 4 (bodyF Try.f83))) k56b mu56b (killA 0 k56b) [30, 31, 32] [4] c56b ((a0, a1), (a2, (a3, ())))
theorem a56b (a0 : List (ByteArray × Int × Int × Int)) (a1 : Bool) (a2 : Int) (a3 : Int) : a56bL a0 a1 a2 a3 = (bif decide (a3 < a2) then
  guardB (decide (0 ≤ a3) && decide (a3 < (↑a0.length : Int)))
    (bindO a0[0 + a3.toNat]? fun x =>
      bif decide (x.snd.fst < 0) then
        some
          (Xt.ret, [PV.sc (Value.int IntKind.i64 4)],
            [Blk.row false (Kd.str.pair ((Kd.int IntKind.i64).pair ((Kd.int IntKind.i64).pair (Kd.int IntKind.i64))))
                a0])
      else
        bif decide (x.snd.fst > 3) then
          some
            (Xt.ret, [PV.sc (Value.int IntKind.i64 4)],
              [Blk.row false (Kd.str.pair ((Kd.int IntKind.i64).pair ((Kd.int IntKind.i64).pair (Kd.int IntKind.i64))))
                  a0])
        else
          bif decide (x.snd.snd.fst < 0) then
            some
              (Xt.ret, [PV.sc (Value.int IntKind.i64 4)],
                [Blk.row false
                    (Kd.str.pair ((Kd.int IntKind.i64).pair ((Kd.int IntKind.i64).pair (Kd.int IntKind.i64)))) a0])
          else
            bif decide (x.snd.snd.fst > 200000) then
              some
                (Xt.ret, [PV.sc (Value.int IntKind.i64 4)],
                  [Blk.row false
                      (Kd.str.pair ((Kd.int IntKind.i64).pair ((Kd.int IntKind.i64).pair (Kd.int IntKind.i64)))) a0])
            else
              bif decide (x.snd.snd.snd < 0) then
                some
                  (Xt.ret, [PV.sc (Value.int IntKind.i64 4)],
                    [Blk.row false
                        (Kd.str.pair ((Kd.int IntKind.i64).pair ((Kd.int IntKind.i64).pair (Kd.int IntKind.i64)))) a0])
              else
                bif decide (x.snd.snd.snd > 200000) then
                  some
                    (Xt.ret, [PV.sc (Value.int IntKind.i64 4)],
                      [Blk.row false
                          (Kd.str.pair ((Kd.int IntKind.i64).pair ((Kd.int IntKind.i64).pair (Kd.int IntKind.i64))))
                          a0])
                else
                  guardB
                    (decide
                      (mu56b ((List.take a0.length a0, a1), a2, IntKind.i64.wrap (a3 + 1), PUnit.unit) <
                        mu56b ((a0, a1), a2, a3, ())))
                    (guardB
                      (bif decide (0 + a0.length ≤ a0.length) then
                        pre56b (List.take a0.length a0) a2 (IntKind.i64.wrap (a3 + 1))
                      else false)
                      (bif !(List.drop (IntKind.i64.wrap (a3 + 1)).toNat (List.take a0.length a0)).any badA then
                        some
                          (Xt.exit 4, [PV.undef],
                            [Blk.row false
                                (Kd.str.pair
                                  ((Kd.int IntKind.i64).pair ((Kd.int IntKind.i64).pair (Kd.int IntKind.i64))))
                                a0])
                      else
                        some
                          (Xt.ret, [PV.sc (Value.int IntKind.i64 4)],
                            [Blk.row false
                                (Kd.str.pair
                                  ((Kd.int IntKind.i64).pair ((Kd.int IntKind.i64).pair (Kd.int IntKind.i64))))
                                a0]))))
else
  some
    (Xt.exit 4, [PV.undef],
      [Blk.row false (Kd.str.pair ((Kd.int IntKind.i64).pair ((Kd.int IntKind.i64).pair (Kd.int IntKind.i64)))) a0])) := by kernel_rfl
noncomputable abbrev a56L (a0 : List (ByteArray × Int × Int × Int)) (a1 : Bool) (a2 : List Int) := evFuncV Try.prog T0 cuts56 Try.f83 (killA 0 kC) (showA 0 kC ((a0, a1), (a2, ()))).1 (showA 0 kC ((a0, a1), (a2, ()))).2
theorem a56 (a0 : List (ByteArray × Int × Int × Int)) (a1 : Bool) (a2 : List Int) : a56L a0 a1 a2 = (bif decide ((↑a0.length : Int) > 32) then
  some
    (PV.sc (Value.int IntKind.i64 2),
      [Blk.row false (Kd.str.pair ((Kd.int IntKind.i64).pair ((Kd.int IntKind.i64).pair (Kd.int IntKind.i64)))) a0])
else
  guardB (decide (16 ≤ a2.length))
    (guardB (pre56a (List.take 16 a2) 0)
      (bif !(List.drop (Int.toNat 0 * 4) (List.take 16 a2)).any badG then
        guardB
          (bif decide (0 + a0.length ≤ a0.length) then pre56b (List.take a0.length a0) (↑a0.length : Int) 0 else false)
          (bif !(List.drop (Int.toNat 0) (List.take a0.length a0)).any badA then
            some
              (PV.sc (Value.int IntKind.i64 0),
                [Blk.row false
                    (Kd.str.pair ((Kd.int IntKind.i64).pair ((Kd.int IntKind.i64).pair (Kd.int IntKind.i64)))) a0])
          else
            some
              (PV.sc (Value.int IntKind.i64 4),
                [Blk.row false
                    (Kd.str.pair ((Kd.int IntKind.i64).pair ((Kd.int IntKind.i64).pair (Kd.int IntKind.i64)))) a0]))
      else
        some
          (PV.sc (Value.int IntKind.i64 4),
            [Blk.row false (Kd.str.pair ((Kd.int IntKind.i64).pair ((Kd.int IntKind.i64).pair (Kd.int IntKind.i64))))
                a0])))) := by kernel_rfl
noncomputable abbrev a55cL (a0 : List Int) (a1 : Int) (a2 : Int) := evRound Try.prog TIn noCuts 50 (loopOf (codeAt 2 (bodyF Try.f34))) k55c mu55c (killA 0 k55c) [3, 5, 15] [4] c55c (a0, (a1, (a2, ())))
theorem a55c (a0 : List Int) (a1 : Int) (a2 : Int) : a55cL a0 a1 a2 = (bif decide (a2 < 4) then
  guardB (decide (0 ≤ a1) && decide (a1 < 4))
    (guardB (decide (0 ≤ a2) && decide (a2 < 4))
      (bindO a0[0 + a1.toNat * 4 + a2.toNat * 1]? fun x =>
        bif !inS x 0 1000 then some (Xt.ret, [PV.sc (Value.int IntKind.i64 4)], [Blk.row false (Kd.int IntKind.i64) a0])
        else
          guardB (decide (mu55c (a0, a1, IntKind.i64.wrap (a2 + 1), PUnit.unit) < mu55c (a0, a1, a2, ())))
            (guardB (pre55c a0 a1 (IntKind.i64.wrap (a2 + 1)))
              (bif
                  !(List.take (4 - (IntKind.i64.wrap (a2 + 1)).toNat)
                          (List.drop (a1.toNat * 4 + (IntKind.i64.wrap (a2 + 1)).toNat) a0)).any
                      badG then
                some (Xt.exit 2, [PV.undef], [Blk.row false (Kd.int IntKind.i64) a0])
              else some (Xt.ret, [PV.sc (Value.int IntKind.i64 4)], [Blk.row false (Kd.int IntKind.i64) a0])))))
else some (Xt.exit 2, [PV.undef], [Blk.row false (Kd.int IntKind.i64) a0])) := by kernel_rfl
noncomputable abbrev a55aL (a0 : List Int) (a1 : Int) := evRound Try.prog TIn (addCut 2 [3, 5, 15] [4] (entC k55c c55c) noCuts) 50 (loopOf (codeAt 0 (bodyF Try.f34))) k55a mu55a (killA 0 k55a) [3, 12] [4] c55a (a0, (a1, ()))
theorem a55a (a0 : List Int) (a1 : Int) : a55aL a0 a1 = (bif decide (a1 < 4) then
  guardB (pre55c a0 a1 0)
    (bif !(List.take (4 - Int.toNat 0) (List.drop (a1.toNat * 4 + Int.toNat 0) a0)).any badG then
      guardB (decide (mu55a (a0, IntKind.i64.wrap (a1 + 1), PUnit.unit) < mu55a (a0, a1, ())))
        (guardB (pre56a a0 (IntKind.i64.wrap (a1 + 1)))
          (bif !(List.drop ((IntKind.i64.wrap (a1 + 1)).toNat * 4) a0).any badG then
            some (Xt.exit 0, [PV.undef], [Blk.row false (Kd.int IntKind.i64) a0])
          else some (Xt.ret, [PV.sc (Value.int IntKind.i64 4)], [Blk.row false (Kd.int IntKind.i64) a0])))
    else some (Xt.ret, [PV.sc (Value.int IntKind.i64 4)], [Blk.row false (Kd.int IntKind.i64) a0]))
else some (Xt.exit 0, [PV.undef], [Blk.row false (Kd.int IntKind.i64) a0])) := by kernel_rfl
noncomputable abbrev a55bL (a0 : List (ByteArray × Int × Int × Int)) (a1 : Bool) (a2 : Int) (a3 : Int) := evRound Try.prog TIn noCuts 50 (loopOf (codeAt 4 (bodyF Try.f34))) k56b mu56b (killA 0 k56b) [27, 28, 29] [4] c56b ((a0, a1), (a2, (a3, ())))
theorem a55b (a0 : List (ByteArray × Int × Int × Int)) (a1 : Bool) (a2 : Int) (a3 : Int) : a55bL a0 a1 a2 a3 = (bif decide (a3 < a2) then
  guardB (decide (0 ≤ a3) && decide (a3 < (↑a0.length : Int)))
    (bindO a0[0 + a3.toNat]? fun x =>
      bif !inS x.snd.fst 0 3 then
        some
          (Xt.ret, [PV.sc (Value.int IntKind.i64 4)],
            [Blk.row false (Kd.str.pair ((Kd.int IntKind.i64).pair ((Kd.int IntKind.i64).pair (Kd.int IntKind.i64))))
                a0])
      else
        bif !inS x.snd.snd.fst 0 200000 then
          some
            (Xt.ret, [PV.sc (Value.int IntKind.i64 4)],
              [Blk.row false (Kd.str.pair ((Kd.int IntKind.i64).pair ((Kd.int IntKind.i64).pair (Kd.int IntKind.i64))))
                  a0])
        else
          bif !inS x.snd.snd.snd 0 200000 then
            some
              (Xt.ret, [PV.sc (Value.int IntKind.i64 4)],
                [Blk.row false
                    (Kd.str.pair ((Kd.int IntKind.i64).pair ((Kd.int IntKind.i64).pair (Kd.int IntKind.i64)))) a0])
          else
            guardB
              (decide
                (mu56b ((List.take a0.length a0, a1), a2, IntKind.i64.wrap (a3 + 1), PUnit.unit) <
                  mu56b ((a0, a1), a2, a3, ())))
              (guardB
                (bif decide (0 + a0.length ≤ a0.length) then
                  pre56b (List.take a0.length a0) a2 (IntKind.i64.wrap (a3 + 1))
                else false)
                (bif !(List.drop (IntKind.i64.wrap (a3 + 1)).toNat (List.take a0.length a0)).any badA then
                  some
                    (Xt.exit 4, [PV.undef],
                      [Blk.row false
                          (Kd.str.pair ((Kd.int IntKind.i64).pair ((Kd.int IntKind.i64).pair (Kd.int IntKind.i64))))
                          a0])
                else
                  some
                    (Xt.ret, [PV.sc (Value.int IntKind.i64 4)],
                      [Blk.row false
                          (Kd.str.pair ((Kd.int IntKind.i64).pair ((Kd.int IntKind.i64).pair (Kd.int IntKind.i64))))
                          a0]))))
else
  some
    (Xt.exit 4, [PV.undef],
      [Blk.row false (Kd.str.pair ((Kd.int IntKind.i64).pair ((Kd.int IntKind.i64).pair (Kd.int IntKind.i64)))) a0])) := by kernel_rfl
noncomputable abbrev a55L (a0 : List (ByteArray × Int × Int × Int)) (a1 : Bool) (a2 : List Int) := evFuncV Try.prog TIn cuts55 Try.f34 (killA 0 kC) (showA 0 kC ((a0, a1), (a2, ()))).1 (showA 0 kC ((a0, a1), (a2, ()))).2
theorem a55 (a0 : List (ByteArray × Int × Int × Int)) (a1 : Bool) (a2 : List Int) : a55L a0 a1 a2 = (bif decide ((↑a0.length : Int) > 32) then
  some
    (PV.sc (Value.int IntKind.i64 2),
      [Blk.row false (Kd.str.pair ((Kd.int IntKind.i64).pair ((Kd.int IntKind.i64).pair (Kd.int IntKind.i64)))) a0])
else
  guardB (pre56a a2 0)
    (bif !(List.drop (Int.toNat 0 * 4) a2).any badG then
      guardB
        (bif decide (0 + a0.length ≤ a0.length) then pre56b (List.take a0.length a0) (↑a0.length : Int) 0 else false)
        (bif !(List.drop (Int.toNat 0) (List.take a0.length a0)).any badA then
          some
            (PV.sc (Value.int IntKind.i64 0),
              [Blk.row false (Kd.str.pair ((Kd.int IntKind.i64).pair ((Kd.int IntKind.i64).pair (Kd.int IntKind.i64))))
                  a0])
        else
          some
            (PV.sc (Value.int IntKind.i64 4),
              [Blk.row false (Kd.str.pair ((Kd.int IntKind.i64).pair ((Kd.int IntKind.i64).pair (Kd.int IntKind.i64))))
                  a0]))
    else
      some
        (PV.sc (Value.int IntKind.i64 4),
          [Blk.row false (Kd.str.pair ((Kd.int IntKind.i64).pair ((Kd.int IntKind.i64).pair (Kd.int IntKind.i64))))
              a0]))) := by kernel_rfl
noncomputable abbrev a85iL (a0 : List Int) (a1 : List Int) (a2 : Bool) (a3 : ByteArray) (a4 : Int) (a5 : Int) (a6 : Int) (a7 : Int) (a8 : List (ByteArray × Int × Int × Int)) (a9 : Bool) (a10 : Int) (a11 : Int) := evRound Try.prog T0 noCuts 50 (loopOf (codeAt 2 (bodyF Try.f123))) k85i mu85i (killA 0 k85i) [3, 5, 7, 8, 22, 23, 24] [8] c85i (a0, ((a1, a2), ((a3, (a4, (a5, a6))), (a7, ((a8, a9), (a10, (a11, ())))))))
theorem a85i (a0 : List Int) (a1 : List Int) (a2 : Bool) (a3 : ByteArray) (a4 : Int) (a5 : Int) (a6 : Int) (a7 : Int) (a8 : List (ByteArray × Int × Int × Int)) (a9 : Bool) (a10 : Int) (a11 : Int) : a85iL a0 a1 a2 a3 a4 a5 a6 a7 a8 a9 a10 a11 = (bif decide (a11 < a10) then
  guardB (decide (0 ≤ a11) && decide (a11 < (↑a8.length : Int)))
    (bindO a8[0 + a11.toNat]? fun x =>
      guardB (decide (0 ≤ a11) && decide (a11 < (↑a1.length : Int)))
        (bindO a1[0 + a11.toNat]? fun x_1 =>
          guardB (decide (0 ≤ x.snd.fst) && decide (x.snd.fst < 4))
            (guardB (decide (0 ≤ a4) && decide (a4 < 4))
              (bindO a0[0 + Int.toNat x.snd.fst * 4 + a4.toNat * 1]? fun x =>
                guardB
                  (decide
                    (mu85i
                        (a0, (List.take a1.length a1, a2), (a3, a4, a5, a6), max a7 (IntKind.i64.wrap (x_1 + x)),
                          (List.take a8.length a8, a9), a10, IntKind.i64.wrap (a11 + 1), PUnit.unit) <
                      mu85i (a0, (a1, a2), (a3, a4, a5, a6), a7, (a8, a9), a10, a11, ())))
                  (guardB
                    (bif decide (0 + a1.length ≤ a1.length) then
                      bif decide (0 + a8.length ≤ a8.length) then
                        pre85i a0 (List.take a1.length a1) a4 (max a7 (IntKind.i64.wrap (x_1 + x)))
                          (List.take a8.length a8) a10 (IntKind.i64.wrap (a11 + 1))
                      else false
                    else false)
                    (some
                      (Xt.exit 2,
                        [PV.sc
                            (Value.int IntKind.i64
                              (innerS a0 a4 (List.drop (IntKind.i64.wrap (a11 + 1)).toNat (List.take a1.length a1))
                                (List.drop (IntKind.i64.wrap (a11 + 1)).toNat (List.take a8.length a8))
                                (max a7 (IntKind.i64.wrap (x_1 + x)))))],
                        [Blk.row false (Kd.int IntKind.i64) a0, Blk.row false (Kd.int IntKind.i64) a1,
                          Blk.fix false
                            [PV.sc (Value.string a3), PV.sc (Value.int IntKind.i64 a4),
                              PV.sc (Value.int IntKind.i64 a5), PV.sc (Value.int IntKind.i64 a6)],
                          Blk.row false
                            (Kd.str.pair ((Kd.int IntKind.i64).pair ((Kd.int IntKind.i64).pair (Kd.int IntKind.i64))))
                            a8])))))))
else
  some
    (Xt.exit 2, [PV.sc (Value.int IntKind.i64 a7)],
      [Blk.row false (Kd.int IntKind.i64) a0, Blk.row false (Kd.int IntKind.i64) a1,
        Blk.fix false
          [PV.sc (Value.string a3), PV.sc (Value.int IntKind.i64 a4), PV.sc (Value.int IntKind.i64 a5),
            PV.sc (Value.int IntKind.i64 a6)],
        Blk.row false (Kd.str.pair ((Kd.int IntKind.i64).pair ((Kd.int IntKind.i64).pair (Kd.int IntKind.i64)))) a8])) := by kernel_rfl
noncomputable abbrev a85oL (a0 : List (ByteArray × Int × Int × Int)) (a1 : Bool) (a2 : List Int) (a3 : List Int) (a4 : Bool) (a5 : List (ByteArray × Int × Int × Int)) (a6 : Bool) (a7 : Int) (a8 : Int) := evRound Try.prog T0 (addCut 2 [3, 5, 7, 8, 22, 23, 24] [8] (entC k85i c85i) noCuts) 50 (loopOf (codeAt 0 (bodyF Try.f123))) k85 mu85 (killA 0 k85) [0, 3, 5, 11, 12, 13] [5] c85 ((a0, a1), (a2, ((a3, a4), ((a5, a6), (a7, (a8, ()))))))
theorem a85o (a0 : List (ByteArray × Int × Int × Int)) (a1 : Bool) (a2 : List Int) (a3 : List Int) (a4 : Bool) (a5 : List (ByteArray × Int × Int × Int)) (a6 : Bool) (a7 : Int) (a8 : Int) : a85oL a0 a1 a2 a3 a4 a5 a6 a7 a8 = (bif decide (a8 < a7) then
  guardB (decide (0 ≤ a8) && decide (a8 < (↑a5.length : Int)))
    (bindO a5[0 + a8.toNat]? fun x =>
      guardB (decide (0 ≤ a8) && decide (a8 ≤ (↑a0.length : Int)))
        (guardB
          (bif decide (0 + a3.length ≤ a3.length) then
            bif decide (0 + (a8.toNat - 0) ≤ a0.length) then
              pre85i a2 (List.take a3.length a3) x.snd.fst x.snd.snd.fst (List.take (a8.toNat - 0) a0)
                (↑(a8.toNat - 0) : Int) 0
            else false
          else false)
          (guardB
            (decide (0 + a3.length ≤ a3.length) && true && decide ((a3.length + 1) * 8 ≤ 140737488355328) &&
              decide (a3.length + 1 ≤ 4611686018427387904))
            (guardB
              (decide
                (mu85
                    ((List.take a0.length a0, a1), a2,
                      (List.take a3.length a3 ++
                          [innerS a2 x.snd.fst (List.drop (Int.toNat 0) (List.take a3.length a3))
                              (List.drop (Int.toNat 0) (List.take (a8.toNat - 0) a0)) x.snd.snd.fst],
                        false),
                      (List.take a5.length a5, a6), a7, IntKind.i64.wrap (a8 + 1), PUnit.unit) <
                  mu85 ((a0, a1), a2, (a3, a4), (a5, a6), a7, a8, ())))
              (guardB
                (bif decide (0 + a0.length ≤ a0.length) then
                  bif
                      decide
                        (a3.length + 1 =
                          (List.take a3.length a3 ++
                              [innerS a2 x.snd.fst (List.drop (Int.toNat 0) (List.take a3.length a3))
                                  (List.drop (Int.toNat 0) (List.take (a8.toNat - 0) a0)) x.snd.snd.fst]).length) then
                    bif decide (0 + a5.length ≤ a5.length) then
                      pre85 (List.take a0.length a0) a2
                        (List.take a3.length a3 ++
                          [innerS a2 x.snd.fst (List.drop (Int.toNat 0) (List.take a3.length a3))
                              (List.drop (Int.toNat 0) (List.take (a8.toNat - 0) a0)) x.snd.snd.fst])
                        (List.take a5.length a5) a7 (IntKind.i64.wrap (a8 + 1))
                    else false
                  else false
                else false)
                (some
                  (Xt.exit 0,
                    [PV.sl 4 0 1 (timesS a2 (List.take a0.length a0)).length (timesS a2 (List.take a0.length a0)).length
                        false false],
                    [Blk.row false
                        (Kd.str.pair ((Kd.int IntKind.i64).pair ((Kd.int IntKind.i64).pair (Kd.int IntKind.i64)))) a0,
                      Blk.row false (Kd.int IntKind.i64) a2, Blk.dead,
                      Blk.row false
                        (Kd.str.pair ((Kd.int IntKind.i64).pair ((Kd.int IntKind.i64).pair (Kd.int IntKind.i64)))) a5,
                      Blk.row true (Kd.int IntKind.i64) (timesS a2 (List.take a0.length a0))])))))))
else
  some
    (Xt.exit 0, [PV.sl 4 0 1 a3.length a3.length false a4],
      [Blk.row false (Kd.str.pair ((Kd.int IntKind.i64).pair ((Kd.int IntKind.i64).pair (Kd.int IntKind.i64)))) a0,
        Blk.row false (Kd.int IntKind.i64) a2, Blk.dead,
        Blk.row false (Kd.str.pair ((Kd.int IntKind.i64).pair ((Kd.int IntKind.i64).pair (Kd.int IntKind.i64)))) a5,
        Blk.row true (Kd.int IntKind.i64) a3])) := by kernel_rfl
noncomputable abbrev a85L (a0 : List (ByteArray × Int × Int × Int)) (a1 : Bool) (a2 : List Int) := evFuncV Try.prog TC (addCut 0 [0, 3, 5, 11, 12, 13] [5] (entC k85 c85) noCuts) Try.f123 (killA 0 kC) (showA 0 kC ((a0, a1), (a2, ()))).1 (showA 0 kC ((a0, a1), (a2, ()))).2
theorem a85 (a0 : List (ByteArray × Int × Int × Int)) (a1 : Bool) (a2 : List Int) : a85L a0 a1 a2 = (guardB
  (bif decide (0 + a0.length ≤ a0.length) then
    bif decide (0 + a0.length ≤ a0.length) then
      pre85 (List.take a0.length a0) a2 [] (List.take a0.length a0) (↑a0.length : Int) 0
    else false
  else false)
  (some
    (PV.sl 1 0 1 (timesS a2 (List.take a0.length a0)).length (timesS a2 (List.take a0.length a0)).length false
        (decide (0 = (↑a0.length : Int))),
      [Blk.row false (Kd.str.pair ((Kd.int IntKind.i64).pair ((Kd.int IntKind.i64).pair (Kd.int IntKind.i64)))) a0,
        Blk.row true (Kd.int IntKind.i64) (timesS a2 (List.take a0.length a0))]))) := by kernel_rfl
theorem drop_cons {α : Type} {l : List α} {k : Nat} {x : α} (h : l[k]? = some x) : l.drop k = x :: l.drop (k + 1) := by
  obtain ⟨hk, rfl⟩ := List.getElem?_eq_some_iff.1 h
  exact List.drop_eq_getElem_cons hk
theorem any_drop {α : Type} {l : List α} {k : Nat} {x : α} (p : α → Bool) (h : l[k]? = some x) : (l.drop k).any p = (p x || (l.drop (k + 1)).any p) := by
  rw [drop_cons h, List.any_cons]
theorem get_ex {α : Type} {l : List α} {k : Nat} (h : k < l.length) : ∃ x, l[k]? = some x := ⟨l[k], List.getElem?_eq_getElem h⟩
theorem fun_guard {b : Bool} {α : Type} {x z : Option α} (h1 : b = true) (h2 : x = z) : guardB b x = z := guard_split h1 h2
theorem p24 (a b c : Int) : a24L a b c = some (PV.sc (Value.bool (inS a b c)), []) := by
  rw [a24]; unfold inS
  refine cond_split (fun h => ?_) (fun h => ?_)
  all_goals (simp only [decide_eq_true_eq, decide_eq_false_iff_not] at h)
  · congr 4; exact decide_eq_decide.mpr (by omega)
  · congr 4; symm; rw [decide_eq_false_iff_not]; omega
theorem p56c (r : List Int) (k : Int) (h : pre56c r k = true) : a56cL r k = pickA (c56c (r, k, ())).2 := by
  obtain ⟨h1, h2, h3⟩ := of_decide_eq_true h
  show _ = cond (!(r.drop k.toNat).any badG) (some (Xt.exit 2, [PV.undef], [])) (some (Xt.ret, [PV.sc (.int .i64 4)], []))
  rw [a56c]
  refine cond_split (fun h => ?_) (fun h => ?_)
  · have h := of_decide_eq_true h
    obtain ⟨x, hx⟩ := get_ex (l := r) (k := k.toNat) (by omega)
    refine guard_split (by simp; omega) ?_
    rw [any_drop badG hx, hx]
    simp only [bindO]
    rw [IntWalk.i64_in (k + 1) (by omega), show (k + 1).toNat = k.toNat + 1 by omega]
    have hp : pre56c r (k + 1) = true := decide_eq_true (by omega)
    have hmu : decide (mu56c (r, k + 1, ()) < mu56c (r, k, ())) = true := decide_eq_true (show (4 - (k + 1)).toNat < (4 - k).toNat by omega)
    unfold badG
    generalize decide (x < 0) = b1, decide (x > 1000) = b2
    cases b1 <;> cases b2 <;> first | rfl | exact guard_split hmu (guard_split hp rfl)
  · have h := of_decide_eq_false h
    rw [List.drop_eq_nil_of_le (by omega)]; rfl
theorem seg4 (g : List Int) (k : Nat) (h : g.length = 16) (hk : k < 4) : List.take 4 (splice [0, 0, 0, 0] 0 (List.take 4 (List.drop (k * 4) g))) = List.take 4 (List.drop (k * 4) g) := by
  have hl : (List.take 4 (List.drop (k * 4) g)).length = 4 := by rw [List.length_take, List.length_drop]; omega
  unfold splice
  rw [List.take_zero, List.nil_append, hl]
  rw [List.take_append_of_le_length (by omega), List.take_of_length_le (by omega)]
theorem any_four (g : List Int) (k : Nat) (h : g.length = 16) (hk : k < 4) : (g.drop (k * 4)).any badG = ((List.take 4 (List.drop (k * 4) g)).any badG || (g.drop ((k + 1) * 4)).any badG) := by
  rw [show (k + 1) * 4 = k * 4 + 4 by omega, ← List.drop_drop, ← List.any_append, List.take_append_drop]
theorem p56a (g : List Int) (k : Int) (h : pre56a g k = true) : a56aL g k = pickA (c56a (g, k, ())).2 := by
  obtain ⟨h1, h2, h3⟩ := of_decide_eq_true h
  show _ = cond (!(g.drop (k.toNat * 4)).any badG) (some (Xt.exit 0, [PV.undef], [])) (some (Xt.ret, [PV.sc (.int .i64 4)], []))
  rw [a56a]
  refine cond_split (fun h => ?_) (fun h => ?_)
  · have h := of_decide_eq_true h
    have hl : (List.take 4 (List.drop (k.toNat * 4) g)).length = 4 := by rw [List.length_take, List.length_drop]; omega
    have hs : (splice [0, 0, 0, 0] 0 (List.take 4 (List.drop (k.toNat * 4) g))).length = 4 := by
      unfold splice
      rw [List.take_zero, List.nil_append, hl]; simp [hl]
    refine guard_split (by simp; omega) (guard_split (decide_eq_true (by omega)) ?_)
    rw [seg4 g k.toNat h1 (by omega), any_four g k.toNat h1 (by omega), show Int.toNat 0 = 0 from rfl, List.drop_zero]
    rw [IntWalk.i64_in (k + 1) (by omega), show (k + 1).toNat = k.toNat + 1 by omega]
    refine guard_split (decide_eq_true ⟨hl, by omega, by omega⟩) ?_
    have hp : pre56a g (k + 1) = true := decide_eq_true (by omega)
    have hmu : decide (mu56a (g, k + 1, ()) < mu56a (g, k, ())) = true := decide_eq_true (show (4 - (k + 1)).toNat < (4 - k).toNat by omega)
    generalize (List.take 4 (List.drop (k.toNat * 4) g)).any badG = b1
    cases b1
    · exact guard_split hmu (guard_split hp rfl)
    · rfl
  · have h := of_decide_eq_false h
    rw [List.drop_eq_nil_of_le (by omega)]; rfl
theorem p56b (l : List Item) (nl : Bool) (n k : Int) (h : pre56b l n k = true) : a56bL l nl n k = pickA (c56b ((l, nl), n, k, ())).2 := by
  obtain ⟨h1, h2, h3, h4⟩ := of_decide_eq_true h
  show _ = cond (!(l.drop k.toNat).any badA) (some (Xt.exit 4, [PV.undef], [Blk.row false kA l])) (some (Xt.ret, [PV.sc (.int .i64 4)], [Blk.row false kA l]))
  rw [a56b]
  refine cond_split (fun h => ?_) (fun h => ?_)
  · have h := of_decide_eq_true h
    obtain ⟨x, hx⟩ := get_ex (l := l) (k := k.toNat) (by omega)
    refine guard_split (by simp; omega) ?_
    rw [any_drop badA hx, Nat.zero_add, hx]
    simp only [bindO, List.take_length, Nat.zero_add]
    rw [IntWalk.i64_in (k + 1) (by omega), show (k + 1).toNat = k.toNat + 1 by omega, show decide (l.length ≤ l.length) = true by simp]
    have hp : pre56b l n (k + 1) = true := decide_eq_true (by omega)
    have hmu : decide (mu56b ((l, nl), n, k + 1, ()) < mu56b ((l, nl), n, k, ())) = true := decide_eq_true (show (n - (k + 1)).toNat < (n - k).toNat by omega)
    unfold badA
    generalize decide (x.2.1 < 0) = b1, decide (x.2.1 > 3) = b2, decide (x.2.2.1 < 0) = b3, decide (x.2.2.1 > 200000) = b4, decide (x.2.2.2 < 0) = b5, decide (x.2.2.2 > 200000) = b6
    cases b1
    case true => rfl
    cases b2
    case true => rfl
    cases b3
    case true => rfl
    cases b4
    case true => rfl
    cases b5
    case true => rfl
    cases b6
    case true => rfl
    exact guard_split hmu (guard_split hp rfl)
  · have h := of_decide_eq_false h
    rw [List.drop_eq_nil_of_le (by omega)]; rfl
theorem p56 (l : List Item) (nl : Bool) (g : List Int) (h : preL g = true) : a56L l nl g = some (PV.sc (.int .i64 (errS l g)), [Blk.row false kA l]) := by
  have hg := of_decide_eq_true h
  rw [a56]
  unfold errS
  rw [show decide ((l.length : Int) > 32) = decide (l.length > 32) from decide_eq_decide.mpr (by omega)]
  refine cond_split (fun h => by rw [h]; rfl) (fun h => ?_)
  rw [h]
  have h := of_decide_eq_false h
  have ht : List.take 16 g = g := List.take_of_length_le (by omega)
  try rw [ht]
  simp only [List.take_length, Nat.zero_add, show Int.toNat 0 = 0 from rfl, List.drop_zero, Nat.zero_mul]
  repeat' (first | exact decide_eq_true (by omega) | refine guard_split (b := decide (16 ≤ g.length)) (decide_eq_true (by omega)) ?_)
  refine guard_split (decide_eq_true ⟨hg, by omega, by omega⟩) ?_
  generalize g.any badG = b1
  cases b1
  case true => rfl
  refine guard_split ?_ ?_
  · rw [show decide (l.length ≤ l.length) = true by simp]
    exact decide_eq_true (by omega)
  · generalize l.any badA = b2
    cases b2 <;> rfl
theorem inS_bad (x : Int) : (!inS x 0 1000) = badG x := by
  unfold inS badG
  rw [Bool.eq_iff_iff]
  simp
theorem p55c (g : List Int) (a k : Int) (h : pre55c g a k = true) : a55cL g a k = pickA (c55c (g, a, k, ())).2 := by
  obtain ⟨h1, h2, h3, h4, h5⟩ := of_decide_eq_true h
  show _ = cond (!((g.drop (a.toNat * 4 + k.toNat)).take (4 - k.toNat)).any badG) (some (Xt.exit 2, [PV.undef], [Blk.row false I g])) (some (Xt.ret, [PV.sc (.int .i64 4)], [Blk.row false I g]))
  rw [a55c]
  refine cond_split (fun h => ?_) (fun h => ?_)
  · have h := of_decide_eq_true h
    obtain ⟨x, hx⟩ := get_ex (l := g) (k := a.toNat * 4 + k.toNat) (by omega)
    refine guard_split (by simp; omega) (guard_split (by simp; omega) ?_)
    rw [Nat.zero_add, Nat.mul_one, hx, drop_cons hx, show 4 - k.toNat = (4 - (k.toNat + 1)) + 1 by omega, List.take_succ_cons, List.any_cons]
    simp only [bindO]
    rw [inS_bad, IntWalk.i64_in (k + 1) (by omega), show (k + 1).toNat = k.toNat + 1 by omega, ← Nat.add_assoc]
    have hp : pre55c g a (k + 1) = true := decide_eq_true (by omega)
    have hmu : decide (mu55c (g, a, k + 1, ()) < mu55c (g, a, k, ())) = true := decide_eq_true (show (4 - (k + 1)).toNat < (4 - k).toNat by omega)
    cases badG x
    · exact guard_split hmu (guard_split hp rfl)
    · rfl
  · have h := of_decide_eq_false h
    rw [show 4 - k.toNat = 0 by omega]; rfl
theorem p55a (g : List Int) (k : Int) (h : pre56a g k = true) : a55aL g k = pickA (c55a (g, k, ())).2 := by
  obtain ⟨h1, h2, h3⟩ := of_decide_eq_true h
  show _ = cond (!(g.drop (k.toNat * 4)).any badG) (some (Xt.exit 0, [PV.undef], [Blk.row false I g])) (some (Xt.ret, [PV.sc (.int .i64 4)], [Blk.row false I g]))
  rw [a55a]
  refine cond_split (fun h => ?_) (fun h => ?_)
  · have h := of_decide_eq_true h
    rw [any_four g k.toNat h1 (by omega), show Int.toNat 0 = 0 from rfl, Nat.add_zero, Nat.sub_zero]
    rw [IntWalk.i64_in (k + 1) (by omega), show (k + 1).toNat = k.toNat + 1 by omega]
    refine guard_split (decide_eq_true ⟨h1, by omega, by omega, by omega, by omega⟩) ?_
    have hp : pre56a g (k + 1) = true := decide_eq_true (by omega)
    have hmu : decide (mu55a (g, k + 1, ()) < mu55a (g, k, ())) = true := decide_eq_true (show (4 - (k + 1)).toNat < (4 - k).toNat by omega)
    generalize (List.take 4 (List.drop (k.toNat * 4) g)).any badG = b1
    cases b1
    · exact guard_split hmu (guard_split hp rfl)
    · rfl
  · have h := of_decide_eq_false h
    rw [List.drop_eq_nil_of_le (by omega)]; rfl
theorem inS_badA (x : Item) : badA x = (!inS x.2.1 0 3 || (!inS x.2.2.1 0 200000 || !inS x.2.2.2 0 200000)) := by
  unfold inS badA
  rw [Bool.eq_iff_iff]
  simp; omega
theorem p55b (l : List Item) (nl : Bool) (n k : Int) (h : pre56b l n k = true) : a55bL l nl n k = pickA (c56b ((l, nl), n, k, ())).2 := by
  obtain ⟨h1, h2, h3, h4⟩ := of_decide_eq_true h
  show _ = cond (!(l.drop k.toNat).any badA) (some (Xt.exit 4, [PV.undef], [Blk.row false kA l])) (some (Xt.ret, [PV.sc (.int .i64 4)], [Blk.row false kA l]))
  rw [a55b]
  refine cond_split (fun h => ?_) (fun h => ?_)
  · have h := of_decide_eq_true h
    obtain ⟨x, hx⟩ := get_ex (l := l) (k := k.toNat) (by omega)
    refine guard_split (by simp; omega) ?_
    rw [any_drop badA hx, Nat.zero_add, hx, inS_badA]
    simp only [bindO, List.take_length, Nat.zero_add]
    rw [IntWalk.i64_in (k + 1) (by omega), show (k + 1).toNat = k.toNat + 1 by omega, show decide (l.length ≤ l.length) = true by simp]
    have hp : pre56b l n (k + 1) = true := decide_eq_true (by omega)
    have hmu : decide (mu56b ((l, nl), n, k + 1, ()) < mu56b ((l, nl), n, k, ())) = true := decide_eq_true (show (n - (k + 1)).toNat < (n - k).toNat by omega)
    generalize inS x.2.1 0 3 = b1, inS x.2.2.1 0 200000 = b2, inS x.2.2.2 0 200000 = b3
    cases b1
    case false => rfl
    cases b2
    case false => rfl
    cases b3
    case false => rfl
    exact guard_split hmu (guard_split hp rfl)
  · have h := of_decide_eq_false h
    rw [List.drop_eq_nil_of_le (by omega)]; rfl
theorem p55 (l : List Item) (nl : Bool) (g : List Int) (h : preL g = true) : a55L l nl g = some (PV.sc (.int .i64 (errS l g)), [Blk.row false kA l]) := by
  have hg := of_decide_eq_true h
  rw [a55]
  unfold errS
  rw [show decide ((l.length : Int) > 32) = decide (l.length > 32) from decide_eq_decide.mpr (by omega)]
  refine cond_split (fun h => by rw [h]; rfl) (fun h => ?_)
  rw [h]
  have h := of_decide_eq_false h
  simp only [List.take_length, Nat.zero_add, show Int.toNat 0 = 0 from rfl, List.drop_zero, Nat.zero_mul]
  refine guard_split (decide_eq_true ⟨hg, by omega, by omega⟩) ?_
  generalize g.any badG = b1
  cases b1
  case true => rfl
  refine guard_split ?_ ?_
  · rw [show decide (l.length ≤ l.length) = true by simp]
    exact decide_eq_true (by omega)
  · generalize l.any badA = b2
    cases b2 <;> rfl
/-! ### The times -/
theorem fine_at {l : List Item} {g : List Int} (h : Fine l g) : g.length = 16 ∧ l.length ≤ 32 ∧ g.any badG = false ∧ l.any badA = false := by
  obtain ⟨h1, h2⟩ := h
  unfold errS at h2
  cases e1 : decide (l.length > 32) with
  | true => rw [e1] at h2; simp at h2
  | false =>
    rw [e1] at h2
    cases e2 : g.any badG with
    | true => rw [e2] at h2; simp at h2
    | false =>
      rw [e2] at h2
      cases e3 : l.any badA with
      | true => rw [e3] at h2; simp at h2
      | false => exact ⟨h1, by have := of_decide_eq_false e1; omega, rfl, rfl⟩
theorem gp_bd {g : List Int} (h : g.any badG = false) (a b : Int) : 0 ≤ gp g a b ∧ gp g a b ≤ 1000 := by
  unfold gp
  cases hx : g[a.toNat * 4 + b.toNat]? with
  | none => simp
  | some x =>
    have := List.any_eq_false.1 h x (List.mem_of_getElem? hx)
    unfold badG at this
    simp at this
    simp; omega
theorem inner_bd {g : List Int} (hg : g.any badG = false) (w B : Int) : ∀ (A : List Int) (ys : List Item) (t : Int), (∀ o ∈ A, 0 ≤ o ∧ o ≤ B) → 0 ≤ t → t ≤ B + 1000 → 0 ≤ innerS g w A ys t ∧ innerS g w A ys t ≤ B + 1000
  | [], ys, t, _, h1, h2 => by cases ys <;> exact ⟨h1, h2⟩
  | o :: os, [], t, _, h1, h2 => ⟨h1, h2⟩
  | o :: os, y :: ys, t, hA, h1, h2 => by
    have := gp_bd hg y.2.1 w
    have ho := hA o List.mem_cons_self
    unfold innerS
    exact inner_bd hg w B os ys _ (fun z hz => hA z (List.mem_cons_of_mem _ hz)) (by omega) (by omega)
theorem badA_at {x : Item} (h : badA x = false) : 0 ≤ x.2.1 ∧ x.2.1 ≤ 3 ∧ 0 ≤ x.2.2.1 ∧ x.2.2.1 ≤ 200000 ∧ 0 ≤ x.2.2.2 ∧ x.2.2.2 ≤ 200000 := by
  unfold badA at h
  simp at h; omega
theorem any_get {α : Type} {l : List α} {p : α → Bool} {k : Nat} {x : α} (h : l.any p = false) (hx : l[k]? = some x) : p x = false := by
  have := List.any_eq_false.1 h x (List.mem_of_getElem? hx)
  simpa using this
theorem times_bd {g : List Int} {l : List Item} (hg : g.any badG = false) (hl : l.any badA = false) : ∀ (i : Nat), ∀ o ∈ timesK g l i, 0 ≤ o ∧ o ≤ 200000 + 1000 * i
  | 0, o, h => by simp [timesK] at h
  | i + 1, o, h => by
    unfold timesK at h
    split at h
    · rename_i x hx
      rcases List.mem_append.1 h with h | h
      · have := times_bd hg hl i o h; push_cast; omega
      · rw [List.mem_singleton] at h
        subst h
        have hb := badA_at (any_get hl hx)
        have := inner_bd hg x.2.1 (200000 + 1000 * i) (timesK g l i) (l.take i) x.2.2.1 (times_bd hg hl i) (by omega) (by omega)
        push_cast; omega
    · have := times_bd hg hl i o h; push_cast; omega
theorem times_len {g : List Int} {l : List Item} : ∀ (i : Nat), i ≤ l.length → (timesK g l i).length = i
  | 0, _ => rfl
  | i + 1, h => by
    unfold timesK
    obtain ⟨x, hx⟩ := get_ex (l := l) (k := i) (by omega)
    rw [hx]
    simp only [List.length_append, List.length_cons, List.length_nil]
    rw [times_len i (by omega)]
theorem inner_drop {g : List Int} {w t : Int} {A : List Int} {ys : List Item} {k : Nat} {o : Int} {y : Item} (h1 : A[k]? = some o) (h2 : ys[k]? = some y) : innerS g w (A.drop k) (ys.drop k) t = innerS g w (A.drop (k + 1)) (ys.drop (k + 1)) (max t (o + gp g y.2.1 w)) := by
  rw [drop_cons h1, drop_cons h2]; rfl
theorem p85i (g A : List Int) (nA : Bool) (xc : ByteArray) (w xr xs t : Int) (ys : List Item) (ny : Bool) (n k : Int) (h : pre85i g A w t ys n k = true) :
    a85iL g A nA xc w xr xs t ys ny n k = some (Xt.exit 2, [PV.sc (.int .i64 (innerS g w (A.drop k.toNat) (ys.drop k.toNat) t))], [Blk.row false I g, Blk.row false I A, Blk.fix false [.sc (.string xc), .sc (.int .i64 w), .sc (.int .i64 xr), .sc (.int .i64 xs)], Blk.row false kA ys]) := by
  obtain ⟨h1, h2, h3, h4, h5, h6, h7, h8, h9, h10, h11, h12, h13⟩ := bp_true.1 h
  rw [a85i]
  refine cond_split (fun h => ?_) (fun h => ?_)
  · have h := of_decide_eq_true h
    obtain ⟨y, hy⟩ := get_ex (l := ys) (k := k.toNat) (by omega)
    obtain ⟨o, ho⟩ := get_ex (l := A) (k := k.toNat) (by omega)
    have hb := badA_at (any_get h4 hy)
    have hob := h9 o (List.mem_of_getElem? ho)
    obtain ⟨e, he⟩ := get_ex (l := g) (k := y.2.1.toNat * 4 + w.toNat) (by omega)
    have hgp : gp g y.2.1 w = e := by unfold gp; rw [he]; rfl
    have hgb := gp_bd h2 y.2.1 w
    rw [hgp] at hgb
    rw [inner_drop ho hy, hgp]
    refine guard_split (by simp; omega) ?_
    rw [Nat.zero_add, hy]
    simp only [bindO]
    refine guard_split (by simp; omega) ?_
    rw [ho]
    simp only [bindO]
    refine guard_split (by simp; omega) (guard_split (by simp; omega) ?_)
    rw [Nat.zero_add, Nat.mul_one, he]
    simp only [bindO, List.take_length, Nat.zero_add]
    rw [IntWalk.i64_in (k + 1) (by omega), IntWalk.i64_in (o + e) (by omega), show (k + 1).toNat = k.toNat + 1 by omega]
    refine guard_split ?_ (guard_split ?_ rfl)
    · exact decide_eq_true (show (n - (k + 1)).toNat < (n - k).toNat by omega)
    · rw [show decide (A.length ≤ A.length) = true by simp, show decide (ys.length ≤ ys.length) = true by simp]
      exact bp_mk ⟨h1, h2, h3, h4, h5, h6, by omega, by omega, h9, h10, by omega, by omega, h13⟩
  · have h := of_decide_eq_false h
    rw [List.drop_eq_nil_of_le (show A.length ≤ k.toNat by omega)]
    cases ys.drop k.toNat <;> rfl
theorem sl_eq4 {e : Xt} {n s : Nat} {k : Kd} {b : Bool} {A B : List k.den} {H : List Blk} (h : A = B) : some (e, [PV.sl n 0 s A.length A.length false b], H ++ [Blk.row true k A]) = some (e, [PV.sl n 0 s B.length B.length false b], H ++ [Blk.row true k B]) := by rw [h]
theorem p85o (l : List Item) (nl : Bool) (g out : List Int) (no : Bool) (l2 : List Item) (nl2 : Bool) (n k : Int) (h : pre85 l g out l2 n k = true) :
    a85oL l nl g out no l2 nl2 n k = some (Xt.exit 0, [PV.sl 4 0 1 (timesS g l).length (timesS g l).length false (no && decide (k = n))], [Blk.row false kA l, Blk.row false I g, .dead, Blk.row false kA l2] ++ [Blk.row true I (timesS g l)]) := by
  obtain ⟨hf, rfl, ho, hn, h1, h2⟩ := bp_true.1 h
  obtain ⟨f1, f2, f3, f4⟩ := fine_at hf
  rw [a85o]
  refine cond_split (fun h => ?_) (fun h => ?_)
  · have h := of_decide_eq_true h
    obtain ⟨x, hx⟩ := get_ex (l := l) (k := k.toNat) (by omega)
    have hb := badA_at (any_get f4 hx)
    have hlen : out.length = k.toNat := by rw [ho, times_len _ (by omega)]
    have hbd := times_bd (l := l) f3 f4 k.toNat
    rw [← ho] at hbd
    refine guard_split (by simp; omega) ?_
    rw [Nat.zero_add, hx]
    simp only [bindO, List.take_length, Nat.zero_add, Nat.sub_zero, show Int.toNat 0 = 0 from rfl, List.drop_zero]
    rw [IntWalk.i64_in (k + 1) (by omega)]
    have hT : timesK g l (k + 1).toNat = out ++ [innerS g x.2.1 out (l.take k.toNat) x.2.2.1] := by
      rw [show (k + 1).toNat = k.toNat + 1 by omega]
      unfold timesK
      rw [hx, ← ho]
    refine guard_split (by simp; omega) (guard_split ?_ (guard_split ?_ (guard_split ?_ (guard_split ?_ ?_))))
    · rw [show decide (out.length ≤ out.length) = true by simp, show decide (k.toNat ≤ l.length) = true from decide_eq_true (by omega)]
      refine bp_mk ⟨f1, f3, by rw [List.length_take]; omega, ?_, by omega, by omega, by omega, by omega, fun o hm => ?_, by rw [List.length_take]; omega, by omega, by omega, by omega⟩
      · rw [List.any_eq_false]
        intro y hy
        exact List.any_eq_false.1 f4 y (List.mem_of_mem_take hy)
      · have := hbd o hm; omega
    · simp; omega
    · exact decide_eq_true (show (n - (k + 1)).toNat < (n - k).toNat by omega)
    · rw [show decide (l.length ≤ l.length) = true by simp, show decide (out.length + 1 = (out ++ [innerS g x.2.1 out (l.take k.toNat) x.2.2.1]).length) = true by simp]
      exact bp_mk ⟨hf, rfl, hT.symm, hn, by omega, by omega⟩
    · rw [show decide (k = n) = false from decide_eq_false (by omega), Bool.and_false]; rfl
  · have h := of_decide_eq_false h
    rw [show decide (k = n) = true from decide_eq_true (by omega), Bool.and_true]
    refine sl_eq4 (k := I) (H := [Blk.row false kA l, Blk.row false I g, .dead, Blk.row false kA l]) ?_
    rw [ho]
    unfold timesS
    rw [show k.toNat = l.length by omega]
theorem p85 (l : List Item) (nl : Bool) (g : List Int) (h : preF l g = true) : a85L l nl g = some (PV.sl 1 0 1 (timesS g l).length (timesS g l).length false (decide (0 = (l.length : Int))), [Blk.row false kA l, Blk.row true I (timesS g l)]) := by
  have hf := bp_true.1 h
  rw [a85]
  simp only [List.take_length, Nat.zero_add, show Int.toNat 0 = 0 from rfl]
  refine guard_split ?_ rfl
  rw [show decide (l.length ≤ l.length) = true by simp]
  exact bp_mk ⟨hf, rfl, rfl, rfl, by omega, by omega⟩
theorem TIn_ok : TableOK Try.prog TIn := ext_ok (entV_ok Try.call41 (liftV (T0_ok _) mixed Try.func41 rfl (noCuts_ok _) (by decide) fun v _ => p24 v.1 v.2.1 v.2.2.1)) (T0_ok _)
theorem cut_at {P : Program} {N id : Nat} {ins outs : List Nat} {ent : CutEnt} {cuts : Cuts} {c c' : Code} (h1 : oneCode id c = true) (h2 : codeAt id c = c') (h : CutOK P N c' ins outs ent) (hC : CutsOK P N cuts c) : CutsOK P N (addCut id ins outs ent cuts) c :=
  cut_cons h1 (h2 ▸ h) hC
theorem in56 : CutOK Try.prog 65 (codeAt 2 (bodyF Try.f83)) [18, 19] [4] (entC k56c c56c) := loop_cutW (kill := killA 0 k56c) (T0_ok _) mixed mu56c (by kernel_rfl) (noCuts_ok _) fun v h => p56c v.1 v.2.1 h
theorem in56a : CutOK Try.prog 65 (codeAt 0 (bodyF Try.f83)) [14, 15] [4] (entC k56a c56a) := loop_cutW (kill := killA 0 k56a) (T0_ok _) mixed mu56a (by kernel_rfl) (cut_at (by kernel_rfl) (by kernel_rfl) in56 (noCuts_ok _)) fun v h => p56a v.1 v.2.1 h
theorem in56b : CutOK Try.prog 65 (codeAt 4 (bodyF Try.f83)) [30, 31, 32] [4] (entC k56b c56b) := loop_cutW (kill := killA 0 k56b) (T0_ok _) mixed mu56b (by kernel_rfl) (noCuts_ok _) fun v h => p56b v.1.1 v.1.2 v.2.1 v.2.2.1 h
theorem in55 : CutOK Try.prog 50 (codeAt 2 (bodyF Try.f34)) [3, 5, 15] [4] (entC k55c c55c) := loop_cutW (kill := killA 0 k55c) TIn_ok mixed mu55c (by kernel_rfl) (noCuts_ok _) fun v h => p55c v.1 v.2.1 v.2.2.1 h
theorem in55a : CutOK Try.prog 50 (codeAt 0 (bodyF Try.f34)) [3, 12] [4] (entC k55a c55a) := loop_cutW (kill := killA 0 k55a) TIn_ok mixed mu55a (by kernel_rfl) (cut_at (by kernel_rfl) (by kernel_rfl) in55 (noCuts_ok _)) fun v h => p55a v.1 v.2.1 h
theorem in55b : CutOK Try.prog 50 (codeAt 4 (bodyF Try.f34)) [27, 28, 29] [4] (entC k56b c56b) := loop_cutW (kill := killA 0 k56b) TIn_ok mixed mu56b (by kernel_rfl) (noCuts_ok _) fun v h => p55b v.1.1 v.1.2 v.2.1 v.2.2.1 h
theorem in85 : CutOK Try.prog 50 (codeAt 2 (bodyF Try.f123)) [3, 5, 7, 8, 22, 23, 24] [8] (entC k85i c85i) :=
  loop_cutW (kill := killA 0 k85i) (T0_ok _) mixed mu85i (by kernel_rfl) (noCuts_ok _) fun v h => p85i v.1 v.2.1.1 v.2.1.2 v.2.2.1.1 v.2.2.1.2.1 v.2.2.1.2.2.1 v.2.2.1.2.2.2 v.2.2.2.1 v.2.2.2.2.1.1 v.2.2.2.2.1.2 v.2.2.2.2.2.1 v.2.2.2.2.2.2.1 h
theorem in85a : CutOK Try.prog 50 (codeAt 0 (bodyF Try.f123)) [0, 3, 5, 11, 12, 13] [5] (entC k85 c85) :=
  loop_cutW (kill := killA 0 k85) (T0_ok _) mixed mu85 (by kernel_rfl) (cut_at (by kernel_rfl) (by kernel_rfl) in85 (noCuts_ok _)) fun v h => p85o v.1.1 v.1.2 v.2.1 v.2.2.1.1 v.2.2.1.2 v.2.2.2.1.1 v.2.2.2.1.2 v.2.2.2.2.1 v.2.2.2.2.2.1 h
theorem TC_ok : TableOK Try.prog TC :=
  ext_ok (entV_ok Try.call83 (liftV (T0_ok _) mixed Try.func83 (show Try.f83.body = some (bodyF Try.f83) from rfl) (cut_cons (by kernel_rfl) in56a (cut_cons (by kernel_rfl) in56b (noCuts_ok _))) (by decide) fun v h => p56 v.1.1 v.1.2 v.2.1 h))
  (ext_ok (entV_ok Try.call34 (liftV TIn_ok mixed Try.func34 (show Try.f34.body = some (bodyF Try.f34) from rfl) (cut_cons (by kernel_rfl) in55a (cut_cons (by kernel_rfl) in55b (noCuts_ok _))) (by decide) fun v h => p55 v.1.1 v.1.2 v.2.1 h)) TIn_ok)
theorem TT_ok : TableOK Try.prog TT :=
  ext_ok (entV_ok Try.call123 (liftV TC_ok mixed Try.func123 (show Try.f123.body = some (bodyF Try.f123) from rfl) (cut_cons (by kernel_rfl) in85a (noCuts_ok _)) (by decide) fun v h => p85 v.1.1 v.1.2 v.2.1 h)) TC_ok
end Go.Proofs.YtacdahpjmeianaaAs
