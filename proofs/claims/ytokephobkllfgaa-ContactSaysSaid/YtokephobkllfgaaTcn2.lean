/- What is proved: a radio's calls answer what their plain functions say. No condition. -/
import Derived.Test.YtokephobkllfgaaTcn1
namespace Go.Proofs.YtokephobkllfgaaCn
open Go Go.Proofs Go.Proofs.YtokephobkllfgaaEv Go.Proofs.YtokephobkllfgaaSs
set_option maxRecDepth 100000
set_option maxHeartbeats 4000000
set_option linter.unusedVariables false
set_option linter.unusedSimpArgs false
noncomputable abbrev n27L (a0 : List (ByteArray × Int × Int)) (a1 : Bool) (a2 : ByteArray) (a3 : Int) (a4 : Int) := evFuncV Try.prog C3 noCuts Try.f27 (killA 0 kTu) (showA 0 kTu (((a0, a1), ()), (a2, (a3, (a4, ()))))).1 (showA 0 kTu (((a0, a1), ()), (a2, (a3, (a4, ()))))).2
theorem n27 (a0 : List (ByteArray × Int × Int)) (a1 : Bool) (a2 : ByteArray) (a3 : Int) (a4 : Int) : n27L a0 a1 a2 a3 a4 = (guardB
  (bif decide (0 + a0.length ≤ a0.length) then
    bp (srtd (List.take a0.length a0) ∧ (List.take a0.length a0).length ≤ 1000)
  else false)
  (guardB (decide (a2.size ≤ 1000000000000000000))
    (bif !namS a2 then
      some
        (PV.sc (Value.int IntKind.i64 6),
          [Blk.fix true [PV.sl 2 0 3 (List.take a0.length a0).length (List.take a0.length a0).length false a1],
            Blk.dead, Blk.row true (Kd.str.pair ((Kd.int IntKind.i64).pair (Kd.int IntKind.i64))) a0])
    else
      bif !valF a3 then
        some
          (PV.sc (Value.int IntKind.i64 4),
            [Blk.fix true [PV.sl 2 0 3 (List.take a0.length a0).length (List.take a0.length a0).length false a1],
              Blk.dead, Blk.row true (Kd.str.pair ((Kd.int IntKind.i64).pair (Kd.int IntKind.i64))) a0])
      else
        bif decide (a4 < 0) then
          some
            (PV.sc (Value.int IntKind.i64 4),
              [Blk.fix true [PV.sl 2 0 3 (List.take a0.length a0).length (List.take a0.length a0).length false a1],
                Blk.dead, Blk.row true (Kd.str.pair ((Kd.int IntKind.i64).pair (Kd.int IntKind.i64))) a0])
        else
          bif decide (a4 > 200000) then
            some
              (PV.sc (Value.int IntKind.i64 4),
                [Blk.fix true [PV.sl 2 0 3 (List.take a0.length a0).length (List.take a0.length a0).length false a1],
                  Blk.dead, Blk.row true (Kd.str.pair ((Kd.int IntKind.i64).pair (Kd.int IntKind.i64))) a0])
          else
            bif !hasT a2 (List.take a0.length a0) then
              bif (↑(List.take a0.length a0).length : Int) == 24 then
                some
                  (PV.sc (Value.int IntKind.i64 9),
                    [Blk.fix true
                        [PV.sl 2 0 3 (List.take a0.length a0).length (List.take a0.length a0).length false a1],
                      Blk.dead, Blk.row true (Kd.str.pair ((Kd.int IntKind.i64).pair (Kd.int IntKind.i64))) a0])
              else
                bif hasT a2 (List.take a0.length a0) then
                  guardB
                    (decide (0 ≤ lowI a2 (List.take a0.length a0)) &&
                      decide (lowI a2 (List.take a0.length a0) < (↑(List.take a0.length a0).length : Int)))
                    (bindO a0[0 + (lowI a2 (List.take a0.length a0)).toNat]? fun x =>
                      bif decide (a4 < x.snd.snd) then
                        some
                          (PV.sc (Value.int IntKind.i64 12),
                            [Blk.fix true
                                [PV.sl 2 0 3 (List.take a0.length a0).length (List.take a0.length a0).length false a1],
                              Blk.dead, Blk.row true (Kd.str.pair ((Kd.int IntKind.i64).pair (Kd.int IntKind.i64))) a0])
                      else
                        bif hasT a2 (List.take a0.length a0) then
                          guardB
                            (decide (0 ≤ lowI a2 (List.take a0.length a0)) &&
                              decide (lowI a2 (List.take a0.length a0) < (↑(List.take a0.length a0).length : Int)))
                            (bindO a0[0 + (lowI a2 (List.take a0.length a0)).toNat]? fun x =>
                              some
                                (PV.sc (Value.int IntKind.i64 0),
                                  [Blk.fix true
                                      [PV.sl 2 0 3 (List.take a0.length a0).length (List.take a0.length a0).length false
                                          a1],
                                    Blk.dead,
                                    Blk.row true (Kd.str.pair ((Kd.int IntKind.i64).pair (Kd.int IntKind.i64)))
                                      (a0.set (0 + (lowI a2 (List.take a0.length a0)).toNat) (a2, a3, a4))]))
                        else
                          guardB
                            (bif decide ((List.take a0.length a0).length = a0.length) then
                              decide
                                (0 ≤ lowI a2 (List.take a0.length a0) ∧
                                  lowI a2 (List.take a0.length a0) ≤ (↑a0.length : Int) ∧
                                    a0.length ≤ 1000 ∧ [(a2, a3, a4)].length = 1)
                            else false)
                            (some
                              (PV.sc (Value.int IntKind.i64 0),
                                [Blk.fix true [PV.sl 2 0 3 (a0.length + 1) (a0.length + 1) false false], Blk.dead,
                                  Blk.row true (Kd.str.pair ((Kd.int IntKind.i64).pair (Kd.int IntKind.i64)))
                                    (insG a0 (lowI a2 (List.take a0.length a0)) [(a2, a3, a4)])])))
                else
                  bif hasT a2 (List.take a0.length a0) then
                    guardB
                      (decide (0 ≤ lowI a2 (List.take a0.length a0)) &&
                        decide (lowI a2 (List.take a0.length a0) < (↑(List.take a0.length a0).length : Int)))
                      (bindO a0[0 + (lowI a2 (List.take a0.length a0)).toNat]? fun x =>
                        some
                          (PV.sc (Value.int IntKind.i64 0),
                            [Blk.fix true
                                [PV.sl 2 0 3 (List.take a0.length a0).length (List.take a0.length a0).length false a1],
                              Blk.dead,
                              Blk.row true (Kd.str.pair ((Kd.int IntKind.i64).pair (Kd.int IntKind.i64)))
                                (a0.set (0 + (lowI a2 (List.take a0.length a0)).toNat) (a2, a3, a4))]))
                  else
                    guardB
                      (bif decide ((List.take a0.length a0).length = a0.length) then
                        decide
                          (0 ≤ lowI a2 (List.take a0.length a0) ∧
                            lowI a2 (List.take a0.length a0) ≤ (↑a0.length : Int) ∧
                              a0.length ≤ 1000 ∧ [(a2, a3, a4)].length = 1)
                      else false)
                      (some
                        (PV.sc (Value.int IntKind.i64 0),
                          [Blk.fix true [PV.sl 2 0 3 (a0.length + 1) (a0.length + 1) false false], Blk.dead,
                            Blk.row true (Kd.str.pair ((Kd.int IntKind.i64).pair (Kd.int IntKind.i64)))
                              (insG a0 (lowI a2 (List.take a0.length a0)) [(a2, a3, a4)])]))
            else
              bif hasT a2 (List.take a0.length a0) then
                guardB
                  (decide (0 ≤ lowI a2 (List.take a0.length a0)) &&
                    decide (lowI a2 (List.take a0.length a0) < (↑(List.take a0.length a0).length : Int)))
                  (bindO a0[0 + (lowI a2 (List.take a0.length a0)).toNat]? fun x =>
                    bif decide (a4 < x.snd.snd) then
                      some
                        (PV.sc (Value.int IntKind.i64 12),
                          [Blk.fix true
                              [PV.sl 2 0 3 (List.take a0.length a0).length (List.take a0.length a0).length false a1],
                            Blk.dead, Blk.row true (Kd.str.pair ((Kd.int IntKind.i64).pair (Kd.int IntKind.i64))) a0])
                    else
                      bif hasT a2 (List.take a0.length a0) then
                        guardB
                          (decide (0 ≤ lowI a2 (List.take a0.length a0)) &&
                            decide (lowI a2 (List.take a0.length a0) < (↑(List.take a0.length a0).length : Int)))
                          (bindO a0[0 + (lowI a2 (List.take a0.length a0)).toNat]? fun x =>
                            some
                              (PV.sc (Value.int IntKind.i64 0),
                                [Blk.fix true
                                    [PV.sl 2 0 3 (List.take a0.length a0).length (List.take a0.length a0).length false
                                        a1],
                                  Blk.dead,
                                  Blk.row true (Kd.str.pair ((Kd.int IntKind.i64).pair (Kd.int IntKind.i64)))
                                    (a0.set (0 + (lowI a2 (List.take a0.length a0)).toNat) (a2, a3, a4))]))
                      else
                        guardB
                          (bif decide ((List.take a0.length a0).length = a0.length) then
                            decide
                              (0 ≤ lowI a2 (List.take a0.length a0) ∧
                                lowI a2 (List.take a0.length a0) ≤ (↑a0.length : Int) ∧
                                  a0.length ≤ 1000 ∧ [(a2, a3, a4)].length = 1)
                          else false)
                          (some
                            (PV.sc (Value.int IntKind.i64 0),
                              [Blk.fix true [PV.sl 2 0 3 (a0.length + 1) (a0.length + 1) false false], Blk.dead,
                                Blk.row true (Kd.str.pair ((Kd.int IntKind.i64).pair (Kd.int IntKind.i64)))
                                  (insG a0 (lowI a2 (List.take a0.length a0)) [(a2, a3, a4)])])))
              else
                bif hasT a2 (List.take a0.length a0) then
                  guardB
                    (decide (0 ≤ lowI a2 (List.take a0.length a0)) &&
                      decide (lowI a2 (List.take a0.length a0) < (↑(List.take a0.length a0).length : Int)))
                    (bindO a0[0 + (lowI a2 (List.take a0.length a0)).toNat]? fun x =>
                      some
                        (PV.sc (Value.int IntKind.i64 0),
                          [Blk.fix true
                              [PV.sl 2 0 3 (List.take a0.length a0).length (List.take a0.length a0).length false a1],
                            Blk.dead,
                            Blk.row true (Kd.str.pair ((Kd.int IntKind.i64).pair (Kd.int IntKind.i64)))
                              (a0.set (0 + (lowI a2 (List.take a0.length a0)).toNat) (a2, a3, a4))]))
                else
                  guardB
                    (bif decide ((List.take a0.length a0).length = a0.length) then
                      decide
                        (0 ≤ lowI a2 (List.take a0.length a0) ∧
                          lowI a2 (List.take a0.length a0) ≤ (↑a0.length : Int) ∧
                            a0.length ≤ 1000 ∧ [(a2, a3, a4)].length = 1)
                    else false)
                    (some
                      (PV.sc (Value.int IntKind.i64 0),
                        [Blk.fix true [PV.sl 2 0 3 (a0.length + 1) (a0.length + 1) false false], Blk.dead,
                          Blk.row true (Kd.str.pair ((Kd.int IntKind.i64).pair (Kd.int IntKind.i64)))
                            (insG a0 (lowI a2 (List.take a0.length a0)) [(a2, a3, a4)])]))))) := by kernel_rfl
noncomputable abbrev n28L (a0 : List (ByteArray × Int × Int)) (a1 : Bool) (a2 : ByteArray) (a3 : Int) (a4 : Int) := evFuncV Try.prog C3 noCuts Try.f28 (killA 0 kTu) (showA 0 kTu (((a0, a1), ()), (a2, (a3, (a4, ()))))).1 (showA 0 kTu (((a0, a1), ()), (a2, (a3, (a4, ()))))).2
theorem n28 (a0 : List (ByteArray × Int × Int)) (a1 : Bool) (a2 : ByteArray) (a3 : Int) (a4 : Int) : n28L a0 a1 a2 a3 a4 = (guardB
  (bif decide (0 + a0.length ≤ a0.length) then
    bp (srtd (List.take a0.length a0) ∧ (List.take a0.length a0).length ≤ 1000)
  else false)
  (bif !hasT a2 (List.take a0.length a0) then
    some
      (PV.sc (Value.int IntKind.i64 8),
        [Blk.fix true [PV.sl 2 0 3 (List.take a0.length a0).length (List.take a0.length a0).length false a1], Blk.dead,
          Blk.row true (Kd.str.pair ((Kd.int IntKind.i64).pair (Kd.int IntKind.i64))) a0])
  else
    guardB
      (decide (0 ≤ lowI a2 (List.take a0.length a0)) &&
        decide (lowI a2 (List.take a0.length a0) < (↑(List.take a0.length a0).length : Int)))
      (bindO a0[0 + (lowI a2 (List.take a0.length a0)).toNat]? fun x =>
        bif a3 != x.snd.fst then
          some
            (PV.sc (Value.int IntKind.i64 11),
              [Blk.fix true [PV.sl 2 0 3 (List.take a0.length a0).length (List.take a0.length a0).length false a1],
                Blk.dead, Blk.row true (Kd.str.pair ((Kd.int IntKind.i64).pair (Kd.int IntKind.i64))) a0])
        else
          guardB
            (decide (0 ≤ lowI a2 (List.take a0.length a0)) &&
              decide (lowI a2 (List.take a0.length a0) < (↑(List.take a0.length a0).length : Int)))
            (bindO a0[0 + (lowI a2 (List.take a0.length a0)).toNat]? fun x =>
              bif decide (a4 < x.snd.snd) then
                some
                  (PV.sc (Value.int IntKind.i64 12),
                    [Blk.fix true
                        [PV.sl 2 0 3 (List.take a0.length a0).length (List.take a0.length a0).length false a1],
                      Blk.dead, Blk.row true (Kd.str.pair ((Kd.int IntKind.i64).pair (Kd.int IntKind.i64))) a0])
              else
                bif decide (a4 > 200000) then
                  some
                    (PV.sc (Value.int IntKind.i64 12),
                      [Blk.fix true
                          [PV.sl 2 0 3 (List.take a0.length a0).length (List.take a0.length a0).length false a1],
                        Blk.dead, Blk.row true (Kd.str.pair ((Kd.int IntKind.i64).pair (Kd.int IntKind.i64))) a0])
                else
                  guardB
                    (decide (0 ≤ lowI a2 (List.take a0.length a0)) &&
                      decide (lowI a2 (List.take a0.length a0) < (↑(List.take a0.length a0).length : Int)))
                    (bindO a0[0 + (lowI a2 (List.take a0.length a0)).toNat]? fun x =>
                      some
                        (PV.sc (Value.int IntKind.i64 0),
                          [Blk.fix true
                              [PV.sl 2 0 3 (List.take a0.length a0).length (List.take a0.length a0).length false a1],
                            Blk.dead,
                            Blk.row true (Kd.str.pair ((Kd.int IntKind.i64).pair (Kd.int IntKind.i64)))
                              (a0.set (0 + (lowI a2 (List.take a0.length a0)).toNat) (x.fst, x.snd.fst, a4))])))))) := by kernel_rfl
noncomputable abbrev n29L (a0 : List (ByteArray × Int × Int)) (a1 : Bool) (a2 : ByteArray) := evFuncV Try.prog C3 noCuts Try.f29 (killA 0 kLv) (showA 0 kLv (((a0, a1), ()), (a2, ()))).1 (showA 0 kLv (((a0, a1), ()), (a2, ()))).2
theorem n29 (a0 : List (ByteArray × Int × Int)) (a1 : Bool) (a2 : ByteArray) : n29L a0 a1 a2 = (guardB
  (bif decide (0 + a0.length ≤ a0.length) then
    bp (srtd (List.take a0.length a0) ∧ (List.take a0.length a0).length ≤ 1000)
  else false)
  (bif !hasT a2 (List.take a0.length a0) then
    some
      (PV.sc (Value.int IntKind.i64 8),
        [Blk.fix true [PV.sl 2 0 3 (List.take a0.length a0).length (List.take a0.length a0).length false a1], Blk.dead,
          Blk.row true (Kd.str.pair ((Kd.int IntKind.i64).pair (Kd.int IntKind.i64))) a0])
  else
    guardB
      (bif decide ((List.take a0.length a0).length = a0.length) then
        decide
          (IntKind.i64.wrap (lowI a2 (List.take a0.length a0) + 1) = lowI a2 (List.take a0.length a0) + 1 ∧
            0 ≤ lowI a2 (List.take a0.length a0) ∧
              lowI a2 (List.take a0.length a0) < (↑a0.length : Int) ∧ a0.length ≤ 1000)
      else false)
      (some
        (PV.sc (Value.int IntKind.i64 0),
          [Blk.fix true
              [PV.sl 2 0 3 (a0.eraseIdx (lowI a2 (List.take a0.length a0)).toNat).length
                  (a0.eraseIdx (lowI a2 (List.take a0.length a0)).toNat).length false a1],
            Blk.dead,
            Blk.row true (Kd.str.pair ((Kd.int IntKind.i64).pair (Kd.int IntKind.i64)))
              (a0.eraseIdx (lowI a2 (List.take a0.length a0)).toNat)])))) := by kernel_rfl
noncomputable abbrev n35L (a0 : List (ByteArray × Int × Int)) (a1 : Bool) := evFuncV Try.prog C3 noCuts Try.f35 (killA 0 [bR]) (showA 0 [bR] (((a0, a1), ()), ())).1 (showA 0 [bR] (((a0, a1), ()), ())).2
theorem n35 (a0 : List (ByteArray × Int × Int)) (a1 : Bool) : n35L a0 a1 = (guardB (bif decide (0 + a0.length ≤ a0.length) then decide ((List.take a0.length a0).length ≤ 100) else false)
  (bif a1 then
    some
      (PV.sc (Value.slice none 0 0),
        [Blk.fix true [PV.sl 1 0 3 a0.length a0.length false a1],
          Blk.row false (Kd.str.pair ((Kd.int IntKind.i64).pair (Kd.int IntKind.i64))) a0])
  else
    some
      (PV.sl 2 0 3 (List.take a0.length a0).length (List.take a0.length a0).length false false,
        [Blk.fix true [PV.sl 1 0 3 a0.length a0.length false a1],
          Blk.row false (Kd.str.pair ((Kd.int IntKind.i64).pair (Kd.int IntKind.i64))) a0,
          Blk.row true (Kd.str.pair ((Kd.int IntKind.i64).pair (Kd.int IntKind.i64))) (List.take a0.length a0)]))) := by kernel_rfl
noncomputable abbrev n37aL (a0 : Int) (a1 : List ByteArray) (a2 : Bool) (a3 : List (ByteArray × Int × Int)) (a4 : Bool) (a5 : Int) (a6 : Int) := evRound Try.prog C3 noCuts 28 (loopOf (codeAt 0 (bodyF Try.f37))) kOn muOn (killA 0 kOn) [1, 5, 11, 12, 13] [5] (cOn 0) (a0, ((a1, a2), ((a3, a4), (a5, (a6, ())))))
theorem n37a (a0 : Int) (a1 : List ByteArray) (a2 : Bool) (a3 : List (ByteArray × Int × Int)) (a4 : Bool) (a5 : Int) (a6 : Int) : n37aL a0 a1 a2 a3 a4 a5 a6 = (bif decide (a6 < a5) then
  guardB (decide (0 ≤ a6) && decide (a6 < (↑a3.length : Int)))
    (bindO a3[0 + a6.toNat]? fun x =>
      bif x.snd.fst == a0 then
        guardB
          (decide (0 + a1.length ≤ a1.length) && true && decide ((a1.length + 1) * 16 ≤ 140737488355328) &&
            decide (a1.length + 1 ≤ 4611686018427387904))
          (guardB
            (decide
              (muOn
                  (a0, (List.take a1.length a1 ++ [x.fst], false), (List.take a3.length a3, a4), a5,
                    IntKind.i64.wrap (a6 + 1), PUnit.unit) <
                muOn (a0, (a1, a2), (a3, a4), a5, a6, ())))
            (guardB
              (bif decide (a1.length + 1 = (List.take a1.length a1 ++ [x.fst]).length) then
                bif decide (0 + a3.length ≤ a3.length) then
                  preOn (List.take a1.length a1 ++ [x.fst]) (List.take a3.length a3) a5 (IntKind.i64.wrap (a6 + 1))
                else false
              else false)
              (some
                (Xt.exit 0,
                  [PV.sl 2 0 1
                      (onR a0 (List.take a1.length a1 ++ [x.fst], false)
                            (List.drop (IntKind.i64.wrap (a6 + 1)).toNat (List.take a3.length a3))).fst.length
                      (onR a0 (List.take a1.length a1 ++ [x.fst], false)
                            (List.drop (IntKind.i64.wrap (a6 + 1)).toNat (List.take a3.length a3))).fst.length
                      false
                      (onR a0 (List.take a1.length a1 ++ [x.fst], false)
                          (List.drop (IntKind.i64.wrap (a6 + 1)).toNat (List.take a3.length a3))).snd],
                  [Blk.dead, Blk.row false (Kd.str.pair ((Kd.int IntKind.i64).pair (Kd.int IntKind.i64))) a3,
                    Blk.row true Kd.str
                      (onR a0 (List.take a1.length a1 ++ [x.fst], false)
                          (List.drop (IntKind.i64.wrap (a6 + 1)).toNat (List.take a3.length a3))).fst]))))
      else
        guardB
          (decide
            (muOn (a0, (a1, a2), (List.take a3.length a3, a4), a5, IntKind.i64.wrap (a6 + 1), PUnit.unit) <
              muOn (a0, (a1, a2), (a3, a4), a5, a6, ())))
          (guardB
            (bif decide (a1.length = a1.length) then
              bif decide (0 + a3.length ≤ a3.length) then
                preOn a1 (List.take a3.length a3) a5 (IntKind.i64.wrap (a6 + 1))
              else false
            else false)
            (some
              (Xt.exit 0,
                [PV.sl 2 0 1
                    (onR a0 (a1, a2) (List.drop (IntKind.i64.wrap (a6 + 1)).toNat (List.take a3.length a3))).fst.length
                    (onR a0 (a1, a2) (List.drop (IntKind.i64.wrap (a6 + 1)).toNat (List.take a3.length a3))).fst.length
                    false (onR a0 (a1, a2) (List.drop (IntKind.i64.wrap (a6 + 1)).toNat (List.take a3.length a3))).snd],
                [Blk.dead, Blk.row false (Kd.str.pair ((Kd.int IntKind.i64).pair (Kd.int IntKind.i64))) a3,
                  Blk.row true Kd.str
                    (onR a0 (a1, a2) (List.drop (IntKind.i64.wrap (a6 + 1)).toNat (List.take a3.length a3))).fst]))))
else
  some
    (Xt.exit 0, [PV.sl 2 0 1 a1.length a1.length false a2],
      [Blk.dead, Blk.row false (Kd.str.pair ((Kd.int IntKind.i64).pair (Kd.int IntKind.i64))) a3,
        Blk.row true Kd.str a1])) := by kernel_rfl
noncomputable abbrev n37L (a0 : List (ByteArray × Int × Int)) (a1 : Bool) (a2 : Int) := evFuncV Try.prog C3 (addCut 0 [1, 5, 11, 12, 13] [5] (entC kOn (cOn 0)) noCuts) Try.f37 (killA 0 [bR, sI]) (showA 0 [bR, sI] (((a0, a1), ()), (a2, ()))).1 (showA 0 [bR, sI] (((a0, a1), ()), (a2, ()))).2
theorem n37 (a0 : List (ByteArray × Int × Int)) (a1 : Bool) (a2 : Int) : n37L a0 a1 a2 = (guardB (bif decide (0 + a0.length ≤ a0.length) then preOn ([] : List ByteArray) (List.take a0.length a0) (↑a0.length : Int) 0 else false)
  (some
    (PV.sl 2 0 1 (onR a2 ([], true) (List.drop (Int.toNat 0) (List.take a0.length a0))).fst.length
        (onR a2 ([], true) (List.drop (Int.toNat 0) (List.take a0.length a0))).fst.length false
        (onR a2 ([], true) (List.drop (Int.toNat 0) (List.take a0.length a0))).snd,
      [Blk.fix true [PV.sl 1 0 3 a0.length a0.length false a1],
        Blk.row false (Kd.str.pair ((Kd.int IntKind.i64).pair (Kd.int IntKind.i64))) a0,
        Blk.row true Kd.str (onR a2 ([], true) (List.drop (Int.toNat 0) (List.take a0.length a0))).fst]))) := by kernel_rfl
noncomputable abbrev n55L (a0 : List (ByteArray × Int × Int)) (a1 : Bool) := evFuncV Try.prog C3 noCuts Try.f55 (killA 0 [iT, .fn 56 []]) (showA 0 [iT, .fn 56 []] ((a0, a1), ((), ()))).1 (showA 0 [iT, .fn 56 []] ((a0, a1), ((), ()))).2
theorem n55 (a0 : List (ByteArray × Int × Int)) (a1 : Bool) : n55L a0 a1 = (guardB
  (bif decide (a0.length = a0.length) then decide ((↑a0.length : Int) = (↑a0.length : Int) ∧ a0.length ≤ 20) && okT a0
  else false)
  (some
    (PV.tup [],
      [Blk.row true (Kd.str.pair ((Kd.int IntKind.i64).pair (Kd.int IntKind.i64))) (isoT (a0.length - 1) 1 a0)]))) := by kernel_rfl
noncomputable abbrev n38aL (a0 : Int) (a1 : Int) (a2 : List (ByteArray × Int × Int)) (a3 : Bool) (a4 : List (ByteArray × Int × Int)) (a5 : Bool) (a6 : Int) (a7 : Int) := evRound Try.prog C4 noCuts 45 (loopOf (codeAt 0 (bodyF Try.f38))) kLo muLo (killA 0 kLo) [1, 2, 7, 13, 14, 15] [7] cLo (a0, (a1, ((a2, a3), ((a4, a5), (a6, (a7, ()))))))
theorem n38a (a0 : Int) (a1 : Int) (a2 : List (ByteArray × Int × Int)) (a3 : Bool) (a4 : List (ByteArray × Int × Int)) (a5 : Bool) (a6 : Int) (a7 : Int) : n38aL a0 a1 a2 a3 a4 a5 a6 a7 = (bif decide (a7 < a6) then
  guardB (decide (0 ≤ a7) && decide (a7 < (↑a4.length : Int)))
    (bindO a4[0 + a7.toNat]? fun x =>
      bif decide (a0 ≥ 0) then
        bif decide (a0 ≤ 200000) then
          bif decide (a1 ≥ 0) then
            bif decide (IntKind.i64.wrap (a0 - x.snd.snd) > a1) then
              guardB
                (decide (0 + a2.length ≤ a2.length) && true && decide ((a2.length + 1) * 32 ≤ 140737488355328) &&
                  decide (a2.length + 1 ≤ 4611686018427387904))
                (guardB
                  (decide
                    (muLo
                        (a0, a1, (List.take a2.length a2 ++ [x], false), (List.take a4.length a4, a5), a6,
                          IntKind.i64.wrap (a7 + 1), PUnit.unit) <
                      muLo (a0, a1, (a2, a3), (a4, a5), a6, a7, ())))
                  (guardB
                    (bif decide (a2.length + 1 = (List.take a2.length a2 ++ [x]).length) then
                      bif decide (0 + a4.length ≤ a4.length) then
                        preOn (List.take a2.length a2 ++ [x]) (List.take a4.length a4) a6 (IntKind.i64.wrap (a7 + 1)) &&
                          okT (List.take a4.length a4)
                      else false
                    else false)
                    (some
                      (Xt.exit 0,
                        [PV.sl 2 0 3
                            (losR a0 a1 (List.take a2.length a2 ++ [x], false)
                                  (List.drop (IntKind.i64.wrap (a7 + 1)).toNat (List.take a4.length a4))).fst.length
                            (losR a0 a1 (List.take a2.length a2 ++ [x], false)
                                  (List.drop (IntKind.i64.wrap (a7 + 1)).toNat (List.take a4.length a4))).fst.length
                            false
                            (losR a0 a1 (List.take a2.length a2 ++ [x], false)
                                (List.drop (IntKind.i64.wrap (a7 + 1)).toNat (List.take a4.length a4))).snd],
                        [Blk.dead, Blk.row false (Kd.str.pair ((Kd.int IntKind.i64).pair (Kd.int IntKind.i64))) a4,
                          Blk.row true (Kd.str.pair ((Kd.int IntKind.i64).pair (Kd.int IntKind.i64)))
                            (losR a0 a1 (List.take a2.length a2 ++ [x], false)
                                (List.drop (IntKind.i64.wrap (a7 + 1)).toNat (List.take a4.length a4))).fst]))))
            else
              guardB
                (decide
                  (muLo (a0, a1, (a2, a3), (List.take a4.length a4, a5), a6, IntKind.i64.wrap (a7 + 1), PUnit.unit) <
                    muLo (a0, a1, (a2, a3), (a4, a5), a6, a7, ())))
                (guardB
                  (bif decide (a2.length = a2.length) then
                    bif decide (0 + a4.length ≤ a4.length) then
                      preOn a2 (List.take a4.length a4) a6 (IntKind.i64.wrap (a7 + 1)) && okT (List.take a4.length a4)
                    else false
                  else false)
                  (some
                    (Xt.exit 0,
                      [PV.sl 2 0 3
                          (losR a0 a1 (a2, a3)
                                (List.drop (IntKind.i64.wrap (a7 + 1)).toNat (List.take a4.length a4))).fst.length
                          (losR a0 a1 (a2, a3)
                                (List.drop (IntKind.i64.wrap (a7 + 1)).toNat (List.take a4.length a4))).fst.length
                          false
                          (losR a0 a1 (a2, a3)
                              (List.drop (IntKind.i64.wrap (a7 + 1)).toNat (List.take a4.length a4))).snd],
                      [Blk.dead, Blk.row false (Kd.str.pair ((Kd.int IntKind.i64).pair (Kd.int IntKind.i64))) a4,
                        Blk.row true (Kd.str.pair ((Kd.int IntKind.i64).pair (Kd.int IntKind.i64)))
                          (losR a0 a1 (a2, a3)
                              (List.drop (IntKind.i64.wrap (a7 + 1)).toNat (List.take a4.length a4))).fst])))
          else
            guardB
              (decide
                (muLo (a0, a1, (a2, a3), (List.take a4.length a4, a5), a6, IntKind.i64.wrap (a7 + 1), PUnit.unit) <
                  muLo (a0, a1, (a2, a3), (a4, a5), a6, a7, ())))
              (guardB
                (bif decide (a2.length = a2.length) then
                  bif decide (0 + a4.length ≤ a4.length) then
                    preOn a2 (List.take a4.length a4) a6 (IntKind.i64.wrap (a7 + 1)) && okT (List.take a4.length a4)
                  else false
                else false)
                (some
                  (Xt.exit 0,
                    [PV.sl 2 0 3
                        (losR a0 a1 (a2, a3)
                              (List.drop (IntKind.i64.wrap (a7 + 1)).toNat (List.take a4.length a4))).fst.length
                        (losR a0 a1 (a2, a3)
                              (List.drop (IntKind.i64.wrap (a7 + 1)).toNat (List.take a4.length a4))).fst.length
                        false
                        (losR a0 a1 (a2, a3)
                            (List.drop (IntKind.i64.wrap (a7 + 1)).toNat (List.take a4.length a4))).snd],
                    [Blk.dead, Blk.row false (Kd.str.pair ((Kd.int IntKind.i64).pair (Kd.int IntKind.i64))) a4,
                      Blk.row true (Kd.str.pair ((Kd.int IntKind.i64).pair (Kd.int IntKind.i64)))
                        (losR a0 a1 (a2, a3)
                            (List.drop (IntKind.i64.wrap (a7 + 1)).toNat (List.take a4.length a4))).fst])))
        else
          guardB
            (decide
              (muLo (a0, a1, (a2, a3), (List.take a4.length a4, a5), a6, IntKind.i64.wrap (a7 + 1), PUnit.unit) <
                muLo (a0, a1, (a2, a3), (a4, a5), a6, a7, ())))
            (guardB
              (bif decide (a2.length = a2.length) then
                bif decide (0 + a4.length ≤ a4.length) then
                  preOn a2 (List.take a4.length a4) a6 (IntKind.i64.wrap (a7 + 1)) && okT (List.take a4.length a4)
                else false
              else false)
              (some
                (Xt.exit 0,
                  [PV.sl 2 0 3
                      (losR a0 a1 (a2, a3)
                            (List.drop (IntKind.i64.wrap (a7 + 1)).toNat (List.take a4.length a4))).fst.length
                      (losR a0 a1 (a2, a3)
                            (List.drop (IntKind.i64.wrap (a7 + 1)).toNat (List.take a4.length a4))).fst.length
                      false
                      (losR a0 a1 (a2, a3) (List.drop (IntKind.i64.wrap (a7 + 1)).toNat (List.take a4.length a4))).snd],
                  [Blk.dead, Blk.row false (Kd.str.pair ((Kd.int IntKind.i64).pair (Kd.int IntKind.i64))) a4,
                    Blk.row true (Kd.str.pair ((Kd.int IntKind.i64).pair (Kd.int IntKind.i64)))
                      (losR a0 a1 (a2, a3)
                          (List.drop (IntKind.i64.wrap (a7 + 1)).toNat (List.take a4.length a4))).fst])))
      else
        guardB
          (decide
            (muLo (a0, a1, (a2, a3), (List.take a4.length a4, a5), a6, IntKind.i64.wrap (a7 + 1), PUnit.unit) <
              muLo (a0, a1, (a2, a3), (a4, a5), a6, a7, ())))
          (guardB
            (bif decide (a2.length = a2.length) then
              bif decide (0 + a4.length ≤ a4.length) then
                preOn a2 (List.take a4.length a4) a6 (IntKind.i64.wrap (a7 + 1)) && okT (List.take a4.length a4)
              else false
            else false)
            (some
              (Xt.exit 0,
                [PV.sl 2 0 3
                    (losR a0 a1 (a2, a3)
                          (List.drop (IntKind.i64.wrap (a7 + 1)).toNat (List.take a4.length a4))).fst.length
                    (losR a0 a1 (a2, a3)
                          (List.drop (IntKind.i64.wrap (a7 + 1)).toNat (List.take a4.length a4))).fst.length
                    false
                    (losR a0 a1 (a2, a3) (List.drop (IntKind.i64.wrap (a7 + 1)).toNat (List.take a4.length a4))).snd],
                [Blk.dead, Blk.row false (Kd.str.pair ((Kd.int IntKind.i64).pair (Kd.int IntKind.i64))) a4,
                  Blk.row true (Kd.str.pair ((Kd.int IntKind.i64).pair (Kd.int IntKind.i64)))
                    (losR a0 a1 (a2, a3)
                        (List.drop (IntKind.i64.wrap (a7 + 1)).toNat (List.take a4.length a4))).fst]))))
else
  some
    (Xt.exit 0, [PV.sl 2 0 3 a2.length a2.length false a3],
      [Blk.dead, Blk.row false (Kd.str.pair ((Kd.int IntKind.i64).pair (Kd.int IntKind.i64))) a4,
        Blk.row true (Kd.str.pair ((Kd.int IntKind.i64).pair (Kd.int IntKind.i64))) a2])) := by kernel_rfl
noncomputable abbrev n38L (a0 : List (ByteArray × Int × Int)) (a1 : Bool) (a2 : Int) (a3 : Int) := evFuncV Try.prog C4 (addCut 0 [1, 2, 7, 13, 14, 15] [7] (entC kLo cLo) noCuts) Try.f38 (killA 0 [bR, sI, sI]) (showA 0 [bR, sI, sI] (((a0, a1), ()), (a2, (a3, ())))).1 (showA 0 [bR, sI, sI] (((a0, a1), ()), (a2, (a3, ())))).2
theorem n38 (a0 : List (ByteArray × Int × Int)) (a1 : Bool) (a2 : Int) (a3 : Int) : n38L a0 a1 a2 a3 = (guardB
  (bif decide (0 + a0.length ≤ a0.length) then
    preOn ([] : List T3) (List.take a0.length a0) (↑a0.length : Int) 0 && okT (List.take a0.length a0)
  else false)
  (guardB
    (bif
        decide
          ((losR a2 a3 ([], true) (List.drop (Int.toNat 0) (List.take a0.length a0))).fst.length =
            (losR a2 a3 ([], true) (List.drop (Int.toNat 0) (List.take a0.length a0))).fst.length) then
      decide ((losR a2 a3 ([], true) (List.drop (Int.toNat 0) (List.take a0.length a0))).fst.length ≤ 20) &&
        okT (losR a2 a3 ([], true) (List.drop (Int.toNat 0) (List.take a0.length a0))).fst
    else false)
    (some
      (PV.sl 2 0 3 (losR a2 a3 ([], true) (List.drop (Int.toNat 0) (List.take a0.length a0))).fst.length
          (losR a2 a3 ([], true) (List.drop (Int.toNat 0) (List.take a0.length a0))).fst.length false
          (losR a2 a3 ([], true) (List.drop (Int.toNat 0) (List.take a0.length a0))).snd,
        [Blk.fix true [PV.sl 1 0 3 a0.length a0.length false a1],
          Blk.row false (Kd.str.pair ((Kd.int IntKind.i64).pair (Kd.int IntKind.i64))) a0,
          Blk.row true (Kd.str.pair ((Kd.int IntKind.i64).pair (Kd.int IntKind.i64)))
            (isoT ((losR a2 a3 ([], true) (List.drop (Int.toNat 0) (List.take a0.length a0))).fst.length - 1) 1
              (losR a2 a3 ([], true) (List.drop (Int.toNat 0) (List.take a0.length a0))).fst)])))) := by kernel_rfl
noncomputable abbrev n23L := evFuncV Try.prog T0 noCuts Try.f23 (killA 0 []) (showA 0 [] ()).1 (showA 0 [] ()).2
theorem n23 : n23L = (some (PV.ptr 0 0 1 0, [Blk.fix true [PV.sc (Value.slice none 0 0)]])) := by kernel_rfl
abbrev ansR (M' : List T3) (nl' : Bool) (e : Int) : Option (PV × List Blk) := some (PV.sc (.int .i64 e), [Blk.fix true [PV.sl 2 0 3 M'.length M'.length false nl'], Blk.dead, Blk.row true kT M'])
theorem ansR_len (M' : List T3) (m : Nat) (nl' : Bool) (e : Int) (h : M'.length = m) : some (PV.sc (.int .i64 e), [Blk.fix true [PV.sl 2 0 3 m m false nl'], Blk.dead, Blk.row true kT M']) = ansR M' nl' e := by subst h; rfl
theorem has_lt {c : ByteArray} {M : List T3} (h : hasT c M = true) : 0 ≤ lowI c M ∧ lowI c M < (M.length : Int) := by
  unfold hasT at h
  rw [Bool.and_eq_true] at h
  exact ⟨by unfold lowI; omega, of_decide_eq_true h.1⟩
theorem insG_len {α : Type} (xs ys : List α) (i : Int) : (insG xs i ys).length = xs.length + ys.length := by
  unfold insG
  simp only [List.length_append, List.length_take, List.length_drop]; omega
theorem low_in (c : ByteArray) (M : List T3) : 0 ≤ lowI c M ∧ lowI c M ≤ (M.length : Int) := by
  have := low_le c M
  unfold lowI; omega
theorem q27 (M : List T3) (nl : Bool) (c : ByteArray) (f t : Int) (h : preR M c) : n27L M nl c f t = ansR (tunM M c f t) (bif tunE M c f t == 0 && !hasT c M then false else nl) (tunE M c f t) := by
  obtain ⟨h1, h2, h3⟩ := h
  rw [n27]
  simp only [List.take_length, Nat.zero_add, len_true, cond_true]
  refine guard_split (bp_mk ⟨h1, by omega⟩) (guard_split (decide_eq_true h3) ?_)
  have hE : tunE M c f t = bif !namS c then 6 else bif !valF f || (decide (t < 0) || decide (t > 200000)) then 4 else bif !hasT c M && (M.length : Int) == 24 then 9 else bif hasT c M && decide (t < (atT M (lowI c M)).2.2) then 12 else 0 := rfl
  unfold tunM
  rw [hE]
  cases namS c with
  | false => rfl
  | true =>
    simp only [Bool.not_true, cond_false]
    cases valF f with
    | false => rfl
    | true =>
      simp only [Bool.not_true, cond_false, Bool.false_or]
      cases decide (t < 0) with
      | true => rfl
      | false =>
        simp only [cond_false, Bool.false_or]
        cases decide (t > 200000) with
        | true => rfl
        | false =>
          simp only [cond_false]
          cases hh : hasT c M with
          | false =>
            simp only [Bool.not_false, cond_true, Bool.true_and, cond_false, Bool.false_and]
            cases ((M.length : Int) == 24) with
            | true => rfl
            | false =>
              simp only [cond_false]
              have hi := low_in c M
              refine guard_split ?_ ?_
              · rw [decT, cond_true]; exact decide_eq_true ⟨hi.1, hi.2, by omega, rfl⟩
              · exact ansR_len (insG M (lowI c M) [(c, f, t)]) (M.length + 1) false 0 (by rw [insG_len]; rfl)
          | true =>
            simp only [Bool.not_true, cond_true, Bool.true_and, cond_false, Bool.false_and, Bool.and_false]
            obtain ⟨g1, g2⟩ := has_lt hh
            have hgd : (decide (0 ≤ lowI c M) && decide (lowI c M < (M.length : Int))) = true := by simp; omega
            have hx := at_ex g1 g2
            rw [Nat.zero_add] at hx
            simp only [hgd, hx, guardB, cond_true, bindO]
            cases decide (t < (atT M (lowI c M)).2.2) with
            | true => rfl
            | false => exact ansR_len (M.set (lowI c M).toNat (c, f, t)) M.length nl 0 (List.length_set ..)
theorem q28 (M : List T3) (nl : Bool) (c : ByteArray) (f t : Int) (h : preR M c) : n28L M nl c f t = ansR (heaM M c f t) nl (heaE M c f t) := by
  obtain ⟨h1, h2, h3⟩ := h
  rw [n28]
  simp only [List.take_length, Nat.zero_add, len_true, cond_true]
  refine guard_split (bp_mk ⟨h1, by omega⟩) ?_
  have hE : heaE M c f t = bif !hasT c M then 8 else bif f != (atT M (lowI c M)).2.1 then 11 else bif decide (t < (atT M (lowI c M)).2.2) || decide (t > 200000) then 12 else 0 := rfl
  unfold heaM
  rw [hE]
  cases hh : hasT c M with
  | false => rfl
  | true =>
    simp only [Bool.not_true, cond_false]
    obtain ⟨g1, g2⟩ := has_lt hh
    have hgd : (decide (0 ≤ lowI c M) && decide (lowI c M < (M.length : Int))) = true := by simp; omega
    have hx := at_ex g1 g2
    rw [Nat.zero_add] at hx
    simp only [hgd, hx, guardB, cond_true, bindO]
    cases (f != (atT M (lowI c M)).2.1) with
    | true => rfl
    | false =>
      simp only [cond_false]
      cases decide (t < (atT M (lowI c M)).2.2) with
      | true => rfl
      | false =>
        cases decide (t > 200000) with
        | true => rfl
        | false => exact ansR_len (M.set (lowI c M).toNat ((atT M (lowI c M)).1, (atT M (lowI c M)).2.1, t)) M.length nl 0 (List.length_set ..)
theorem q29 (M : List T3) (nl : Bool) (c : ByteArray) (h : preR M c) : n29L M nl c = ansR (leaM M c) nl (leaE M c) := by
  obtain ⟨h1, h2, h3⟩ := h
  rw [n29]
  simp only [List.take_length, Nat.zero_add, len_true, cond_true]
  refine guard_split (bp_mk ⟨h1, by omega⟩) ?_
  have hE : leaE M c = bif !hasT c M then 8 else 0 := rfl
  unfold leaM
  rw [hE]
  cases hh : hasT c M with
  | false => rfl
  | true =>
    simp only [Bool.not_true, cond_false, cond_true]
    obtain ⟨g1, g2⟩ := has_lt hh
    rw [IntWalk.i64_in (lowI c M + 1) (by omega)]
    exact guard_split (by rw [decT, cond_true]; exact decide_eq_true ⟨rfl, g1, g2, by omega⟩) rfl
theorem q35 (M : List T3) (nl : Bool) (h : M.length ≤ 100) : n35L M nl = cond nl (some (PV.sc (.slice none 0 0), [Blk.fix true [slV 1 kT (M, nl)], Blk.row false kT M])) (some (PV.sl 2 0 3 M.length M.length false false, [Blk.fix true [slV 1 kT (M, nl)], Blk.row false kT M, Blk.row true kT M])) := by
  rw [n35]
  simp only [List.take_length, Nat.zero_add, len_true, cond_true]
  exact guard_split (decide_eq_true h) rfl
theorem preOn_mk {α : Type} {out : List α} {l : List T3} {n k : Int} (h1 : n = l.length) (h2 : 0 ≤ k) (h3 : k ≤ n) (h4 : n ≤ 100) (h5 : (out.length : Int) ≤ k) : preOn out l n k = true := decide_eq_true ⟨h1, h2, h3, h4, h5⟩
theorem app1 {α : Type} (l : List α) (x : α) : (l ++ [x]).length = l.length + 1 := by simp
theorem onR_cons (f : Int) (o : List ByteArray × Bool) (x : T3) (r : List T3) : onR f o (x :: r) = bif x.2.1 == f then onR f (o.1 ++ [x.1], false) r else onR f o r := rfl
theorem losR_cons (T lim : Int) (o : List T3 × Bool) (x : T3) (r : List T3) : losR T lim o (x :: r) = bif losB T lim x then losR T lim (o.1 ++ [x], false) r else losR T lim o r := rfl
theorem q37a (f : Int) (out : List ByteArray) (onl : Bool) (l : List T3) (lnl : Bool) (n k : Int) (h : preOn out l n k = true) : n37aL f out onl l lnl n k = some (Xt.exit 0, [slV 2 .str (onR f (out, onl) (l.drop k.toNat))], [Blk.dead, Blk.row false kT l, Blk.row true .str (onR f (out, onl) (l.drop k.toNat)).1]) := by
  obtain ⟨h1, h2, h3, h4, h5⟩ := of_decide_eq_true h
  rw [n37a]
  simp only [List.take_length, Nat.zero_add, len_true, cond_true]
  refine cond_split (fun hk => ?_) (fun hk => ?_)
  · have hk := of_decide_eq_true hk
    obtain ⟨x, hx⟩ := get_ex (l := l) (k := k.toNat) (by omega)
    rw [hx, drop_cons hx, IntWalk.i64_in (k + 1) (by omega), show (k + 1).toNat = k.toNat + 1 by omega, onR_cons]
    refine guard_split (by simp; omega) ?_
    simp only [bindO]
    refine cond_split (fun hc => ?_) (fun hc => ?_)
    · rw [hc, cond_true]
      refine guard_split (by simp; omega) (guard_split (decide_eq_true (show (n - (k + 1)).toNat < (n - k).toNat by omega)) (guard_split ?_ rfl))
      rw [decide_eq_true (show out.length + 1 = (out ++ [x.1]).length from (app1 _ _).symm), cond_true]
      exact preOn_mk h1 (by omega) (by omega) h4 (by rw [app1]; omega)
    · rw [hc, cond_false]
      refine guard_split (decide_eq_true (show (n - (k + 1)).toNat < (n - k).toNat by omega)) (guard_split ?_ rfl)
      rw [decT, cond_true]
      exact preOn_mk h1 (by omega) (by omega) h4 (by omega)
  · have hk := of_decide_eq_false hk
    rw [List.drop_eq_nil_of_le (by omega)]
    rfl
theorem q37 (M : List T3) (nl : Bool) (f : Int) (h : M.length ≤ 100) : n37L M nl f = some (slV 2 .str (onR f ([], true) M), [Blk.fix true [slV 1 kT (M, nl)], Blk.row false kT M, Blk.row true .str (onR f ([], true) M).1]) := by
  rw [n37]
  simp only [List.take_length, Nat.zero_add, len_true, cond_true, show Int.toNat 0 = 0 from rfl, List.drop_zero]
  exact guard_split (preOn_mk rfl (by omega) (by omega) (by omega) (by simp)) rfl
theorem q55 (L : List T3) (nl : Bool) (h : (decide (L.length ≤ 20) && okT L) = true) : n55L L nl = some (PV.tup [], [Blk.row true kT (isoT (L.length - 1) 1 L)]) := by
  rw [Bool.and_eq_true] at h
  rw [n55]
  refine guard_split ?_ rfl
  rw [decide_eq_true (show L.length = L.length from rfl), cond_true, h.2, Bool.and_true]
  exact decide_eq_true ⟨rfl, of_decide_eq_true h.1⟩
abbrev ansL' (l : List T3) (r : List T3 × Bool) : Option (Xt × List PV × List Blk) := some (Xt.exit 0, [slV 2 kT r], [Blk.dead, Blk.row false kT l, Blk.row true kT r.1])
theorem q38a (T lim : Int) (out : List T3) (onl : Bool) (l : List T3) (lnl : Bool) (n k : Int) (h : (preOn out l n k && okT l) = true) : n38aL T lim out onl l lnl n k = ansL' l (losR T lim (out, onl) (l.drop k.toNat)) := by
  rw [Bool.and_eq_true] at h
  obtain ⟨h1, h2, h3, h4, h5⟩ := of_decide_eq_true h.1
  have hok := h.2
  rw [n38a]
  simp only [List.take_length, Nat.zero_add, len_true, cond_true]
  refine cond_split (fun hk => ?_) (fun hk => ?_)
  · have hk := of_decide_eq_true hk
    obtain ⟨x, hx⟩ := get_ex (l := l) (k := k.toNat) (by omega)
    have hr := inS_at (okT_iff.1 hok x (List.mem_of_getElem? hx))
    rw [hx, drop_cons hx, IntWalk.i64_in (k + 1) (by omega), show (k + 1).toNat = k.toNat + 1 by omega, losR_cons]
    have no : losB T lim x = false → guardB (decide (muLo (T, lim, (out, onl), (l, lnl), n, k + 1, PUnit.unit) < muLo (T, lim, (out, onl), (l, lnl), n, k, ()))) (guardB (bif decide (out.length = out.length) then preOn out l n (k + 1) && okT l else false)
        (ansL' l (losR T lim (out, onl) (l.drop (k.toNat + 1))))) = ansL' l (bif losB T lim x then losR T lim (out ++ [x], false) (l.drop (k.toNat + 1)) else losR T lim (out, onl) (l.drop (k.toNat + 1))) := by
      intro hb
      rw [hb, cond_false]
      refine guard_split (decide_eq_true (show (n - (k + 1)).toNat < (n - k).toNat by omega)) (guard_split ?_ rfl)
      rw [decide_eq_true (show out.length = out.length from rfl), cond_true, hok, Bool.and_true]
      exact preOn_mk h1 (by omega) (by omega) h4 (by omega)
    simp only [eq_self] at no
    refine guard_split (by simp; omega) ?_
    simp only [bindO]
    refine cond_split (fun c1 => ?_) (fun c1 => no (by unfold losB; rw [c1]; rfl))
    refine cond_split (fun c2 => ?_) (fun c2 => no (by unfold losB; rw [c1, c2]; rfl))
    refine cond_split (fun c3 => ?_) (fun c3 => no (by unfold losB; rw [c1, c2, c3]; rfl))
    have g1 := of_decide_eq_true c1
    have g2 := of_decide_eq_true c2
    rw [IntWalk.i64_in (T - x.2.2) (by omega)]
    refine cond_split (fun c4 => ?_) (fun c4 => no (by unfold losB; rw [c1, c2, c3, c4]; rfl))
    rw [show losB T lim x = true by unfold losB; rw [c1, c2, c3, c4]; rfl, cond_true]
    refine guard_split (by simp; omega) (guard_split (decide_eq_true (show (n - (k + 1)).toNat < (n - k).toNat by omega)) (guard_split ?_ rfl))
    rw [decide_eq_true (show out.length + 1 = (out ++ [x]).length from (app1 _ _).symm), cond_true, hok, Bool.and_true]
    exact preOn_mk h1 (by omega) (by omega) h4 (by rw [app1]; omega)
  · have hk := of_decide_eq_false hk
    rw [List.drop_eq_nil_of_le (by omega)]
    rfl
theorem losR_eq (T lim : Int) : ∀ (l : List T3) (o : List T3 × Bool), (losR T lim o l).1 = o.1 ++ l.filter (losB T lim)
  | [], o => by show o.1 = _; simp
  | x :: r, o => by
    rw [losR_cons, List.filter_cons]
    cases losB T lim x with
    | true => simp only [cond_true, if_true]; rw [losR_eq T lim r]; simp
    | false => simp only [cond_false, Bool.false_eq_true, if_false]; exact losR_eq T lim r o
theorem los_ok {T lim : Int} {M : List T3} (h : okT M = true) : okT (losR T lim ([], true) M).1 = true := by
  rw [losR_eq, okT_iff]
  intro x hx
  exact okT_iff.1 h x ((List.mem_filter.1 (by simpa using hx)).1)
theorem los_len (T lim : Int) (M : List T3) : (losR T lim ([], true) M).1.length ≤ M.length := by
  rw [losR_eq]; exact List.length_filter_le _ _
theorem q38 (M : List T3) (nl : Bool) (T lim : Int) (h : (decide (M.length ≤ 20) && okT M) = true) : n38L M nl T lim = some (slV 2 kT (lostR T lim M), [Blk.fix true [slV 1 kT (M, nl)], Blk.row false kT M, Blk.row true kT (lostR T lim M).1]) := by
  rw [Bool.and_eq_true] at h
  have hl := of_decide_eq_true h.1
  have h2 := los_len T lim M
  rw [n38]
  simp only [List.take_length, Nat.zero_add, len_true, cond_true, show Int.toNat 0 = 0 from rfl, List.drop_zero]
  refine guard_split ?_ (guard_split ?_ ?_)
  · rw [h.2, Bool.and_true]; exact preOn_mk rfl (by omega) (by omega) (by omega) (by simp)
  · rw [decT, cond_true, los_ok h.2, Bool.and_true]; exact decide_eq_true (by omega)
  · have e : (lostR T lim M).1.length = (losR T lim ([], true) M).1.length := iso_len _ _ _
    show _ = some (PV.sl 2 0 3 (lostR T lim M).1.length (lostR T lim M).1.length false (lostR T lim M).2, _)
    rw [e]; rfl
theorem C4_ok : TableOK Try.prog C4 :=
  ext_ok (entV_ok Try.call27 (liftV C3_ok mixed Try.func27 (show Try.f27.body = some (bodyF Try.f27) from rfl) (noCuts_ok _) (by decide) fun v h => q27 v.1.1.1 v.1.1.2 v.2.1 v.2.2.1 v.2.2.2.1 (bp_true.1 h))) <|
  ext_ok (entV_ok Try.call28 (liftV C3_ok mixed Try.func28 (show Try.f28.body = some (bodyF Try.f28) from rfl) (noCuts_ok _) (by decide) fun v h => q28 v.1.1.1 v.1.1.2 v.2.1 v.2.2.1 v.2.2.2.1 (bp_true.1 h))) <|
  ext_ok (entV_ok Try.call29 (liftV C3_ok mixed Try.func29 (show Try.f29.body = some (bodyF Try.f29) from rfl) (noCuts_ok _) (by decide) fun v h => q29 v.1.1.1 v.1.1.2 v.2.1 (bp_true.1 h))) <|
  ext_ok (entV_ok Try.call35 (liftV C3_ok mixed Try.func35 (show Try.f35.body = some (bodyF Try.f35) from rfl) (noCuts_ok _) (by decide) fun v h => q35 v.1.1.1 v.1.1.2 (of_decide_eq_true h))) <|
  ext_ok (entV_ok Try.call37 (liftV C3_ok mixed Try.func37 (show Try.f37.body = some (bodyF Try.f37) from rfl) (cut_cons (by kernel_rfl) (loop_cutW C3_ok mixed muOn (by kernel_rfl) (noCuts_ok _) fun v h => q37a v.1 v.2.1.1 v.2.1.2 v.2.2.1.1 v.2.2.1.2 v.2.2.2.1 v.2.2.2.2.1 h) (noCuts_ok _)) (by decide) fun v h => q37 v.1.1.1 v.1.1.2 v.2.1 (of_decide_eq_true h))) <|
  ext_ok (entV_ok Try.call55 (liftV C3_ok mixed Try.func55 (show Try.f55.body = some (bodyF Try.f55) from rfl) (noCuts_ok _) (by decide) fun v h => q55 v.1.1 v.1.2 h)) C3_ok
theorem C5_ok : TableOK Try.prog C5 :=
  ext_ok (entV_ok Try.call38 (liftV C4_ok mixed Try.func38 (show Try.f38.body = some (bodyF Try.f38) from rfl) (cut_cons (by kernel_rfl) (loop_cutW C4_ok mixed muLo (by kernel_rfl) (noCuts_ok _) fun v h => q38a v.1 v.2.1 v.2.2.1.1 v.2.2.1.2 v.2.2.2.1.1 v.2.2.2.1.2 v.2.2.2.2.1 v.2.2.2.2.2.1 h) (noCuts_ok _)) (by decide) fun v h => q38 v.1.1.1 v.1.1.2 v.2.1 v.2.2.1 h)) <|
  ext_ok (entV_ok Try.call23 (liftV (T0_ok _) mixed Try.func23 (show Try.f23.body = some (bodyF Try.f23) from rfl) (noCuts_ok _) (by decide) fun v _ => n23)) C4_ok
end Go.Proofs.YtokephobkllfgaaCn
