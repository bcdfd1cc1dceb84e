/- What is proved: a stack does what its model does (the law's loop). No condition. -/
import Derived.Test.YtacdahpjmeianaaTho4
namespace Go.Proofs.YtacdahpjmeianaaHo
open Go Go.Proofs Go.Proofs.YtacdahpjmeianaaEv
set_option maxRecDepth 100000
set_option maxHeartbeats 4000000
set_option linter.unusedVariables false
set_option linter.unusedSimpArgs false
noncomputable abbrev h8wL (w1 : Int) (w2 : Int) (w3 : Int) (M : List (ByteArray × Int × Int)) (mn : Bool) (last : Int) (v1 : Int) (v2 : Int) (v3 : Int) (L : List (ByteArray × Int × Int)) (lam : Int) (c1 : Int) (c2 : ByteArray) (c3 : Int) (s1 : Int) (s2 : Int) (s3 : Int) (C : List (Int × ByteArray × Int)) (nl : Bool) := (evBlock Try.prog H4 noCuts 190 (codeAt 0 (bodyF Try.f8)) kW0 (killA 0 kW0) [2, 9] [9] ((w1, w2, w3), 0, ()))
theorem h8w (w1 : Int) (w2 : Int) (w3 : Int) (M : List (ByteArray × Int × Int)) (mn : Bool) (last : Int) (v1 : Int) (v2 : Int) (v3 : Int) (L : List (ByteArray × Int × Int)) (lam : Int) (c1 : Int) (c2 : ByteArray) (c3 : Int) (s1 : Int) (s2 : Int) (s3 : Int) (C : List (Int × ByteArray × Int)) (nl : Bool) : h8wL w1 w2 w3 M mn last v1 v2 v3 L lam c1 c2 c3 s1 s2 s3 C nl = (bif decide (w1 < 0) then
  some
    (Xt.normal, [PV.sc (Value.int IntKind.i64 4)],
      [Blk.fix false
          [PV.sc (Value.int IntKind.i64 w1), PV.sc (Value.int IntKind.i64 w2), PV.sc (Value.int IntKind.i64 w3)]])
else
  bif decide (w2 > 60000) then
    some
      (Xt.normal, [PV.sc (Value.int IntKind.i64 4)],
        [Blk.fix false
            [PV.sc (Value.int IntKind.i64 w1), PV.sc (Value.int IntKind.i64 w2), PV.sc (Value.int IntKind.i64 w3)]])
  else
    bif !inS w3 100 10000 then
      some
        (Xt.normal, [PV.sc (Value.int IntKind.i64 4)],
          [Blk.fix false
              [PV.sc (Value.int IntKind.i64 w1), PV.sc (Value.int IntKind.i64 w2), PV.sc (Value.int IntKind.i64 w3)]])
    else
      bif decide (w1 > w2) then
        some
          (Xt.normal, [PV.sc (Value.int IntKind.i64 3)],
            [Blk.fix false
                [PV.sc (Value.int IntKind.i64 w1), PV.sc (Value.int IntKind.i64 w2), PV.sc (Value.int IntKind.i64 w3)]])
      else
        guardB (!decide (w3 = 0))
          (bif decide (IntKind.i64.wrap ((IntKind.i64.wrap (w2 - w1)).tdiv w3) ≥ 32) then
            some
              (Xt.normal, [PV.sc (Value.int IntKind.i64 2)],
                [Blk.fix false
                    [PV.sc (Value.int IntKind.i64 w1), PV.sc (Value.int IntKind.i64 w2),
                      PV.sc (Value.int IntKind.i64 w3)]])
          else
            some
              (Xt.normal, [PV.sc (Value.int IntKind.i64 0)],
                [Blk.fix false
                    [PV.sc (Value.int IntKind.i64 w1), PV.sc (Value.int IntKind.i64 w2),
                      PV.sc (Value.int IntKind.i64 w3)]]))) := by kernel_rfl
noncomputable abbrev h8s0L (w1 : Int) (w2 : Int) (w3 : Int) (M : List (ByteArray × Int × Int)) (mn : Bool) (last : Int) (v1 : Int) (v2 : Int) (v3 : Int) (L : List (ByteArray × Int × Int)) (lam : Int) (c1 : Int) (c2 : ByteArray) (c3 : Int) (s1 : Int) (s2 : Int) (s3 : Int) (C : List (Int × ByteArray × Int)) (nl : Bool) := (evBlock Try.prog H4 noCuts 190 (codeAt 3 (bodyF Try.f8)) kSw (killA 0 kSw) [10, 12, 14, 118] [15, 16, 17, 18]
  (((w1, w2, w3), (M, mn), last, ()), ((v1, v2, v3), L, lam), (c1, c2, c3), 0, ()))
theorem h8s0 (w1 : Int) (w2 : Int) (w3 : Int) (M : List (ByteArray × Int × Int)) (mn : Bool) (last : Int) (v1 : Int) (v2 : Int) (v3 : Int) (L : List (ByteArray × Int × Int)) (lam : Int) (c1 : Int) (c2 : ByteArray) (c3 : Int) (s1 : Int) (s2 : Int) (s3 : Int) (C : List (Int × ByteArray × Int)) (nl : Bool) : h8s0L w1 w2 w3 M mn last v1 v2 v3 L lam c1 c2 c3 s1 s2 s3 C nl = (guardB (bif decide (M.length = M.length) then bp (preK (skV ((w1, w2, w3), (M, mn), last, PUnit.unit)) c2) else false)
  (guardB (bp (preM ((v1, v2, v3), L, lam) c2))
    (some
      (Xt.normal,
        [PV.sc (Value.int IntKind.i64 (entVal (skV ((w1, w2, w3), (M, mn), last, PUnit.unit)) c2 c3)),
          PV.sc (Value.int IntKind.i64 (menV ((v1, v2, v3), L, lam) c2 c3)),
          PV.sc (Value.int IntKind.i64 (entE (skV ((w1, w2, w3), (M, mn), last, PUnit.unit)) c2 c3)),
          PV.sc (Value.int IntKind.i64 (menE ((v1, v2, v3), L, lam) c2 c3))],
        [Blk.fix true
            [PV.sc
                (Value.int IntKind.i64
                  (skP (entM (skV ((w1, w2, w3), (M, mn), last, PUnit.unit)) c2 c3)
                        (bif entE (skV ((w1, w2, w3), (M, mn), last, PUnit.unit)) c2 c3 == 0 then false
                        else mn)).fst.fst),
              PV.sc
                (Value.int IntKind.i64
                  (skP (entM (skV ((w1, w2, w3), (M, mn), last, PUnit.unit)) c2 c3)
                          (bif entE (skV ((w1, w2, w3), (M, mn), last, PUnit.unit)) c2 c3 == 0 then false
                          else mn)).fst.snd.fst),
              PV.sc
                (Value.int IntKind.i64
                  (skP (entM (skV ((w1, w2, w3), (M, mn), last, PUnit.unit)) c2 c3)
                          (bif entE (skV ((w1, w2, w3), (M, mn), last, PUnit.unit)) c2 c3 == 0 then false
                          else mn)).fst.snd.snd),
              PV.sl 4 0 3
                (skP (entM (skV ((w1, w2, w3), (M, mn), last, PUnit.unit)) c2 c3)
                          (bif entE (skV ((w1, w2, w3), (M, mn), last, PUnit.unit)) c2 c3 == 0 then false
                          else mn)).snd.fst.fst.length
                (skP (entM (skV ((w1, w2, w3), (M, mn), last, PUnit.unit)) c2 c3)
                          (bif entE (skV ((w1, w2, w3), (M, mn), last, PUnit.unit)) c2 c3 == 0 then false
                          else mn)).snd.fst.fst.length
                false (bif entE (skV ((w1, w2, w3), (M, mn), last, PUnit.unit)) c2 c3 == 0 then false else mn),
              PV.sc (Value.int IntKind.i64 (entM (skV ((w1, w2, w3), (M, mn), last, PUnit.unit)) c2 c3).snd.snd)],
          Blk.dead,
          Blk.mix true
            [PV.sc (Value.int IntKind.i64 (menM ((v1, v2, v3), L, lam) c2 c3).fst.fst),
              PV.sc (Value.int IntKind.i64 (menM ((v1, v2, v3), L, lam) c2 c3).fst.snd.fst),
              PV.sc (Value.int IntKind.i64 (menM ((v1, v2, v3), L, lam) c2 c3).fst.snd.snd)]
            (Kd.str.pair ((Kd.int IntKind.i64).pair (Kd.int IntKind.i64))) 32
            (menM ((v1, v2, v3), L, lam) c2 c3).snd.fst
            [PV.sc (Value.int IntKind.i64 (menM ((v1, v2, v3), L, lam) c2 c3).snd.snd)],
          Blk.fix false [PV.sc (Value.int IntKind.i64 c1), PV.sc (Value.string c2), PV.sc (Value.int IntKind.i64 c3)],
          Blk.row true (Kd.str.pair ((Kd.int IntKind.i64).pair (Kd.int IntKind.i64)))
            (entM (skV ((w1, w2, w3), (M, mn), last, PUnit.unit)) c2 c3).snd.fst])))) := by kernel_rfl
noncomputable abbrev h8s1L (w1 : Int) (w2 : Int) (w3 : Int) (M : List (ByteArray × Int × Int)) (mn : Bool) (last : Int) (v1 : Int) (v2 : Int) (v3 : Int) (L : List (ByteArray × Int × Int)) (lam : Int) (c1 : Int) (c2 : ByteArray) (c3 : Int) (s1 : Int) (s2 : Int) (s3 : Int) (C : List (Int × ByteArray × Int)) (nl : Bool) := (evBlock Try.prog H4 noCuts 190 (codeAt 3 (bodyF Try.f8)) kSw (killA 0 kSw) [10, 12, 14, 118] [15, 16, 17, 18]
  (((w1, w2, w3), (M, mn), last, ()), ((v1, v2, v3), L, lam), (c1, c2, c3), 1, ()))
theorem h8s1 (w1 : Int) (w2 : Int) (w3 : Int) (M : List (ByteArray × Int × Int)) (mn : Bool) (last : Int) (v1 : Int) (v2 : Int) (v3 : Int) (L : List (ByteArray × Int × Int)) (lam : Int) (c1 : Int) (c2 : ByteArray) (c3 : Int) (s1 : Int) (s2 : Int) (s3 : Int) (C : List (Int × ByteArray × Int)) (nl : Bool) : h8s1L w1 w2 w3 M mn last v1 v2 v3 L lam c1 c2 c3 s1 s2 s3 C nl = (guardB (bif decide (M.length = M.length) then bp (preK (skV ((w1, w2, w3), (M, mn), last, PUnit.unit)) eS) else false)
  (guardB (bp (preM ((v1, v2, v3), L, lam) eS))
    (some
      (Xt.normal,
        [PV.sc (Value.int IntKind.i64 (sdnV (skV ((w1, w2, w3), (M, mn), last, PUnit.unit)) c3)),
          PV.sc (Value.int IntKind.i64 (mdnV ((v1, v2, v3), L, lam) c3)),
          PV.sc (Value.int IntKind.i64 (sdnE (skV ((w1, w2, w3), (M, mn), last, PUnit.unit)) c3)),
          PV.sc (Value.int IntKind.i64 (mdnE ((v1, v2, v3), L, lam) c3))],
        [Blk.fix true
            [PV.sc (Value.int IntKind.i64 (skP (sdnM (skV ((w1, w2, w3), (M, mn), last, PUnit.unit)) c3) mn).fst.fst),
              PV.sc
                (Value.int IntKind.i64 (skP (sdnM (skV ((w1, w2, w3), (M, mn), last, PUnit.unit)) c3) mn).fst.snd.fst),
              PV.sc
                (Value.int IntKind.i64 (skP (sdnM (skV ((w1, w2, w3), (M, mn), last, PUnit.unit)) c3) mn).fst.snd.snd),
              PV.sl 4 0 3 (skP (sdnM (skV ((w1, w2, w3), (M, mn), last, PUnit.unit)) c3) mn).snd.fst.fst.length
                (skP (sdnM (skV ((w1, w2, w3), (M, mn), last, PUnit.unit)) c3) mn).snd.fst.fst.length false mn,
              PV.sc (Value.int IntKind.i64 (sdnM (skV ((w1, w2, w3), (M, mn), last, PUnit.unit)) c3).snd.snd)],
          Blk.dead,
          Blk.mix true
            [PV.sc (Value.int IntKind.i64 (mdnM ((v1, v2, v3), L, lam) c3).fst.fst),
              PV.sc (Value.int IntKind.i64 (mdnM ((v1, v2, v3), L, lam) c3).fst.snd.fst),
              PV.sc (Value.int IntKind.i64 (mdnM ((v1, v2, v3), L, lam) c3).fst.snd.snd)]
            (Kd.str.pair ((Kd.int IntKind.i64).pair (Kd.int IntKind.i64))) 32 (mdnM ((v1, v2, v3), L, lam) c3).snd.fst
            [PV.sc (Value.int IntKind.i64 (mdnM ((v1, v2, v3), L, lam) c3).snd.snd)],
          Blk.fix false [PV.sc (Value.int IntKind.i64 c1), PV.sc (Value.string c2), PV.sc (Value.int IntKind.i64 c3)],
          Blk.row true (Kd.str.pair ((Kd.int IntKind.i64).pair (Kd.int IntKind.i64)))
            (sdnM (skV ((w1, w2, w3), (M, mn), last, PUnit.unit)) c3).snd.fst])))) := by kernel_rfl
noncomputable abbrev h8s2L (w1 : Int) (w2 : Int) (w3 : Int) (M : List (ByteArray × Int × Int)) (mn : Bool) (last : Int) (v1 : Int) (v2 : Int) (v3 : Int) (L : List (ByteArray × Int × Int)) (lam : Int) (c1 : Int) (c2 : ByteArray) (c3 : Int) (s1 : Int) (s2 : Int) (s3 : Int) (C : List (Int × ByteArray × Int)) (nl : Bool) := (evBlock Try.prog H4 noCuts 190 (codeAt 3 (bodyF Try.f8)) kSw (killA 0 kSw) [10, 12, 14, 118] [15, 16, 17, 18]
  (((w1, w2, w3), (M, mn), last, ()), ((v1, v2, v3), L, lam), (c1, c2, c3), 2, ()))
theorem h8s2 (w1 : Int) (w2 : Int) (w3 : Int) (M : List (ByteArray × Int × Int)) (mn : Bool) (last : Int) (v1 : Int) (v2 : Int) (v3 : Int) (L : List (ByteArray × Int × Int)) (lam : Int) (c1 : Int) (c2 : ByteArray) (c3 : Int) (s1 : Int) (s2 : Int) (s3 : Int) (C : List (Int × ByteArray × Int)) (nl : Bool) : h8s2L w1 w2 w3 M mn last v1 v2 v3 L lam c1 c2 c3 s1 s2 s3 C nl = (guardB (bif decide (M.length = M.length) then bp (preK (skV ((w1, w2, w3), (M, mn), last, PUnit.unit)) c2) else false)
  (guardB (bp (preM ((v1, v2, v3), L, lam) c2))
    (some
      (Xt.normal,
        [PV.sc (Value.int IntKind.i64 (slvV (skV ((w1, w2, w3), (M, mn), last, PUnit.unit)) c2 c3)),
          PV.sc (Value.int IntKind.i64 (mlvV ((v1, v2, v3), L, lam) c2 c3)),
          PV.sc (Value.int IntKind.i64 (slvE (skV ((w1, w2, w3), (M, mn), last, PUnit.unit)) c2 c3)),
          PV.sc (Value.int IntKind.i64 (mlvE ((v1, v2, v3), L, lam) c2 c3))],
        [Blk.fix true
            [PV.sc
                (Value.int IntKind.i64 (skP (slvM (skV ((w1, w2, w3), (M, mn), last, PUnit.unit)) c2 c3) mn).fst.fst),
              PV.sc
                (Value.int IntKind.i64
                  (skP (slvM (skV ((w1, w2, w3), (M, mn), last, PUnit.unit)) c2 c3) mn).fst.snd.fst),
              PV.sc
                (Value.int IntKind.i64
                  (skP (slvM (skV ((w1, w2, w3), (M, mn), last, PUnit.unit)) c2 c3) mn).fst.snd.snd),
              PV.sl 4 0 3 (skP (slvM (skV ((w1, w2, w3), (M, mn), last, PUnit.unit)) c2 c3) mn).snd.fst.fst.length
                (skP (slvM (skV ((w1, w2, w3), (M, mn), last, PUnit.unit)) c2 c3) mn).snd.fst.fst.length false mn,
              PV.sc (Value.int IntKind.i64 (slvM (skV ((w1, w2, w3), (M, mn), last, PUnit.unit)) c2 c3).snd.snd)],
          Blk.dead,
          Blk.mix true
            [PV.sc (Value.int IntKind.i64 (mlvM ((v1, v2, v3), L, lam) c2 c3).fst.fst),
              PV.sc (Value.int IntKind.i64 (mlvM ((v1, v2, v3), L, lam) c2 c3).fst.snd.fst),
              PV.sc (Value.int IntKind.i64 (mlvM ((v1, v2, v3), L, lam) c2 c3).fst.snd.snd)]
            (Kd.str.pair ((Kd.int IntKind.i64).pair (Kd.int IntKind.i64))) 32
            (mlvM ((v1, v2, v3), L, lam) c2 c3).snd.fst
            [PV.sc (Value.int IntKind.i64 (mlvM ((v1, v2, v3), L, lam) c2 c3).snd.snd)],
          Blk.fix false [PV.sc (Value.int IntKind.i64 c1), PV.sc (Value.string c2), PV.sc (Value.int IntKind.i64 c3)],
          Blk.row true (Kd.str.pair ((Kd.int IntKind.i64).pair (Kd.int IntKind.i64)))
            (slvM (skV ((w1, w2, w3), (M, mn), last, PUnit.unit)) c2 c3).snd.fst])))) := by kernel_rfl
noncomputable abbrev h8lL (a0 : Int) (a1 : Int) (a2 : Int) (a3 : List (ByteArray × Int × Int)) (a4 : Bool) (a5 : Int) (a6 : Int) (a7 : Int) (a8 : Int) (a9 : List (ByteArray × Int × Int)) (a10 : Int) (a11 : List (Int × ByteArray × Int)) (a12 : Bool) (a13 : Int) (a14 : Int) := evRound Try.prog H4 (addCut 3 [10, 12, 14, 118] [15, 16, 17, 18] (entC kSw cSw) noCuts) 190 (loopOf (codeAt 1 (bodyF Try.f8))) kLw muLw (killA 0 kLw) [10, 12, 110, 111, 112] [4] cLw (((a0, (a1, a2)), ((a3, a4), (a5, ()))), (((a6, (a7, a8)), (a9, a10)), ((a11, a12), (a13, (a14, ())))))
theorem h8l (a0 : Int) (a1 : Int) (a2 : Int) (a3 : List (ByteArray × Int × Int)) (a4 : Bool) (a5 : Int) (a6 : Int) (a7 : Int) (a8 : Int) (a9 : List (ByteArray × Int × Int)) (a10 : Int) (a11 : List (Int × ByteArray × Int)) (a12 : Bool) (a13 : Int) (a14 : Int) : h8lL a0 a1 a2 a3 a4 a5 a6 a7 a8 a9 a10 a11 a12 a13 a14 = (bif decide (a14 < a13) then
  guardB (decide (0 ≤ a14) && decide (a14 < (↑a11.length : Int)))
    (bindO a11[0 + a14.toNat]? fun x =>
      guardB
        (bif decide (a3.length = a3.length) then
          bp
            (preK (skV ((a0, a1, a2), (a3, a4), a5, ())) x.snd.fst ∧
              preM ((a6, a7, a8), a9, a10) x.snd.fst ∧ 0 ≤ cutS x.fst 2 ∧ cutS x.fst 2 ≤ 2)
        else false)
        (bif
            stkV (cutS x.fst 2) (skV ((a0, a1, a2), (a3, a4), a5, ())) x !=
              modV (cutS x.fst 2) ((a6, a7, a8), a9, a10) x then
          some
            (Xt.ret, [PV.sc (Value.bool false)],
              [Blk.fix true
                  [PV.sc
                      (Value.int IntKind.i64
                        (skP (stkM (cutS x.fst 2) (skV ((a0, a1, a2), (a3, a4), a5, ())) x)
                              (stkN (cutS x.fst 2) (skV ((a0, a1, a2), (a3, a4), a5, ())) a4 x)).fst.fst),
                    PV.sc
                      (Value.int IntKind.i64
                        (skP (stkM (cutS x.fst 2) (skV ((a0, a1, a2), (a3, a4), a5, ())) x)
                                (stkN (cutS x.fst 2) (skV ((a0, a1, a2), (a3, a4), a5, ())) a4 x)).fst.snd.fst),
                    PV.sc
                      (Value.int IntKind.i64
                        (skP (stkM (cutS x.fst 2) (skV ((a0, a1, a2), (a3, a4), a5, ())) x)
                                (stkN (cutS x.fst 2) (skV ((a0, a1, a2), (a3, a4), a5, ())) a4 x)).fst.snd.snd),
                    PV.sl 4 0 3
                      (skP (stkM (cutS x.fst 2) (skV ((a0, a1, a2), (a3, a4), a5, ())) x)
                                (stkN (cutS x.fst 2) (skV ((a0, a1, a2), (a3, a4), a5, ())) a4
                                  x)).snd.fst.fst.length
                      (skP (stkM (cutS x.fst 2) (skV ((a0, a1, a2), (a3, a4), a5, ())) x)
                                (stkN (cutS x.fst 2) (skV ((a0, a1, a2), (a3, a4), a5, ())) a4
                                  x)).snd.fst.fst.length
                      false (stkN (cutS x.fst 2) (skV ((a0, a1, a2), (a3, a4), a5, ())) a4 x),
                    PV.sc
                      (Value.int IntKind.i64
                        (stkM (cutS x.fst 2) (skV ((a0, a1, a2), (a3, a4), a5, ())) x).snd.snd)],
                Blk.dead,
                Blk.mix true
                  [PV.sc (Value.int IntKind.i64 (modM (cutS x.fst 2) ((a6, a7, a8), a9, a10) x).fst.fst),
                    PV.sc (Value.int IntKind.i64 (modM (cutS x.fst 2) ((a6, a7, a8), a9, a10) x).fst.snd.fst),
                    PV.sc (Value.int IntKind.i64 (modM (cutS x.fst 2) ((a6, a7, a8), a9, a10) x).fst.snd.snd)]
                  (Kd.str.pair ((Kd.int IntKind.i64).pair (Kd.int IntKind.i64))) 32
                  (modM (cutS x.fst 2) ((a6, a7, a8), a9, a10) x).snd.fst
                  [PV.sc (Value.int IntKind.i64 (modM (cutS x.fst 2) ((a6, a7, a8), a9, a10) x).snd.snd)],
                Blk.row false ((Kd.int IntKind.i64).pair (Kd.str.pair (Kd.int IntKind.i64))) a11,
                Blk.row true (Kd.str.pair ((Kd.int IntKind.i64).pair (Kd.int IntKind.i64)))
                  (stkM (cutS x.fst 2) (skV ((a0, a1, a2), (a3, a4), a5, ())) x).snd.fst])
        else
          bif
              stkE (cutS x.fst 2) (skV ((a0, a1, a2), (a3, a4), a5, ())) x !=
                modE (cutS x.fst 2) ((a6, a7, a8), a9, a10) x then
            some
              (Xt.ret, [PV.sc (Value.bool false)],
                [Blk.fix true
                    [PV.sc
                        (Value.int IntKind.i64
                          (skP (stkM (cutS x.fst 2) (skV ((a0, a1, a2), (a3, a4), a5, ())) x)
                                (stkN (cutS x.fst 2) (skV ((a0, a1, a2), (a3, a4), a5, ())) a4 x)).fst.fst),
                      PV.sc
                        (Value.int IntKind.i64
                          (skP (stkM (cutS x.fst 2) (skV ((a0, a1, a2), (a3, a4), a5, ())) x)
                                  (stkN (cutS x.fst 2) (skV ((a0, a1, a2), (a3, a4), a5, ())) a4
                                    x)).fst.snd.fst),
                      PV.sc
                        (Value.int IntKind.i64
                          (skP (stkM (cutS x.fst 2) (skV ((a0, a1, a2), (a3, a4), a5, ())) x)
                                  (stkN (cutS x.fst 2) (skV ((a0, a1, a2), (a3, a4), a5, ())) a4
                                    x)).fst.snd.snd),
                      PV.sl 4 0 3
                        (skP (stkM (cutS x.fst 2) (skV ((a0, a1, a2), (a3, a4), a5, ())) x)
                                  (stkN (cutS x.fst 2) (skV ((a0, a1, a2), (a3, a4), a5, ())) a4
                                    x)).snd.fst.fst.length
                        (skP (stkM (cutS x.fst 2) (skV ((a0, a1, a2), (a3, a4), a5, ())) x)
                                  (stkN (cutS x.fst 2) (skV ((a0, a1, a2), (a3, a4), a5, ())) a4
                                    x)).snd.fst.fst.length
                        false (stkN (cutS x.fst 2) (skV ((a0, a1, a2), (a3, a4), a5, ())) a4 x),
                      PV.sc
                        (Value.int IntKind.i64
                          (stkM (cutS x.fst 2) (skV ((a0, a1, a2), (a3, a4), a5, ())) x).snd.snd)],
                  Blk.dead,
                  Blk.mix true
                    [PV.sc (Value.int IntKind.i64 (modM (cutS x.fst 2) ((a6, a7, a8), a9, a10) x).fst.fst),
                      PV.sc (Value.int IntKind.i64 (modM (cutS x.fst 2) ((a6, a7, a8), a9, a10) x).fst.snd.fst),
                      PV.sc (Value.int IntKind.i64 (modM (cutS x.fst 2) ((a6, a7, a8), a9, a10) x).fst.snd.snd)]
                    (Kd.str.pair ((Kd.int IntKind.i64).pair (Kd.int IntKind.i64))) 32
                    (modM (cutS x.fst 2) ((a6, a7, a8), a9, a10) x).snd.fst
                    [PV.sc (Value.int IntKind.i64 (modM (cutS x.fst 2) ((a6, a7, a8), a9, a10) x).snd.snd)],
                  Blk.row false ((Kd.int IntKind.i64).pair (Kd.str.pair (Kd.int IntKind.i64))) a11,
                  Blk.row true (Kd.str.pair ((Kd.int IntKind.i64).pair (Kd.int IntKind.i64)))
                    (stkM (cutS x.fst 2) (skV ((a0, a1, a2), (a3, a4), a5, ())) x).snd.fst])
          else
            guardB
              (bif
                  decide
                    (0 +
                        (skP (stkM (cutS x.fst 2) (skV ((a0, a1, a2), (a3, a4), a5, ())) x)
                                  (stkN (cutS x.fst 2) (skV ((a0, a1, a2), (a3, a4), a5, ())) a4
                                    x)).snd.fst.fst.length ≤
                      (stkM (cutS x.fst 2) (skV ((a0, a1, a2), (a3, a4), a5, ())) x).snd.fst.length) then
                decide
                  ((List.take
                        (skP (stkM (cutS x.fst 2) (skV ((a0, a1, a2), (a3, a4), a5, ())) x)
                                  (stkN (cutS x.fst 2) (skV ((a0, a1, a2), (a3, a4), a5, ())) a4
                                    x)).snd.fst.fst.length
                        (stkM (cutS x.fst 2) (skV ((a0, a1, a2), (a3, a4), a5, ())) x).snd.fst).length ≤
                    100)
              else false)
              (bif stkN (cutS x.fst 2) (skV ((a0, a1, a2), (a3, a4), a5, ())) a4 x then
                guardB (decide ((modM (cutS x.fst 2) ((a6, a7, a8), a9, a10) x).snd.fst.length = 32))
                  (guardB
                    (bif
                        decide
                          (0 + (lisR ([], true) (modM (cutS x.fst 2) ((a6, a7, a8), a9, a10) x).snd.fst).fst.length ≤
                            (lisR ([], true) (modM (cutS x.fst 2) ((a6, a7, a8), a9, a10) x).snd.fst).fst.length) then
                      decide
                        (([] : List (ByteArray × Int × Int)).length ≤ 100 ∧
                          (List.take
                                (lisR ([], true) (modM (cutS x.fst 2) ((a6, a7, a8), a9, a10) x).snd.fst).fst.length
                                (lisR ([], true) (modM (cutS x.fst 2) ((a6, a7, a8), a9, a10) x).snd.fst).fst).length ≤
                            100)
                    else false)
                    (bif
                        !eqTs []
                            (List.take
                              (lisR ([], true) (modM (cutS x.fst 2) ((a6, a7, a8), a9, a10) x).snd.fst).fst.length
                              (lisR ([], true) (modM (cutS x.fst 2) ((a6, a7, a8), a9, a10) x).snd.fst).fst) then
                      some
                        (Xt.ret, [PV.sc (Value.bool false)],
                          [Blk.fix true
                              [PV.sc
                                  (Value.int IntKind.i64
                                    (skP (stkM (cutS x.fst 2) (skV ((a0, a1, a2), (a3, a4), a5, ())) x)
                                          (stkN (cutS x.fst 2) (skV ((a0, a1, a2), (a3, a4), a5, ())) a4
                                            x)).fst.fst),
                                PV.sc
                                  (Value.int IntKind.i64
                                    (skP (stkM (cutS x.fst 2) (skV ((a0, a1, a2), (a3, a4), a5, ())) x)
                                            (stkN (cutS x.fst 2) (skV ((a0, a1, a2), (a3, a4), a5, ())) a4
                                              x)).fst.snd.fst),
                                PV.sc
                                  (Value.int IntKind.i64
                                    (skP (stkM (cutS x.fst 2) (skV ((a0, a1, a2), (a3, a4), a5, ())) x)
                                            (stkN (cutS x.fst 2) (skV ((a0, a1, a2), (a3, a4), a5, ())) a4
                                              x)).fst.snd.snd),
                                PV.sl 4 0 3
                                  (List.take
                                      (skP (stkM (cutS x.fst 2) (skV ((a0, a1, a2), (a3, a4), a5, ())) x)
                                                (stkN (cutS x.fst 2) (skV ((a0, a1, a2), (a3, a4), a5, ())) a4
                                                  x)).snd.fst.fst.length
                                      (stkM (cutS x.fst 2) (skV ((a0, a1, a2), (a3, a4), a5, ()))
                                            x).snd.fst).length
                                  (List.take
                                      (skP (stkM (cutS x.fst 2) (skV ((a0, a1, a2), (a3, a4), a5, ())) x)
                                                (stkN (cutS x.fst 2) (skV ((a0, a1, a2), (a3, a4), a5, ())) a4
                                                  x)).snd.fst.fst.length
                                      (stkM (cutS x.fst 2) (skV ((a0, a1, a2), (a3, a4), a5, ()))
                                            x).snd.fst).length
                                  false (stkN (cutS x.fst 2) (skV ((a0, a1, a2), (a3, a4), a5, ())) a4 x),
                                PV.sc
                                  (Value.int IntKind.i64
                                    (stkM (cutS x.fst 2) (skV ((a0, a1, a2), (a3, a4), a5, ())) x).snd.snd)],
                            Blk.dead,
                            Blk.mix true
                              [PV.sc
                                  (Value.int IntKind.i64
                                    (same [mO]
                                            (modM (cutS x.fst 2) ((a6, a7, a8), a9, a10) x, ())).fst.fst.fst),
                                PV.sc
                                  (Value.int IntKind.i64
                                    (same [mO]
                                              (modM (cutS x.fst 2) ((a6, a7, a8), a9, a10) x,
                                                ())).fst.fst.snd.fst),
                                PV.sc
                                  (Value.int IntKind.i64
                                    (same [mO]
                                              (modM (cutS x.fst 2) ((a6, a7, a8), a9, a10) x,
                                                ())).fst.fst.snd.snd)]
                              (Kd.str.pair ((Kd.int IntKind.i64).pair (Kd.int IntKind.i64))) 32
                              (same [mO] (modM (cutS x.fst 2) ((a6, a7, a8), a9, a10) x, ())).fst.snd.fst
                              [PV.sc
                                  (Value.int IntKind.i64
                                    (same [mO]
                                            (modM (cutS x.fst 2) ((a6, a7, a8), a9, a10) x, ())).fst.snd.snd)],
                            Blk.row false ((Kd.int IntKind.i64).pair (Kd.str.pair (Kd.int IntKind.i64))) a11,
                            Blk.row true (Kd.str.pair ((Kd.int IntKind.i64).pair (Kd.int IntKind.i64)))
                              (stkM (cutS x.fst 2) (skV ((a0, a1, a2), (a3, a4), a5, ())) x).snd.fst])
                    else
                      guardB
                        (decide
                          (muLw
                              (((skP (stkM (cutS x.fst 2) (skV ((a0, a1, a2), (a3, a4), a5, ())) x)
                                      (stkN (cutS x.fst 2) (skV ((a0, a1, a2), (a3, a4), a5, ())) a4 x)).fst,
                                  ((stkM (cutS x.fst 2) (skV ((a0, a1, a2), (a3, a4), a5, ())) x).snd.fst,
                                    stkN (cutS x.fst 2) (skV ((a0, a1, a2), (a3, a4), a5, ())) a4 x),
                                  (stkM (cutS x.fst 2) (skV ((a0, a1, a2), (a3, a4), a5, ())) x).snd.snd,
                                  ()),
                                (same [mO] (modM (cutS x.fst 2) ((a6, a7, a8), a9, a10) x, ())).fst,
                                (List.take a11.length a11, a12), a13, IntKind.i64.wrap (a14 + 1), ()) <
                            muLw (((a0, a1, a2), (a3, a4), a5, ()), ((a6, a7, a8), a9, a10), (a11, a12), a13, a14, ())))
                        (guardB
                          (bif
                              decide
                                ((List.take
                                      (skP (stkM (cutS x.fst 2) (skV ((a0, a1, a2), (a3, a4), a5, ())) x)
                                                (stkN (cutS x.fst 2) (skV ((a0, a1, a2), (a3, a4), a5, ())) a4
                                                  x)).snd.fst.fst.length
                                      (stkM (cutS x.fst 2) (skV ((a0, a1, a2), (a3, a4), a5, ()))
                                            x).snd.fst).length =
                                  (stkM (cutS x.fst 2) (skV ((a0, a1, a2), (a3, a4), a5, ()))
                                          x).snd.fst.length) then
                            bif decide (0 + a11.length ≤ a11.length) then
                              bp
                                (relH
                                    (skV
                                      ((skP (stkM (cutS x.fst 2) (skV ((a0, a1, a2), (a3, a4), a5, ())) x)
                                            (stkN (cutS x.fst 2) (skV ((a0, a1, a2), (a3, a4), a5, ())) a4
                                              x)).fst,
                                        ((stkM (cutS x.fst 2) (skV ((a0, a1, a2), (a3, a4), a5, ())) x).snd.fst,
                                          stkN (cutS x.fst 2) (skV ((a0, a1, a2), (a3, a4), a5, ())) a4 x),
                                        (stkM (cutS x.fst 2) (skV ((a0, a1, a2), (a3, a4), a5, ())) x).snd.snd,
                                        ()))
                                    (same [mO] (modM (cutS x.fst 2) ((a6, a7, a8), a9, a10) x, ())).fst ∧
                                  ((((skP (stkM (cutS x.fst 2) (skV ((a0, a1, a2), (a3, a4), a5, ())) x)
                                                        (stkN (cutS x.fst 2)
                                                          (skV ((a0, a1, a2), (a3, a4), a5, ())) a4 x)).fst,
                                                    ((stkM (cutS x.fst 2) (skV ((a0, a1, a2), (a3, a4), a5, ()))
                                                            x).snd.fst,
                                                      stkN (cutS x.fst 2) (skV ((a0, a1, a2), (a3, a4), a5, ()))
                                                        a4 x),
                                                    (stkM (cutS x.fst 2) (skV ((a0, a1, a2), (a3, a4), a5, ()))
                                                          x).snd.snd,
                                                    ()),
                                                  (same [mO]
                                                      (modM (cutS x.fst 2) ((a6, a7, a8), a9, a10) x, ())).fst,
                                                  (List.take a11.length a11, a12), a13, IntKind.i64.wrap (a14 + 1),
                                                  ()).fst.snd.fst.snd =
                                        true →
                                      (((skP (stkM (cutS x.fst 2) (skV ((a0, a1, a2), (a3, a4), a5, ())) x)
                                                        (stkN (cutS x.fst 2)
                                                          (skV ((a0, a1, a2), (a3, a4), a5, ())) a4 x)).fst,
                                                    ((stkM (cutS x.fst 2) (skV ((a0, a1, a2), (a3, a4), a5, ()))
                                                            x).snd.fst,
                                                      stkN (cutS x.fst 2) (skV ((a0, a1, a2), (a3, a4), a5, ()))
                                                        a4 x),
                                                    (stkM (cutS x.fst 2) (skV ((a0, a1, a2), (a3, a4), a5, ()))
                                                          x).snd.snd,
                                                    ()),
                                                  (same [mO]
                                                      (modM (cutS x.fst 2) ((a6, a7, a8), a9, a10) x, ())).fst,
                                                  (List.take a11.length a11, a12), a13, IntKind.i64.wrap (a14 + 1),
                                                  ()).fst.snd.fst.fst =
                                        []) ∧
                                    a13 = (↑(List.take a11.length a11).length : Int) ∧
                                      okKc (List.take a11.length a11) a13 (IntKind.i64.wrap (a14 + 1)))
                            else false
                          else false)
                          (some
                            (Xt.exit 1, [PV.undef],
                              [Blk.fix true
                                  [PV.sc
                                      (Value.int IntKind.i64
                                        (skP
                                              (runH
                                                    ((skV
                                                          ((skP
                                                                (stkM (cutS x.fst 2)
                                                                  (skV ((a0, a1, a2), (a3, a4), a5, ())) x)
                                                                (stkN (cutS x.fst 2)
                                                                  (skV ((a0, a1, a2), (a3, a4), a5, ())) a4
                                                                  x)).fst,
                                                            ((stkM (cutS x.fst 2)
                                                                    (skV ((a0, a1, a2), (a3, a4), a5, ()))
                                                                    x).snd.fst,
                                                              stkN (cutS x.fst 2)
                                                                (skV ((a0, a1, a2), (a3, a4), a5, ())) a4 x),
                                                            (stkM (cutS x.fst 2)
                                                                  (skV ((a0, a1, a2), (a3, a4), a5, ()))
                                                                  x).snd.snd,
                                                            ()),
                                                        stkN (cutS x.fst 2)
                                                          (skV ((a0, a1, a2), (a3, a4), a5, ())) a4 x),
                                                      (same [mO]
                                                          (modM (cutS x.fst 2) ((a6, a7, a8), a9, a10) x,
                                                            ())).fst)
                                                    (restL (List.take a11.length a11) a13
                                                      (IntKind.i64.wrap (a14 + 1)))).fst.fst
                                              (runH
                                                    ((skV
                                                          ((skP
                                                                (stkM (cutS x.fst 2)
                                                                  (skV ((a0, a1, a2), (a3, a4), a5, ())) x)
                                                                (stkN (cutS x.fst 2)
                                                                  (skV ((a0, a1, a2), (a3, a4), a5, ())) a4
                                                                  x)).fst,
                                                            ((stkM (cutS x.fst 2)
                                                                    (skV ((a0, a1, a2), (a3, a4), a5, ()))
                                                                    x).snd.fst,
                                                              stkN (cutS x.fst 2)
                                                                (skV ((a0, a1, a2), (a3, a4), a5, ())) a4 x),
                                                            (stkM (cutS x.fst 2)
                                                                  (skV ((a0, a1, a2), (a3, a4), a5, ()))
                                                                  x).snd.snd,
                                                            ()),
                                                        stkN (cutS x.fst 2)
                                                          (skV ((a0, a1, a2), (a3, a4), a5, ())) a4 x),
                                                      (same [mO]
                                                          (modM (cutS x.fst 2) ((a6, a7, a8), a9, a10) x,
                                                            ())).fst)
                                                    (restL (List.take a11.length a11) a13
                                                      (IntKind.i64.wrap (a14 + 1)))).fst.snd).fst.fst),
                                    PV.sc
                                      (Value.int IntKind.i64
                                        (skP
                                                (runH
                                                      ((skV
                                                            ((skP
                                                                  (stkM (cutS x.fst 2)
                                                                    (skV ((a0, a1, a2), (a3, a4), a5, ())) x)
                                                                  (stkN (cutS x.fst 2)
                                                                    (skV ((a0, a1, a2), (a3, a4), a5, ())) a4
                                                                    x)).fst,
                                                              ((stkM (cutS x.fst 2)
                                                                      (skV ((a0, a1, a2), (a3, a4), a5, ()))
                                                                      x).snd.fst,
                                                                stkN (cutS x.fst 2)
                                                                  (skV ((a0, a1, a2), (a3, a4), a5, ())) a4 x),
                                                              (stkM (cutS x.fst 2)
                                                                    (skV ((a0, a1, a2), (a3, a4), a5, ()))
                                                                    x).snd.snd,
                                                              ()),
                                                          stkN (cutS x.fst 2)
                                                            (skV ((a0, a1, a2), (a3, a4), a5, ())) a4 x),
                                                        (same [mO]
                                                            (modM (cutS x.fst 2) ((a6, a7, a8), a9, a10) x,
                                                              ())).fst)
                                                      (restL (List.take a11.length a11) a13
                                                        (IntKind.i64.wrap (a14 + 1)))).fst.fst
                                                (runH
                                                      ((skV
                                                            ((skP
                                                                  (stkM (cutS x.fst 2)
                                                                    (skV ((a0, a1, a2), (a3, a4), a5, ())) x)
                                                                  (stkN (cutS x.fst 2)
                                                                    (skV ((a0, a1, a2), (a3, a4), a5, ())) a4
                                                                    x)).fst,
                                                              ((stkM (cutS x.fst 2)
                                                                      (skV ((a0, a1, a2), (a3, a4), a5, ()))
                                                                      x).snd.fst,
                                                                stkN (cutS x.fst 2)
                                                                  (skV ((a0, a1, a2), (a3, a4), a5, ())) a4 x),
                                                              (stkM (cutS x.fst 2)
                                                                    (skV ((a0, a1, a2), (a3, a4), a5, ()))
                                                                    x).snd.snd,
                                                              ()),
                                                          stkN (cutS x.fst 2)
                                                            (skV ((a0, a1, a2), (a3, a4), a5, ())) a4 x),
                                                        (same [mO]
                                                            (modM (cutS x.fst 2) ((a6, a7, a8), a9, a10) x,
                                                              ())).fst)
                                                      (restL (List.take a11.length a11) a13
                                                        (IntKind.i64.wrap (a14 + 1)))).fst.snd).fst.snd.fst),
                                    PV.sc
                                      (Value.int IntKind.i64
                                        (skP
                                                (runH
                                                      ((skV
                                                            ((skP
                                                                  (stkM (cutS x.fst 2)
                                                                    (skV ((a0, a1, a2), (a3, a4), a5, ())) x)
                                                                  (stkN (cutS x.fst 2)
                                                                    (skV ((a0, a1, a2), (a3, a4), a5, ())) a4
                                                                    x)).fst,
                                                              ((stkM (cutS x.fst 2)
                                                                      (skV ((a0, a1, a2), (a3, a4), a5, ()))
                                                                      x).snd.fst,
                                                                stkN (cutS x.fst 2)
                                                                  (skV ((a0, a1, a2), (a3, a4), a5, ())) a4 x),
                                                              (stkM (cutS x.fst 2)
                                                                    (skV ((a0, a1, a2), (a3, a4), a5, ()))
                                                                    x).snd.snd,
                                                              ()),
                                                          stkN (cutS x.fst 2)
                                                            (skV ((a0, a1, a2), (a3, a4), a5, ())) a4 x),
                                                        (same [mO]
                                                            (modM (cutS x.fst 2) ((a6, a7, a8), a9, a10) x,
                                                              ())).fst)
                                                      (restL (List.take a11.length a11) a13
                                                        (IntKind.i64.wrap (a14 + 1)))).fst.fst
                                                (runH
                                                      ((skV
                                                            ((skP
                                                                  (stkM (cutS x.fst 2)
                                                                    (skV ((a0, a1, a2), (a3, a4), a5, ())) x)
                                                                  (stkN (cutS x.fst 2)
                                                                    (skV ((a0, a1, a2), (a3, a4), a5, ())) a4
                                                                    x)).fst,
                                                              ((stkM (cutS x.fst 2)
                                                                      (skV ((a0, a1, a2), (a3, a4), a5, ()))
                                                                      x).snd.fst,
                                                                stkN (cutS x.fst 2)
                                                                  (skV ((a0, a1, a2), (a3, a4), a5, ())) a4 x),
                                                              (stkM (cutS x.fst 2)
                                                                    (skV ((a0, a1, a2), (a3, a4), a5, ()))
                                                                    x).snd.snd,
                                                              ()),
                                                          stkN (cutS x.fst 2)
                                                            (skV ((a0, a1, a2), (a3, a4), a5, ())) a4 x),
                                                        (same [mO]
                                                            (modM (cutS x.fst 2) ((a6, a7, a8), a9, a10) x,
                                                              ())).fst)
                                                      (restL (List.take a11.length a11) a13
                                                        (IntKind.i64.wrap (a14 + 1)))).fst.snd).fst.snd.snd),
                                    PV.sl 4 0 3
                                      (skP
                                                (runH
                                                      ((skV
                                                            ((skP
                                                                  (stkM (cutS x.fst 2)
                                                                    (skV ((a0, a1, a2), (a3, a4), a5, ())) x)
                                                                  (stkN (cutS x.fst 2)
                                                                    (skV ((a0, a1, a2), (a3, a4), a5, ())) a4
                                                                    x)).fst,
                                                              ((stkM (cutS x.fst 2)
                                                                      (skV ((a0, a1, a2), (a3, a4), a5, ()))
                                                                      x).snd.fst,
                                                                stkN (cutS x.fst 2)
                                                                  (skV ((a0, a1, a2), (a3, a4), a5, ())) a4 x),
                                                              (stkM (cutS x.fst 2)
                                                                    (skV ((a0, a1, a2), (a3, a4), a5, ()))
                                                                    x).snd.snd,
                                                              ()),
                                                          stkN (cutS x.fst 2)
                                                            (skV ((a0, a1, a2), (a3, a4), a5, ())) a4 x),
                                                        (same [mO]
                                                            (modM (cutS x.fst 2) ((a6, a7, a8), a9, a10) x,
                                                              ())).fst)
                                                      (restL (List.take a11.length a11) a13
                                                        (IntKind.i64.wrap (a14 + 1)))).fst.fst
                                                (runH
                                                      ((skV
                                                            ((skP
                                                                  (stkM (cutS x.fst 2)
                                                                    (skV ((a0, a1, a2), (a3, a4), a5, ())) x)
                                                                  (stkN (cutS x.fst 2)
                                                                    (skV ((a0, a1, a2), (a3, a4), a5, ())) a4
                                                                    x)).fst,
                                                              ((stkM (cutS x.fst 2)
                                                                      (skV ((a0, a1, a2), (a3, a4), a5, ()))
                                                                      x).snd.fst,
                                                                stkN (cutS x.fst 2)
                                                                  (skV ((a0, a1, a2), (a3, a4), a5, ())) a4 x),
                                                              (stkM (cutS x.fst 2)
                                                                    (skV ((a0, a1, a2), (a3, a4), a5, ()))
                                                                    x).snd.snd,
                                                              ()),
                                                          stkN (cutS x.fst 2)
                                                            (skV ((a0, a1, a2), (a3, a4), a5, ())) a4 x),
                                                        (same [mO]
                                                            (modM (cutS x.fst 2) ((a6, a7, a8), a9, a10) x,
                                                              ())).fst)
                                                      (restL (List.take a11.length a11) a13
                                                        (IntKind.i64.wrap (a14 + 1)))).fst.snd).snd.fst.fst.length
                                      (skP
                                                (runH
                                                      ((skV
                                                            ((skP
                                                                  (stkM (cutS x.fst 2)
                                                                    (skV ((a0, a1, a2), (a3, a4), a5, ())) x)
                                                                  (stkN (cutS x.fst 2)
                                                                    (skV ((a0, a1, a2), (a3, a4), a5, ())) a4
                                                                    x)).fst,
                                                              ((stkM (cutS x.fst 2)
                                                                      (skV ((a0, a1, a2), (a3, a4), a5, ()))
                                                                      x).snd.fst,
                                                                stkN (cutS x.fst 2)
                                                                  (skV ((a0, a1, a2), (a3, a4), a5, ())) a4 x),
                                                              (stkM (cutS x.fst 2)
                                                                    (skV ((a0, a1, a2), (a3, a4), a5, ()))
                                                                    x).snd.snd,
                                                              ()),
                                                          stkN (cutS x.fst 2)
                                                            (skV ((a0, a1, a2), (a3, a4), a5, ())) a4 x),
                                                        (same [mO]
                                                            (modM (cutS x.fst 2) ((a6, a7, a8), a9, a10) x,
                                                              ())).fst)
                                                      (restL (List.take a11.length a11) a13
                                                        (IntKind.i64.wrap (a14 + 1)))).fst.fst
                                                (runH
                                                      ((skV
                                                            ((skP
                                                                  (stkM (cutS x.fst 2)
                                                                    (skV ((a0, a1, a2), (a3, a4), a5, ())) x)
                                                                  (stkN (cutS x.fst 2)
                                                                    (skV ((a0, a1, a2), (a3, a4), a5, ())) a4
                                                                    x)).fst,
                                                              ((stkM (cutS x.fst 2)
                                                                      (skV ((a0, a1, a2), (a3, a4), a5, ()))
                                                                      x).snd.fst,
                                                                stkN (cutS x.fst 2)
                                                                  (skV ((a0, a1, a2), (a3, a4), a5, ())) a4 x),
                                                              (stkM (cutS x.fst 2)
                                                                    (skV ((a0, a1, a2), (a3, a4), a5, ()))
                                                                    x).snd.snd,
                                                              ()),
                                                          stkN (cutS x.fst 2)
                                                            (skV ((a0, a1, a2), (a3, a4), a5, ())) a4 x),
                                                        (same [mO]
                                                            (modM (cutS x.fst 2) ((a6, a7, a8), a9, a10) x,
                                                              ())).fst)
                                                      (restL (List.take a11.length a11) a13
                                                        (IntKind.i64.wrap (a14 + 1)))).fst.snd).snd.fst.fst.length
                                      false
                                      (runH
                                            ((skV
                                                  ((skP
                                                        (stkM (cutS x.fst 2)
                                                          (skV ((a0, a1, a2), (a3, a4), a5, ())) x)
                                                        (stkN (cutS x.fst 2)
                                                          (skV ((a0, a1, a2), (a3, a4), a5, ())) a4 x)).fst,
                                                    ((stkM (cutS x.fst 2) (skV ((a0, a1, a2), (a3, a4), a5, ()))
                                                            x).snd.fst,
                                                      stkN (cutS x.fst 2) (skV ((a0, a1, a2), (a3, a4), a5, ()))
                                                        a4 x),
                                                    (stkM (cutS x.fst 2) (skV ((a0, a1, a2), (a3, a4), a5, ()))
                                                          x).snd.snd,
                                                    ()),
                                                stkN (cutS x.fst 2) (skV ((a0, a1, a2), (a3, a4), a5, ())) a4
                                                  x),
                                              (same [mO]
                                                  (modM (cutS x.fst 2) ((a6, a7, a8), a9, a10) x, ())).fst)
                                            (restL (List.take a11.length a11) a13
                                              (IntKind.i64.wrap (a14 + 1)))).fst.snd,
                                    PV.sc
                                      (Value.int IntKind.i64
                                        (runH
                                                  ((skV
                                                        ((skP
                                                              (stkM (cutS x.fst 2)
                                                                (skV ((a0, a1, a2), (a3, a4), a5, ())) x)
                                                              (stkN (cutS x.fst 2)
                                                                (skV ((a0, a1, a2), (a3, a4), a5, ())) a4
                                                                x)).fst,
                                                          ((stkM (cutS x.fst 2)
                                                                  (skV ((a0, a1, a2), (a3, a4), a5, ()))
                                                                  x).snd.fst,
                                                            stkN (cutS x.fst 2)
                                                              (skV ((a0, a1, a2), (a3, a4), a5, ())) a4 x),
                                                          (stkM (cutS x.fst 2)
                                                                (skV ((a0, a1, a2), (a3, a4), a5, ()))
                                                                x).snd.snd,
                                                          ()),
                                                      stkN (cutS x.fst 2) (skV ((a0, a1, a2), (a3, a4), a5, ()))
                                                        a4 x),
                                                    (same [mO]
                                                        (modM (cutS x.fst 2) ((a6, a7, a8), a9, a10) x,
                                                          ())).fst)
                                                  (restL (List.take a11.length a11) a13
                                                    (IntKind.i64.wrap (a14 + 1)))).fst.fst.snd.snd)],
                                Blk.dead,
                                Blk.mix true
                                  [PV.sc
                                      (Value.int IntKind.i64
                                        (runH
                                                ((skV
                                                      ((skP
                                                            (stkM (cutS x.fst 2)
                                                              (skV ((a0, a1, a2), (a3, a4), a5, ())) x)
                                                            (stkN (cutS x.fst 2)
                                                              (skV ((a0, a1, a2), (a3, a4), a5, ())) a4 x)).fst,
                                                        ((stkM (cutS x.fst 2)
                                                                (skV ((a0, a1, a2), (a3, a4), a5, ()))
                                                                x).snd.fst,
                                                          stkN (cutS x.fst 2)
                                                            (skV ((a0, a1, a2), (a3, a4), a5, ())) a4 x),
                                                        (stkM (cutS x.fst 2)
                                                              (skV ((a0, a1, a2), (a3, a4), a5, ())) x).snd.snd,
                                                        ()),
                                                    stkN (cutS x.fst 2) (skV ((a0, a1, a2), (a3, a4), a5, ()))
                                                      a4 x),
                                                  (same [mO]
                                                      (modM (cutS x.fst 2) ((a6, a7, a8), a9, a10) x, ())).fst)
                                                (restL (List.take a11.length a11) a13
                                                  (IntKind.i64.wrap (a14 + 1)))).snd.fst.fst),
                                    PV.sc
                                      (Value.int IntKind.i64
                                        (runH
                                                  ((skV
                                                        ((skP
                                                              (stkM (cutS x.fst 2)
                                                                (skV ((a0, a1, a2), (a3, a4), a5, ())) x)
                                                              (stkN (cutS x.fst 2)
                                                                (skV ((a0, a1, a2), (a3, a4), a5, ())) a4
                                                                x)).fst,
                                                          ((stkM (cutS x.fst 2)
                                                                  (skV ((a0, a1, a2), (a3, a4), a5, ()))
                                                                  x).snd.fst,
                                                            stkN (cutS x.fst 2)
                                                              (skV ((a0, a1, a2), (a3, a4), a5, ())) a4 x),
                                                          (stkM (cutS x.fst 2)
                                                                (skV ((a0, a1, a2), (a3, a4), a5, ()))
                                                                x).snd.snd,
                                                          ()),
                                                      stkN (cutS x.fst 2) (skV ((a0, a1, a2), (a3, a4), a5, ()))
                                                        a4 x),
                                                    (same [mO]
                                                        (modM (cutS x.fst 2) ((a6, a7, a8), a9, a10) x,
                                                          ())).fst)
                                                  (restL (List.take a11.length a11) a13
                                                    (IntKind.i64.wrap (a14 + 1)))).snd.fst.snd.fst),
                                    PV.sc
                                      (Value.int IntKind.i64
                                        (runH
                                                  ((skV
                                                        ((skP
                                                              (stkM (cutS x.fst 2)
                                                                (skV ((a0, a1, a2), (a3, a4), a5, ())) x)
                                                              (stkN (cutS x.fst 2)
                                                                (skV ((a0, a1, a2), (a3, a4), a5, ())) a4
                                                                x)).fst,
                                                          ((stkM (cutS x.fst 2)
                                                                  (skV ((a0, a1, a2), (a3, a4), a5, ()))
                                                                  x).snd.fst,
                                                            stkN (cutS x.fst 2)
                                                              (skV ((a0, a1, a2), (a3, a4), a5, ())) a4 x),
                                                          (stkM (cutS x.fst 2)
                                                                (skV ((a0, a1, a2), (a3, a4), a5, ()))
                                                                x).snd.snd,
                                                          ()),
                                                      stkN (cutS x.fst 2) (skV ((a0, a1, a2), (a3, a4), a5, ()))
                                                        a4 x),
                                                    (same [mO]
                                                        (modM (cutS x.fst 2) ((a6, a7, a8), a9, a10) x,
                                                          ())).fst)
                                                  (restL (List.take a11.length a11) a13
                                                    (IntKind.i64.wrap (a14 + 1)))).snd.fst.snd.snd)]
                                  (Kd.str.pair ((Kd.int IntKind.i64).pair (Kd.int IntKind.i64))) 32
                                  (runH
                                          ((skV
                                                ((skP
                                                      (stkM (cutS x.fst 2)
                                                        (skV ((a0, a1, a2), (a3, a4), a5, ())) x)
                                                      (stkN (cutS x.fst 2)
                                                        (skV ((a0, a1, a2), (a3, a4), a5, ())) a4 x)).fst,
                                                  ((stkM (cutS x.fst 2) (skV ((a0, a1, a2), (a3, a4), a5, ()))
                                                          x).snd.fst,
                                                    stkN (cutS x.fst 2) (skV ((a0, a1, a2), (a3, a4), a5, ()))
                                                      a4 x),
                                                  (stkM (cutS x.fst 2) (skV ((a0, a1, a2), (a3, a4), a5, ()))
                                                        x).snd.snd,
                                                  ()),
                                              stkN (cutS x.fst 2) (skV ((a0, a1, a2), (a3, a4), a5, ())) a4 x),
                                            (same [mO] (modM (cutS x.fst 2) ((a6, a7, a8), a9, a10) x, ())).fst)
                                          (restL (List.take a11.length a11) a13
                                            (IntKind.i64.wrap (a14 + 1)))).snd.snd.fst
                                  [PV.sc
                                      (Value.int IntKind.i64
                                        (runH
                                                ((skV
                                                      ((skP
                                                            (stkM (cutS x.fst 2)
                                                              (skV ((a0, a1, a2), (a3, a4), a5, ())) x)
                                                            (stkN (cutS x.fst 2)
                                                              (skV ((a0, a1, a2), (a3, a4), a5, ())) a4 x)).fst,
                                                        ((stkM (cutS x.fst 2)
                                                                (skV ((a0, a1, a2), (a3, a4), a5, ()))
                                                                x).snd.fst,
                                                          stkN (cutS x.fst 2)
                                                            (skV ((a0, a1, a2), (a3, a4), a5, ())) a4 x),
                                                        (stkM (cutS x.fst 2)
                                                              (skV ((a0, a1, a2), (a3, a4), a5, ())) x).snd.snd,
                                                        ()),
                                                    stkN (cutS x.fst 2) (skV ((a0, a1, a2), (a3, a4), a5, ()))
                                                      a4 x),
                                                  (same [mO]
                                                      (modM (cutS x.fst 2) ((a6, a7, a8), a9, a10) x, ())).fst)
                                                (restL (List.take a11.length a11) a13
                                                  (IntKind.i64.wrap (a14 + 1)))).snd.snd.snd)],
                                Blk.row false ((Kd.int IntKind.i64).pair (Kd.str.pair (Kd.int IntKind.i64))) a11,
                                Blk.row true (Kd.str.pair ((Kd.int IntKind.i64).pair (Kd.int IntKind.i64)))
                                  (runH
                                            ((skV
                                                  ((skP
                                                        (stkM (cutS x.fst 2)
                                                          (skV ((a0, a1, a2), (a3, a4), a5, ())) x)
                                                        (stkN (cutS x.fst 2)
                                                          (skV ((a0, a1, a2), (a3, a4), a5, ())) a4 x)).fst,
                                                    ((stkM (cutS x.fst 2) (skV ((a0, a1, a2), (a3, a4), a5, ()))
                                                            x).snd.fst,
                                                      stkN (cutS x.fst 2) (skV ((a0, a1, a2), (a3, a4), a5, ()))
                                                        a4 x),
                                                    (stkM (cutS x.fst 2) (skV ((a0, a1, a2), (a3, a4), a5, ()))
                                                          x).snd.snd,
                                                    ()),
                                                stkN (cutS x.fst 2) (skV ((a0, a1, a2), (a3, a4), a5, ())) a4
                                                  x),
                                              (same [mO]
                                                  (modM (cutS x.fst 2) ((a6, a7, a8), a9, a10) x, ())).fst)
                                            (restL (List.take a11.length a11) a13
                                              (IntKind.i64.wrap (a14 + 1)))).fst.fst.snd.fst])))))
              else
                guardB (decide ((modM (cutS x.fst 2) ((a6, a7, a8), a9, a10) x).snd.fst.length = 32))
                  (guardB
                    (bif
                        decide
                          (0 +
                              (List.take
                                  (skP (stkM (cutS x.fst 2) (skV ((a0, a1, a2), (a3, a4), a5, ())) x)
                                            (stkN (cutS x.fst 2) (skV ((a0, a1, a2), (a3, a4), a5, ())) a4
                                              x)).snd.fst.fst.length
                                  (stkM (cutS x.fst 2) (skV ((a0, a1, a2), (a3, a4), a5, ()))
                                        x).snd.fst).length ≤
                            (List.take
                                (skP (stkM (cutS x.fst 2) (skV ((a0, a1, a2), (a3, a4), a5, ())) x)
                                          (stkN (cutS x.fst 2) (skV ((a0, a1, a2), (a3, a4), a5, ())) a4
                                            x)).snd.fst.fst.length
                                (stkM (cutS x.fst 2) (skV ((a0, a1, a2), (a3, a4), a5, ()))
                                      x).snd.fst).length) then
                      bif
                          decide
                            (0 + (lisR ([], true) (modM (cutS x.fst 2) ((a6, a7, a8), a9, a10) x).snd.fst).fst.length ≤
                              (lisR ([], true) (modM (cutS x.fst 2) ((a6, a7, a8), a9, a10) x).snd.fst).fst.length) then
                        decide
                          ((List.take
                                  (List.take
                                      (skP (stkM (cutS x.fst 2) (skV ((a0, a1, a2), (a3, a4), a5, ())) x)
                                                (stkN (cutS x.fst 2) (skV ((a0, a1, a2), (a3, a4), a5, ())) a4
                                                  x)).snd.fst.fst.length
                                      (stkM (cutS x.fst 2) (skV ((a0, a1, a2), (a3, a4), a5, ()))
                                            x).snd.fst).length
                                  (List.take
                                    (skP (stkM (cutS x.fst 2) (skV ((a0, a1, a2), (a3, a4), a5, ())) x)
                                              (stkN (cutS x.fst 2) (skV ((a0, a1, a2), (a3, a4), a5, ())) a4
                                                x)).snd.fst.fst.length
                                    (stkM (cutS x.fst 2) (skV ((a0, a1, a2), (a3, a4), a5, ()))
                                          x).snd.fst)).length ≤
                              100 ∧
                            (List.take
                                  (lisR ([], true) (modM (cutS x.fst 2) ((a6, a7, a8), a9, a10) x).snd.fst).fst.length
                                  (lisR ([], true)
                                      (modM (cutS x.fst 2) ((a6, a7, a8), a9, a10) x).snd.fst).fst).length ≤
                              100)
                      else false
                    else false)
                    (bif
                        !eqTs
                            (List.take
                              (List.take
                                  (skP (stkM (cutS x.fst 2) (skV ((a0, a1, a2), (a3, a4), a5, ())) x)
                                            (stkN (cutS x.fst 2) (skV ((a0, a1, a2), (a3, a4), a5, ())) a4
                                              x)).snd.fst.fst.length
                                  (stkM (cutS x.fst 2) (skV ((a0, a1, a2), (a3, a4), a5, ())) x).snd.fst).length
                              (List.take
                                (skP (stkM (cutS x.fst 2) (skV ((a0, a1, a2), (a3, a4), a5, ())) x)
                                          (stkN (cutS x.fst 2) (skV ((a0, a1, a2), (a3, a4), a5, ())) a4
                                            x)).snd.fst.fst.length
                                (stkM (cutS x.fst 2) (skV ((a0, a1, a2), (a3, a4), a5, ())) x).snd.fst))
                            (List.take
                              (lisR ([], true) (modM (cutS x.fst 2) ((a6, a7, a8), a9, a10) x).snd.fst).fst.length
                              (lisR ([], true) (modM (cutS x.fst 2) ((a6, a7, a8), a9, a10) x).snd.fst).fst) then
                      some
                        (Xt.ret, [PV.sc (Value.bool false)],
                          [Blk.fix true
                              [PV.sc
                                  (Value.int IntKind.i64
                                    (skP (stkM (cutS x.fst 2) (skV ((a0, a1, a2), (a3, a4), a5, ())) x)
                                          (stkN (cutS x.fst 2) (skV ((a0, a1, a2), (a3, a4), a5, ())) a4
                                            x)).fst.fst),
                                PV.sc
                                  (Value.int IntKind.i64
                                    (skP (stkM (cutS x.fst 2) (skV ((a0, a1, a2), (a3, a4), a5, ())) x)
                                            (stkN (cutS x.fst 2) (skV ((a0, a1, a2), (a3, a4), a5, ())) a4
                                              x)).fst.snd.fst),
                                PV.sc
                                  (Value.int IntKind.i64
                                    (skP (stkM (cutS x.fst 2) (skV ((a0, a1, a2), (a3, a4), a5, ())) x)
                                            (stkN (cutS x.fst 2) (skV ((a0, a1, a2), (a3, a4), a5, ())) a4
                                              x)).fst.snd.snd),
                                PV.sl 4 0 3
                                  (List.take
                                      (skP (stkM (cutS x.fst 2) (skV ((a0, a1, a2), (a3, a4), a5, ())) x)
                                                (stkN (cutS x.fst 2) (skV ((a0, a1, a2), (a3, a4), a5, ())) a4
                                                  x)).snd.fst.fst.length
                                      (stkM (cutS x.fst 2) (skV ((a0, a1, a2), (a3, a4), a5, ()))
                                            x).snd.fst).length
                                  (List.take
                                      (skP (stkM (cutS x.fst 2) (skV ((a0, a1, a2), (a3, a4), a5, ())) x)
                                                (stkN (cutS x.fst 2) (skV ((a0, a1, a2), (a3, a4), a5, ())) a4
                                                  x)).snd.fst.fst.length
                                      (stkM (cutS x.fst 2) (skV ((a0, a1, a2), (a3, a4), a5, ()))
                                            x).snd.fst).length
                                  false (stkN (cutS x.fst 2) (skV ((a0, a1, a2), (a3, a4), a5, ())) a4 x),
                                PV.sc
                                  (Value.int IntKind.i64
                                    (stkM (cutS x.fst 2) (skV ((a0, a1, a2), (a3, a4), a5, ())) x).snd.snd)],
                            Blk.dead,
                            Blk.mix true
                              [PV.sc
                                  (Value.int IntKind.i64
                                    (same [mO]
                                            (modM (cutS x.fst 2) ((a6, a7, a8), a9, a10) x, ())).fst.fst.fst),
                                PV.sc
                                  (Value.int IntKind.i64
                                    (same [mO]
                                              (modM (cutS x.fst 2) ((a6, a7, a8), a9, a10) x,
                                                ())).fst.fst.snd.fst),
                                PV.sc
                                  (Value.int IntKind.i64
                                    (same [mO]
                                              (modM (cutS x.fst 2) ((a6, a7, a8), a9, a10) x,
                                                ())).fst.fst.snd.snd)]
                              (Kd.str.pair ((Kd.int IntKind.i64).pair (Kd.int IntKind.i64))) 32
                              (same [mO] (modM (cutS x.fst 2) ((a6, a7, a8), a9, a10) x, ())).fst.snd.fst
                              [PV.sc
                                  (Value.int IntKind.i64
                                    (same [mO]
                                            (modM (cutS x.fst 2) ((a6, a7, a8), a9, a10) x, ())).fst.snd.snd)],
                            Blk.row false ((Kd.int IntKind.i64).pair (Kd.str.pair (Kd.int IntKind.i64))) a11,
                            Blk.row true (Kd.str.pair ((Kd.int IntKind.i64).pair (Kd.int IntKind.i64)))
                              (stkM (cutS x.fst 2) (skV ((a0, a1, a2), (a3, a4), a5, ())) x).snd.fst])
                    else
                      guardB
                        (decide
                          (muLw
                              (((skP (stkM (cutS x.fst 2) (skV ((a0, a1, a2), (a3, a4), a5, ())) x)
                                      (stkN (cutS x.fst 2) (skV ((a0, a1, a2), (a3, a4), a5, ())) a4 x)).fst,
                                  ((stkM (cutS x.fst 2) (skV ((a0, a1, a2), (a3, a4), a5, ())) x).snd.fst,
                                    stkN (cutS x.fst 2) (skV ((a0, a1, a2), (a3, a4), a5, ())) a4 x),
                                  (stkM (cutS x.fst 2) (skV ((a0, a1, a2), (a3, a4), a5, ())) x).snd.snd,
                                  ()),
                                (same [mO] (modM (cutS x.fst 2) ((a6, a7, a8), a9, a10) x, ())).fst,
                                (List.take a11.length a11, a12), a13, IntKind.i64.wrap (a14 + 1), ()) <
                            muLw (((a0, a1, a2), (a3, a4), a5, ()), ((a6, a7, a8), a9, a10), (a11, a12), a13, a14, ())))
                        (guardB
                          (bif
                              decide
                                ((List.take
                                      (skP (stkM (cutS x.fst 2) (skV ((a0, a1, a2), (a3, a4), a5, ())) x)
                                                (stkN (cutS x.fst 2) (skV ((a0, a1, a2), (a3, a4), a5, ())) a4
                                                  x)).snd.fst.fst.length
                                      (stkM (cutS x.fst 2) (skV ((a0, a1, a2), (a3, a4), a5, ()))
                                            x).snd.fst).length =
                                  (stkM (cutS x.fst 2) (skV ((a0, a1, a2), (a3, a4), a5, ()))
                                          x).snd.fst.length) then
                            bif decide (0 + a11.length ≤ a11.length) then
                              bp
                                (relH
                                    (skV
                                      ((skP (stkM (cutS x.fst 2) (skV ((a0, a1, a2), (a3, a4), a5, ())) x)
                                            (stkN (cutS x.fst 2) (skV ((a0, a1, a2), (a3, a4), a5, ())) a4
                                              x)).fst,
                                        ((stkM (cutS x.fst 2) (skV ((a0, a1, a2), (a3, a4), a5, ())) x).snd.fst,
                                          stkN (cutS x.fst 2) (skV ((a0, a1, a2), (a3, a4), a5, ())) a4 x),
                                        (stkM (cutS x.fst 2) (skV ((a0, a1, a2), (a3, a4), a5, ())) x).snd.snd,
                                        ()))
                                    (same [mO] (modM (cutS x.fst 2) ((a6, a7, a8), a9, a10) x, ())).fst ∧
                                  ((((skP (stkM (cutS x.fst 2) (skV ((a0, a1, a2), (a3, a4), a5, ())) x)
                                                        (stkN (cutS x.fst 2)
                                                          (skV ((a0, a1, a2), (a3, a4), a5, ())) a4 x)).fst,
                                                    ((stkM (cutS x.fst 2) (skV ((a0, a1, a2), (a3, a4), a5, ()))
                                                            x).snd.fst,
                                                      stkN (cutS x.fst 2) (skV ((a0, a1, a2), (a3, a4), a5, ()))
                                                        a4 x),
                                                    (stkM (cutS x.fst 2) (skV ((a0, a1, a2), (a3, a4), a5, ()))
                                                          x).snd.snd,
                                                    ()),
                                                  (same [mO]
                                                      (modM (cutS x.fst 2) ((a6, a7, a8), a9, a10) x, ())).fst,
                                                  (List.take a11.length a11, a12), a13, IntKind.i64.wrap (a14 + 1),
                                                  ()).fst.snd.fst.snd =
                                        true →
                                      (((skP (stkM (cutS x.fst 2) (skV ((a0, a1, a2), (a3, a4), a5, ())) x)
                                                        (stkN (cutS x.fst 2)
                                                          (skV ((a0, a1, a2), (a3, a4), a5, ())) a4 x)).fst,
                                                    ((stkM (cutS x.fst 2) (skV ((a0, a1, a2), (a3, a4), a5, ()))
                                                            x).snd.fst,
                                                      stkN (cutS x.fst 2) (skV ((a0, a1, a2), (a3, a4), a5, ()))
                                                        a4 x),
                                                    (stkM (cutS x.fst 2) (skV ((a0, a1, a2), (a3, a4), a5, ()))
                                                          x).snd.snd,
                                                    ()),
                                                  (same [mO]
                                                      (modM (cutS x.fst 2) ((a6, a7, a8), a9, a10) x, ())).fst,
                                                  (List.take a11.length a11, a12), a13, IntKind.i64.wrap (a14 + 1),
                                                  ()).fst.snd.fst.fst =
                                        []) ∧
                                    a13 = (↑(List.take a11.length a11).length : Int) ∧
                                      okKc (List.take a11.length a11) a13 (IntKind.i64.wrap (a14 + 1)))
                            else false
                          else false)
                          (some
                            (Xt.exit 1, [PV.undef],
                              [Blk.fix true
                                  [PV.sc
                                      (Value.int IntKind.i64
                                        (skP
                                              (runH
                                                    ((skV
                                                          ((skP
                                                                (stkM (cutS x.fst 2)
                                                                  (skV ((a0, a1, a2), (a3, a4), a5, ())) x)
                                                                (stkN (cutS x.fst 2)
                                                                  (skV ((a0, a1, a2), (a3, a4), a5, ())) a4
                                                                  x)).fst,
                                                            ((stkM (cutS x.fst 2)
                                                                    (skV ((a0, a1, a2), (a3, a4), a5, ()))
                                                                    x).snd.fst,
                                                              stkN (cutS x.fst 2)
                                                                (skV ((a0, a1, a2), (a3, a4), a5, ())) a4 x),
                                                            (stkM (cutS x.fst 2)
                                                                  (skV ((a0, a1, a2), (a3, a4), a5, ()))
                                                                  x).snd.snd,
                                                            ()),
                                                        stkN (cutS x.fst 2)
                                                          (skV ((a0, a1, a2), (a3, a4), a5, ())) a4 x),
                                                      (same [mO]
                                                          (modM (cutS x.fst 2) ((a6, a7, a8), a9, a10) x,
                                                            ())).fst)
                                                    (restL (List.take a11.length a11) a13
                                                      (IntKind.i64.wrap (a14 + 1)))).fst.fst
                                              (runH
                                                    ((skV
                                                          ((skP
                                                                (stkM (cutS x.fst 2)
                                                                  (skV ((a0, a1, a2), (a3, a4), a5, ())) x)
                                                                (stkN (cutS x.fst 2)
                                                                  (skV ((a0, a1, a2), (a3, a4), a5, ())) a4
                                                                  x)).fst,
                                                            ((stkM (cutS x.fst 2)
                                                                    (skV ((a0, a1, a2), (a3, a4), a5, ()))
                                                                    x).snd.fst,
                                                              stkN (cutS x.fst 2)
                                                                (skV ((a0, a1, a2), (a3, a4), a5, ())) a4 x),
                                                            (stkM (cutS x.fst 2)
                                                                  (skV ((a0, a1, a2), (a3, a4), a5, ()))
                                                                  x).snd.snd,
                                                            ()),
                                                        stkN (cutS x.fst 2)
                                                          (skV ((a0, a1, a2), (a3, a4), a5, ())) a4 x),
                                                      (same [mO]
                                                          (modM (cutS x.fst 2) ((a6, a7, a8), a9, a10) x,
                                                            ())).fst)
                                                    (restL (List.take a11.length a11) a13
                                                      (IntKind.i64.wrap (a14 + 1)))).fst.snd).fst.fst),
                                    PV.sc
                                      (Value.int IntKind.i64
                                        (skP
                                                (runH
                                                      ((skV
                                                            ((skP
                                                                  (stkM (cutS x.fst 2)
                                                                    (skV ((a0, a1, a2), (a3, a4), a5, ())) x)
                                                                  (stkN (cutS x.fst 2)
                                                                    (skV ((a0, a1, a2), (a3, a4), a5, ())) a4
                                                                    x)).fst,
                                                              ((stkM (cutS x.fst 2)
                                                                      (skV ((a0, a1, a2), (a3, a4), a5, ()))
                                                                      x).snd.fst,
                                                                stkN (cutS x.fst 2)
                                                                  (skV ((a0, a1, a2), (a3, a4), a5, ())) a4 x),
                                                              (stkM (cutS x.fst 2)
                                                                    (skV ((a0, a1, a2), (a3, a4), a5, ()))
                                                                    x).snd.snd,
                                                              ()),
                                                          stkN (cutS x.fst 2)
                                                            (skV ((a0, a1, a2), (a3, a4), a5, ())) a4 x),
                                                        (same [mO]
                                                            (modM (cutS x.fst 2) ((a6, a7, a8), a9, a10) x,
                                                              ())).fst)
                                                      (restL (List.take a11.length a11) a13
                                                        (IntKind.i64.wrap (a14 + 1)))).fst.fst
                                                (runH
                                                      ((skV
                                                            ((skP
                                                                  (stkM (cutS x.fst 2)
                                                                    (skV ((a0, a1, a2), (a3, a4), a5, ())) x)
                                                                  (stkN (cutS x.fst 2)
                                                                    (skV ((a0, a1, a2), (a3, a4), a5, ())) a4
                                                                    x)).fst,
                                                              ((stkM (cutS x.fst 2)
                                                                      (skV ((a0, a1, a2), (a3, a4), a5, ()))
                                                                      x).snd.fst,
                                                                stkN (cutS x.fst 2)
                                                                  (skV ((a0, a1, a2), (a3, a4), a5, ())) a4 x),
                                                              (stkM (cutS x.fst 2)
                                                                    (skV ((a0, a1, a2), (a3, a4), a5, ()))
                                                                    x).snd.snd,
                                                              ()),
                                                          stkN (cutS x.fst 2)
                                                            (skV ((a0, a1, a2), (a3, a4), a5, ())) a4 x),
                                                        (same [mO]
                                                            (modM (cutS x.fst 2) ((a6, a7, a8), a9, a10) x,
                                                              ())).fst)
                                                      (restL (List.take a11.length a11) a13
                                                        (IntKind.i64.wrap (a14 + 1)))).fst.snd).fst.snd.fst),
                                    PV.sc
                                      (Value.int IntKind.i64
                                        (skP
                                                (runH
                                                      ((skV
                                                            ((skP
                                                                  (stkM (cutS x.fst 2)
                                                                    (skV ((a0, a1, a2), (a3, a4), a5, ())) x)
                                                                  (stkN (cutS x.fst 2)
                                                                    (skV ((a0, a1, a2), (a3, a4), a5, ())) a4
                                                                    x)).fst,
                                                              ((stkM (cutS x.fst 2)
                                                                      (skV ((a0, a1, a2), (a3, a4), a5, ()))
                                                                      x).snd.fst,
                                                                stkN (cutS x.fst 2)
                                                                  (skV ((a0, a1, a2), (a3, a4), a5, ())) a4 x),
                                                              (stkM (cutS x.fst 2)
                                                                    (skV ((a0, a1, a2), (a3, a4), a5, ()))
                                                                    x).snd.snd,
                                                              ()),
                                                          stkN (cutS x.fst 2)
                                                            (skV ((a0, a1, a2), (a3, a4), a5, ())) a4 x),
                                                        (same [mO]
                                                            (modM (cutS x.fst 2) ((a6, a7, a8), a9, a10) x,
                                                              ())).fst)
                                                      (restL (List.take a11.length a11) a13
                                                        (IntKind.i64.wrap (a14 + 1)))).fst.fst
                                                (runH
                                                      ((skV
                                                            ((skP
                                                                  (stkM (cutS x.fst 2)
                                                                    (skV ((a0, a1, a2), (a3, a4), a5, ())) x)
                                                                  (stkN (cutS x.fst 2)
                                                                    (skV ((a0, a1, a2), (a3, a4), a5, ())) a4
                                                                    x)).fst,
                                                              ((stkM (cutS x.fst 2)
                                                                      (skV ((a0, a1, a2), (a3, a4), a5, ()))
                                                                      x).snd.fst,
                                                                stkN (cutS x.fst 2)
                                                                  (skV ((a0, a1, a2), (a3, a4), a5, ())) a4 x),
                                                              (stkM (cutS x.fst 2)
                                                                    (skV ((a0, a1, a2), (a3, a4), a5, ()))
                                                                    x).snd.snd,
                                                              ()),
                                                          stkN (cutS x.fst 2)
                                                            (skV ((a0, a1, a2), (a3, a4), a5, ())) a4 x),
                                                        (same [mO]
                                                            (modM (cutS x.fst 2) ((a6, a7, a8), a9, a10) x,
                                                              ())).fst)
                                                      (restL (List.take a11.length a11) a13
                                                        (IntKind.i64.wrap (a14 + 1)))).fst.snd).fst.snd.snd),
                                    PV.sl 4 0 3
                                      (skP
                                                (runH
                                                      ((skV
                                                            ((skP
                                                                  (stkM (cutS x.fst 2)
                                                                    (skV ((a0, a1, a2), (a3, a4), a5, ())) x)
                                                                  (stkN (cutS x.fst 2)
                                                                    (skV ((a0, a1, a2), (a3, a4), a5, ())) a4
                                                                    x)).fst,
                                                              ((stkM (cutS x.fst 2)
                                                                      (skV ((a0, a1, a2), (a3, a4), a5, ()))
                                                                      x).snd.fst,
                                                                stkN (cutS x.fst 2)
                                                                  (skV ((a0, a1, a2), (a3, a4), a5, ())) a4 x),
                                                              (stkM (cutS x.fst 2)
                                                                    (skV ((a0, a1, a2), (a3, a4), a5, ()))
                                                                    x).snd.snd,
                                                              ()),
                                                          stkN (cutS x.fst 2)
                                                            (skV ((a0, a1, a2), (a3, a4), a5, ())) a4 x),
                                                        (same [mO]
                                                            (modM (cutS x.fst 2) ((a6, a7, a8), a9, a10) x,
                                                              ())).fst)
                                                      (restL (List.take a11.length a11) a13
                                                        (IntKind.i64.wrap (a14 + 1)))).fst.fst
                                                (runH
                                                      ((skV
                                                            ((skP
                                                                  (stkM (cutS x.fst 2)
                                                                    (skV ((a0, a1, a2), (a3, a4), a5, ())) x)
                                                                  (stkN (cutS x.fst 2)
                                                                    (skV ((a0, a1, a2), (a3, a4), a5, ())) a4
                                                                    x)).fst,
                                                              ((stkM (cutS x.fst 2)
                                                                      (skV ((a0, a1, a2), (a3, a4), a5, ()))
                                                                      x).snd.fst,
                                                                stkN (cutS x.fst 2)
                                                                  (skV ((a0, a1, a2), (a3, a4), a5, ())) a4 x),
                                                              (stkM (cutS x.fst 2)
                                                                    (skV ((a0, a1, a2), (a3, a4), a5, ()))
                                                                    x).snd.snd,
                                                              ()),
                                                          stkN (cutS x.fst 2)
                                                            (skV ((a0, a1, a2), (a3, a4), a5, ())) a4 x),
                                                        (same [mO]
                                                            (modM (cutS x.fst 2) ((a6, a7, a8), a9, a10) x,
                                                              ())).fst)
                                                      (restL (List.take a11.length a11) a13
                                                        (IntKind.i64.wrap (a14 + 1)))).fst.snd).snd.fst.fst.length
                                      (skP
                                                (runH
                                                      ((skV
                                                            ((skP
                                                                  (stkM (cutS x.fst 2)
                                                                    (skV ((a0, a1, a2), (a3, a4), a5, ())) x)
                                                                  (stkN (cutS x.fst 2)
                                                                    (skV ((a0, a1, a2), (a3, a4), a5, ())) a4
                                                                    x)).fst,
                                                              ((stkM (cutS x.fst 2)
                                                                      (skV ((a0, a1, a2), (a3, a4), a5, ()))
                                                                      x).snd.fst,
                                                                stkN (cutS x.fst 2)
                                                                  (skV ((a0, a1, a2), (a3, a4), a5, ())) a4 x),
                                                              (stkM (cutS x.fst 2)
                                                                    (skV ((a0, a1, a2), (a3, a4), a5, ()))
                                                                    x).snd.snd,
                                                              ()),
                                                          stkN (cutS x.fst 2)
                                                            (skV ((a0, a1, a2), (a3, a4), a5, ())) a4 x),
                                                        (same [mO]
                                                            (modM (cutS x.fst 2) ((a6, a7, a8), a9, a10) x,
                                                              ())).fst)
                                                      (restL (List.take a11.length a11) a13
                                                        (IntKind.i64.wrap (a14 + 1)))).fst.fst
                                                (runH
                                                      ((skV
                                                            ((skP
                                                                  (stkM (cutS x.fst 2)
                                                                    (skV ((a0, a1, a2), (a3, a4), a5, ())) x)
                                                                  (stkN (cutS x.fst 2)
                                                                    (skV ((a0, a1, a2), (a3, a4), a5, ())) a4
                                                                    x)).fst,
                                                              ((stkM (cutS x.fst 2)
                                                                      (skV ((a0, a1, a2), (a3, a4), a5, ()))
                                                                      x).snd.fst,
                                                                stkN (cutS x.fst 2)
                                                                  (skV ((a0, a1, a2), (a3, a4), a5, ())) a4 x),
                                                              (stkM (cutS x.fst 2)
                                                                    (skV ((a0, a1, a2), (a3, a4), a5, ()))
                                                                    x).snd.snd,
                                                              ()),
                                                          stkN (cutS x.fst 2)
                                                            (skV ((a0, a1, a2), (a3, a4), a5, ())) a4 x),
                                                        (same [mO]
                                                            (modM (cutS x.fst 2) ((a6, a7, a8), a9, a10) x,
                                                              ())).fst)
                                                      (restL (List.take a11.length a11) a13
                                                        (IntKind.i64.wrap (a14 + 1)))).fst.snd).snd.fst.fst.length
                                      false
                                      (runH
                                            ((skV
                                                  ((skP
                                                        (stkM (cutS x.fst 2)
                                                          (skV ((a0, a1, a2), (a3, a4), a5, ())) x)
                                                        (stkN (cutS x.fst 2)
                                                          (skV ((a0, a1, a2), (a3, a4), a5, ())) a4 x)).fst,
                                                    ((stkM (cutS x.fst 2) (skV ((a0, a1, a2), (a3, a4), a5, ()))
                                                            x).snd.fst,
                                                      stkN (cutS x.fst 2) (skV ((a0, a1, a2), (a3, a4), a5, ()))
                                                        a4 x),
                                                    (stkM (cutS x.fst 2) (skV ((a0, a1, a2), (a3, a4), a5, ()))
                                                          x).snd.snd,
                                                    ()),
                                                stkN (cutS x.fst 2) (skV ((a0, a1, a2), (a3, a4), a5, ())) a4
                                                  x),
                                              (same [mO]
                                                  (modM (cutS x.fst 2) ((a6, a7, a8), a9, a10) x, ())).fst)
                                            (restL (List.take a11.length a11) a13
                                              (IntKind.i64.wrap (a14 + 1)))).fst.snd,
                                    PV.sc
                                      (Value.int IntKind.i64
                                        (runH
                                                  ((skV
                                                        ((skP
                                                              (stkM (cutS x.fst 2)
                                                                (skV ((a0, a1, a2), (a3, a4), a5, ())) x)
                                                              (stkN (cutS x.fst 2)
                                                                (skV ((a0, a1, a2), (a3, a4), a5, ())) a4
                                                                x)).fst,
                                                          ((stkM (cutS x.fst 2)
                                                                  (skV ((a0, a1, a2), (a3, a4), a5, ()))
                                                                  x).snd.fst,
                                                            stkN (cutS x.fst 2)
                                                              (skV ((a0, a1, a2), (a3, a4), a5, ())) a4 x),
                                                          (stkM (cutS x.fst 2)
                                                                (skV ((a0, a1, a2), (a3, a4), a5, ()))
                                                                x).snd.snd,
                                                          ()),
                                                      stkN (cutS x.fst 2) (skV ((a0, a1, a2), (a3, a4), a5, ()))
                                                        a4 x),
                                                    (same [mO]
                                                        (modM (cutS x.fst 2) ((a6, a7, a8), a9, a10) x,
                                                          ())).fst)
                                                  (restL (List.take a11.length a11) a13
                                                    (IntKind.i64.wrap (a14 + 1)))).fst.fst.snd.snd)],
                                Blk.dead,
                                Blk.mix true
                                  [PV.sc
                                      (Value.int IntKind.i64
                                        (runH
                                                ((skV
                                                      ((skP
                                                            (stkM (cutS x.fst 2)
                                                              (skV ((a0, a1, a2), (a3, a4), a5, ())) x)
                                                            (stkN (cutS x.fst 2)
                                                              (skV ((a0, a1, a2), (a3, a4), a5, ())) a4 x)).fst,
                                                        ((stkM (cutS x.fst 2)
                                                                (skV ((a0, a1, a2), (a3, a4), a5, ()))
                                                                x).snd.fst,
                                                          stkN (cutS x.fst 2)
                                                            (skV ((a0, a1, a2), (a3, a4), a5, ())) a4 x),
                                                        (stkM (cutS x.fst 2)
                                                              (skV ((a0, a1, a2), (a3, a4), a5, ())) x).snd.snd,
                                                        ()),
                                                    stkN (cutS x.fst 2) (skV ((a0, a1, a2), (a3, a4), a5, ()))
                                                      a4 x),
                                                  (same [mO]
                                                      (modM (cutS x.fst 2) ((a6, a7, a8), a9, a10) x, ())).fst)
                                                (restL (List.take a11.length a11) a13
                                                  (IntKind.i64.wrap (a14 + 1)))).snd.fst.fst),
                                    PV.sc
                                      (Value.int IntKind.i64
                                        (runH
                                                  ((skV
                                                        ((skP
                                                              (stkM (cutS x.fst 2)
                                                                (skV ((a0, a1, a2), (a3, a4), a5, ())) x)
                                                              (stkN (cutS x.fst 2)
                                                                (skV ((a0, a1, a2), (a3, a4), a5, ())) a4
                                                                x)).fst,
                                                          ((stkM (cutS x.fst 2)
                                                                  (skV ((a0, a1, a2), (a3, a4), a5, ()))
                                                                  x).snd.fst,
                                                            stkN (cutS x.fst 2)
                                                              (skV ((a0, a1, a2), (a3, a4), a5, ())) a4 x),
                                                          (stkM (cutS x.fst 2)
                                                                (skV ((a0, a1, a2), (a3, a4), a5, ()))
                                                                x).snd.snd,
                                                          ()),
                                                      stkN (cutS x.fst 2) (skV ((a0, a1, a2), (a3, a4), a5, ()))
                                                        a4 x),
                                                    (same [mO]
                                                        (modM (cutS x.fst 2) ((a6, a7, a8), a9, a10) x,
                                                          ())).fst)
                                                  (restL (List.take a11.length a11) a13
                                                    (IntKind.i64.wrap (a14 + 1)))).snd.fst.snd.fst),
                                    PV.sc
                                      (Value.int IntKind.i64
                                        (runH
                                                  ((skV
                                                        ((skP
                                                              (stkM (cutS x.fst 2)
                                                                (skV ((a0, a1, a2), (a3, a4), a5, ())) x)
                                                              (stkN (cutS x.fst 2)
                                                                (skV ((a0, a1, a2), (a3, a4), a5, ())) a4
                                                                x)).fst,
                                                          ((stkM (cutS x.fst 2)
                                                                  (skV ((a0, a1, a2), (a3, a4), a5, ()))
                                                                  x).snd.fst,
                                                            stkN (cutS x.fst 2)
                                                              (skV ((a0, a1, a2), (a3, a4), a5, ())) a4 x),
                                                          (stkM (cutS x.fst 2)
                                                                (skV ((a0, a1, a2), (a3, a4), a5, ()))
                                                                x).snd.snd,
                                                          ()),
                                                      stkN (cutS x.fst 2) (skV ((a0, a1, a2), (a3, a4), a5, ()))
                                                        a4 x),
                                                    (same [mO]
                                                        (modM (cutS x.fst 2) ((a6, a7, a8), a9, a10) x,
                                                          ())).fst)
                                                  (restL (List.take a11.length a11) a13
                                                    (IntKind.i64.wrap (a14 + 1)))).snd.fst.snd.snd)]
                                  (Kd.str.pair ((Kd.int IntKind.i64).pair (Kd.int IntKind.i64))) 32
                                  (runH
                                          ((skV
                                                ((skP
                                                      (stkM (cutS x.fst 2)
                                                        (skV ((a0, a1, a2), (a3, a4), a5, ())) x)
                                                      (stkN (cutS x.fst 2)
                                                        (skV ((a0, a1, a2), (a3, a4), a5, ())) a4 x)).fst,
                                                  ((stkM (cutS x.fst 2) (skV ((a0, a1, a2), (a3, a4), a5, ()))
                                                          x).snd.fst,
                                                    stkN (cutS x.fst 2) (skV ((a0, a1, a2), (a3, a4), a5, ()))
                                                      a4 x),
                                                  (stkM (cutS x.fst 2) (skV ((a0, a1, a2), (a3, a4), a5, ()))
                                                        x).snd.snd,
                                                  ()),
                                              stkN (cutS x.fst 2) (skV ((a0, a1, a2), (a3, a4), a5, ())) a4 x),
                                            (same [mO] (modM (cutS x.fst 2) ((a6, a7, a8), a9, a10) x, ())).fst)
                                          (restL (List.take a11.length a11) a13
                                            (IntKind.i64.wrap (a14 + 1)))).snd.snd.fst
                                  [PV.sc
                                      (Value.int IntKind.i64
                                        (runH
                                                ((skV
                                                      ((skP
                                                            (stkM (cutS x.fst 2)
                                                              (skV ((a0, a1, a2), (a3, a4), a5, ())) x)
                                                            (stkN (cutS x.fst 2)
                                                              (skV ((a0, a1, a2), (a3, a4), a5, ())) a4 x)).fst,
                                                        ((stkM (cutS x.fst 2)
                                                                (skV ((a0, a1, a2), (a3, a4), a5, ()))
                                                                x).snd.fst,
                                                          stkN (cutS x.fst 2)
                                                            (skV ((a0, a1, a2), (a3, a4), a5, ())) a4 x),
                                                        (stkM (cutS x.fst 2)
                                                              (skV ((a0, a1, a2), (a3, a4), a5, ())) x).snd.snd,
                                                        ()),
                                                    stkN (cutS x.fst 2) (skV ((a0, a1, a2), (a3, a4), a5, ()))
                                                      a4 x),
                                                  (same [mO]
                                                      (modM (cutS x.fst 2) ((a6, a7, a8), a9, a10) x, ())).fst)
                                                (restL (List.take a11.length a11) a13
                                                  (IntKind.i64.wrap (a14 + 1)))).snd.snd.snd)],
                                Blk.row false ((Kd.int IntKind.i64).pair (Kd.str.pair (Kd.int IntKind.i64))) a11,
                                Blk.row true (Kd.str.pair ((Kd.int IntKind.i64).pair (Kd.int IntKind.i64)))
                                  (runH
                                            ((skV
                                                  ((skP
                                                        (stkM (cutS x.fst 2)
                                                          (skV ((a0, a1, a2), (a3, a4), a5, ())) x)
                                                        (stkN (cutS x.fst 2)
                                                          (skV ((a0, a1, a2), (a3, a4), a5, ())) a4 x)).fst,
                                                    ((stkM (cutS x.fst 2) (skV ((a0, a1, a2), (a3, a4), a5, ()))
                                                            x).snd.fst,
                                                      stkN (cutS x.fst 2) (skV ((a0, a1, a2), (a3, a4), a5, ()))
                                                        a4 x),
                                                    (stkM (cutS x.fst 2) (skV ((a0, a1, a2), (a3, a4), a5, ()))
                                                          x).snd.snd,
                                                    ()),
                                                stkN (cutS x.fst 2) (skV ((a0, a1, a2), (a3, a4), a5, ())) a4
                                                  x),
                                              (same [mO]
                                                  (modM (cutS x.fst 2) ((a6, a7, a8), a9, a10) x, ())).fst)
                                            (restL (List.take a11.length a11) a13
                                              (IntKind.i64.wrap (a14 + 1)))).fst.fst.snd.fst]))))))))
else
  some
    (Xt.exit 1, [PV.undef],
      [Blk.fix true
          [PV.sc (Value.int IntKind.i64 a0), PV.sc (Value.int IntKind.i64 a1), PV.sc (Value.int IntKind.i64 a2),
            PV.sl 4 0 3 a3.length a3.length false a4, PV.sc (Value.int IntKind.i64 a5)],
        Blk.dead,
        Blk.mix true
          [PV.sc (Value.int IntKind.i64 a6), PV.sc (Value.int IntKind.i64 a7), PV.sc (Value.int IntKind.i64 a8)]
          (Kd.str.pair ((Kd.int IntKind.i64).pair (Kd.int IntKind.i64))) 32 a9 [PV.sc (Value.int IntKind.i64 a10)],
        Blk.row false ((Kd.int IntKind.i64).pair (Kd.str.pair (Kd.int IntKind.i64))) a11,
        Blk.row true (Kd.str.pair ((Kd.int IntKind.i64).pair (Kd.int IntKind.i64))) a3])) := by kernel_rfl
noncomputable abbrev h8L (w1 : Int) (w2 : Int) (w3 : Int) (M : List (ByteArray × Int × Int)) (mn : Bool) (last : Int) (v1 : Int) (v2 : Int) (v3 : Int) (L : List (ByteArray × Int × Int)) (lam : Int) (c1 : Int) (c2 : ByteArray) (c3 : Int) (s1 : Int) (s2 : Int) (s3 : Int) (C : List (Int × ByteArray × Int)) (nl : Bool) := (evFuncV Try.prog H4
  (addCut 0 [2, 9] [9] (entC kW0 cW0)
    (addCut 1 [10, 12, 110, 111, 112] [4] (entC kLw (cLwK ((((w1, w2, w3), M, last), mn), (v1, v2, v3), L, lam)))
      noCuts))
  Try.f8 [] [.agg [.sc (.int .i64 s1), .sc (.int .i64 s2), .sc (.int .i64 s3)], .sl 0 0 3 C.length C.length false nl]
  [.row false kC C])
theorem h8 (w1 : Int) (w2 : Int) (w3 : Int) (M : List (ByteArray × Int × Int)) (mn : Bool) (last : Int) (v1 : Int) (v2 : Int) (v3 : Int) (L : List (ByteArray × Int × Int)) (lam : Int) (c1 : Int) (c2 : ByteArray) (c3 : Int) (s1 : Int) (s2 : Int) (s3 : Int) (C : List (Int × ByteArray × Int)) (nl : Bool) : h8L w1 w2 w3 M mn last v1 v2 v3 L lam c1 c2 c3 s1 s2 s3 C nl = (guardB (bp (preK (skV ((3000, 5000, 1000), ([], true), 0, ())) (ByteArray.mk #[65])))
  (bif chkE (s1, s2, s3) == 0 then
    bif 0 != chkE (s1, s2, s3) then
      bif 0 == chkE (s1, s2, s3) then
        bif chkE (s1, s2, s3) == chkE (s1, s2, s3) then
          some
            (PV.sc (Value.bool false), [Blk.row false ((Kd.int IntKind.i64).pair (Kd.str.pair (Kd.int IntKind.i64))) C])
        else
          some
            (PV.sc (Value.bool false), [Blk.row false ((Kd.int IntKind.i64).pair (Kd.str.pair (Kd.int IntKind.i64))) C])
      else
        some
          (PV.sc (Value.bool false), [Blk.row false ((Kd.int IntKind.i64).pair (Kd.str.pair (Kd.int IntKind.i64))) C])
    else
      bif chkE (s1, s2, s3) != chkE (s1, s2, s3) then
        bif 0 == chkE (s1, s2, s3) then
          bif chkE (s1, s2, s3) == chkE (s1, s2, s3) then
            some
              (PV.sc (Value.bool false),
                [Blk.row false ((Kd.int IntKind.i64).pair (Kd.str.pair (Kd.int IntKind.i64))) C])
          else
            some
              (PV.sc (Value.bool false),
                [Blk.row false ((Kd.int IntKind.i64).pair (Kd.str.pair (Kd.int IntKind.i64))) C])
        else
          some
            (PV.sc (Value.bool false), [Blk.row false ((Kd.int IntKind.i64).pair (Kd.str.pair (Kd.int IntKind.i64))) C])
      else
        bif chkE (s1, s2, s3) != 0 then
          bif 0 == chkE (s1, s2, s3) then
            bif chkE (s1, s2, s3) == chkE (s1, s2, s3) then
              some
                (PV.sc (Value.bool false),
                  [Blk.row false ((Kd.int IntKind.i64).pair (Kd.str.pair (Kd.int IntKind.i64))) C])
            else
              some
                (PV.sc (Value.bool false),
                  [Blk.row false ((Kd.int IntKind.i64).pair (Kd.str.pair (Kd.int IntKind.i64))) C])
          else
            some
              (PV.sc (Value.bool false),
                [Blk.row false ((Kd.int IntKind.i64).pair (Kd.str.pair (Kd.int IntKind.i64))) C])
        else
          guardB (decide (0 ≤ min (↑C.length : Int) 20) && decide (min (↑C.length : Int) 20 ≤ (↑C.length : Int)))
            (guardB
              (bif decide (0 + ((min (↑C.length : Int) 20).toNat - 0) ≤ C.length) then
                bp
                  ((cLw
                          (((s1, s2, s3), ([], true), 0, ()),
                            ((s1, s2, s3),
                              [(ByteArray.mk #[], 0, 0), (ByteArray.mk #[], 0, 0), (ByteArray.mk #[], 0, 0),
                                (ByteArray.mk #[], 0, 0), (ByteArray.mk #[], 0, 0), (ByteArray.mk #[], 0, 0),
                                (ByteArray.mk #[], 0, 0), (ByteArray.mk #[], 0, 0), (ByteArray.mk #[], 0, 0),
                                (ByteArray.mk #[], 0, 0), (ByteArray.mk #[], 0, 0), (ByteArray.mk #[], 0, 0),
                                (ByteArray.mk #[], 0, 0), (ByteArray.mk #[], 0, 0), (ByteArray.mk #[], 0, 0),
                                (ByteArray.mk #[], 0, 0), (ByteArray.mk #[], 0, 0), (ByteArray.mk #[], 0, 0),
                                (ByteArray.mk #[], 0, 0), (ByteArray.mk #[], 0, 0), (ByteArray.mk #[], 0, 0),
                                (ByteArray.mk #[], 0, 0), (ByteArray.mk #[], 0, 0), (ByteArray.mk #[], 0, 0),
                                (ByteArray.mk #[], 0, 0), (ByteArray.mk #[], 0, 0), (ByteArray.mk #[], 0, 0),
                                (ByteArray.mk #[], 0, 0), (ByteArray.mk #[], 0, 0), (ByteArray.mk #[], 0, 0),
                                (ByteArray.mk #[], 0, 0), (ByteArray.mk #[], 0, 0)],
                              0),
                            (List.take ((min (↑C.length : Int) 20).toNat - 0) C, nl),
                            (↑((min (↑C.length : Int) 20).toNat - 0) : Int), 0, ())).fst =
                      true ∧
                    runH
                        ((skV ((s1, s2, s3), ([], true), 0, ()), true), (s1, s2, s3),
                          [(ByteArray.mk #[], 0, 0), (ByteArray.mk #[], 0, 0), (ByteArray.mk #[], 0, 0),
                            (ByteArray.mk #[], 0, 0), (ByteArray.mk #[], 0, 0), (ByteArray.mk #[], 0, 0),
                            (ByteArray.mk #[], 0, 0), (ByteArray.mk #[], 0, 0), (ByteArray.mk #[], 0, 0),
                            (ByteArray.mk #[], 0, 0), (ByteArray.mk #[], 0, 0), (ByteArray.mk #[], 0, 0),
                            (ByteArray.mk #[], 0, 0), (ByteArray.mk #[], 0, 0), (ByteArray.mk #[], 0, 0),
                            (ByteArray.mk #[], 0, 0), (ByteArray.mk #[], 0, 0), (ByteArray.mk #[], 0, 0),
                            (ByteArray.mk #[], 0, 0), (ByteArray.mk #[], 0, 0), (ByteArray.mk #[], 0, 0),
                            (ByteArray.mk #[], 0, 0), (ByteArray.mk #[], 0, 0), (ByteArray.mk #[], 0, 0),
                            (ByteArray.mk #[], 0, 0), (ByteArray.mk #[], 0, 0), (ByteArray.mk #[], 0, 0),
                            (ByteArray.mk #[], 0, 0), (ByteArray.mk #[], 0, 0), (ByteArray.mk #[], 0, 0),
                            (ByteArray.mk #[], 0, 0), (ByteArray.mk #[], 0, 0)],
                          0)
                        (restL (List.take ((min (↑C.length : Int) 20).toNat - 0) C)
                          (↑((min (↑C.length : Int) 20).toNat - 0) : Int) 0) =
                      ((((w1, w2, w3), M, last), mn), (v1, v2, v3), L, lam))
              else false)
              (some
                (PV.sc (Value.bool true),
                  [Blk.row false ((Kd.int IntKind.i64).pair (Kd.str.pair (Kd.int IntKind.i64))) C])))
  else
    bif chkE (s1, s2, s3) != chkE (s1, s2, s3) then
      bif chkE (s1, s2, s3) == chkE (s1, s2, s3) then
        bif chkE (s1, s2, s3) == chkE (s1, s2, s3) then
          some
            (PV.sc (Value.bool true), [Blk.row false ((Kd.int IntKind.i64).pair (Kd.str.pair (Kd.int IntKind.i64))) C])
        else
          some
            (PV.sc (Value.bool false), [Blk.row false ((Kd.int IntKind.i64).pair (Kd.str.pair (Kd.int IntKind.i64))) C])
      else
        some
          (PV.sc (Value.bool false), [Blk.row false ((Kd.int IntKind.i64).pair (Kd.str.pair (Kd.int IntKind.i64))) C])
    else
      bif chkE (s1, s2, s3) != chkE (s1, s2, s3) then
        bif chkE (s1, s2, s3) == chkE (s1, s2, s3) then
          bif chkE (s1, s2, s3) == chkE (s1, s2, s3) then
            some
              (PV.sc (Value.bool true),
                [Blk.row false ((Kd.int IntKind.i64).pair (Kd.str.pair (Kd.int IntKind.i64))) C])
          else
            some
              (PV.sc (Value.bool false),
                [Blk.row false ((Kd.int IntKind.i64).pair (Kd.str.pair (Kd.int IntKind.i64))) C])
        else
          some
            (PV.sc (Value.bool false), [Blk.row false ((Kd.int IntKind.i64).pair (Kd.str.pair (Kd.int IntKind.i64))) C])
      else
        bif chkE (s1, s2, s3) != 0 then
          bif chkE (s1, s2, s3) == chkE (s1, s2, s3) then
            bif chkE (s1, s2, s3) == chkE (s1, s2, s3) then
              some
                (PV.sc (Value.bool true),
                  [Blk.row false ((Kd.int IntKind.i64).pair (Kd.str.pair (Kd.int IntKind.i64))) C])
            else
              some
                (PV.sc (Value.bool false),
                  [Blk.row false ((Kd.int IntKind.i64).pair (Kd.str.pair (Kd.int IntKind.i64))) C])
          else
            some
              (PV.sc (Value.bool false),
                [Blk.row false ((Kd.int IntKind.i64).pair (Kd.str.pair (Kd.int IntKind.i64))) C])
        else
          guardB (decide (0 ≤ min (↑C.length : Int) 20) && decide (min (↑C.length : Int) 20 ≤ (↑C.length : Int))) none)) := by kernel_rfl
theorem q8w (w1 w2 w3 : Int) : h8wL w1 w2 w3 [] false 0 0 0 0 [] 0 0 eS 0 0 0 0 [] false = some (Xt.normal, [PV.sc (.int .i64 (chkE (w1, w2, w3)))], [Blk.fix false [.sc (.int .i64 w1), .sc (.int .i64 w2), .sc (.int .i64 w3)]]) := by
  rw [h8w]; unfold chkE
  have ei : (!inS w3 100 10000) = (decide (w3 < 100) || decide (w3 > 10000)) := by
    unfold inS
    rw [Bool.eq_iff_iff]; simp
  rw [ei]
  show _ = some (Xt.normal, [PV.sc (.int .i64 (bif decide (w1 < 0) || (decide (w2 > 60000) || (decide (w3 < 100) || decide (w3 > 10000))) then 4 else bif decide (w1 > w2) then 3 else bif decide ((w2 - w1).tdiv w3 + 1 > 32) then 2 else 0))], [Blk.fix false [.sc (.int .i64 w1), .sc (.int .i64 w2), .sc (.int .i64 w3)]])
  cases e1 : decide (w1 < 0) with
  | true => rfl
  | false => cases e2 : decide (w2 > 60000) with
    | true => rfl
    | false => cases e3 : decide (w3 < 100) with
      | true => rfl
      | false => cases e4 : decide (w3 > 10000) with
        | true => rfl
        | false => cases e5 : decide (w1 > w2) with
          | true => rfl
          | false =>
            have e1 := of_decide_eq_false e1
            have e2 := of_decide_eq_false e2
            have e3 := of_decide_eq_false e3
            have e5 := of_decide_eq_false e5
            have hq := quoB (d := w2 - w1) (s := w3) (by omega) (by omega) (by omega)
            simp only [cond_false, Bool.false_or]
            rw [IntWalk.i64_in (w2 - w1) (by omega), IntWalk.i64_in ((w2 - w1).tdiv w3) (by omega)]
            refine guard_split (by simp; omega) ?_
            have e : decide ((w2 - w1).tdiv w3 ≥ 32) = decide ((w2 - w1).tdiv w3 + 1 > 32) := decide_eq_decide.mpr (by omega)
            rw [e]
            cases decide ((w2 - w1).tdiv w3 + 1 > 32) <;> rfl
theorem in0 : CutOK Try.prog Try.f8.ntmps (codeAt 0 (bodyF Try.f8)) [2, 9] [9] (entC kW0 cW0) := by
  refine block_cutV (kill := killA 0 kW0) H4_ok mixed (noCuts_ok _) ?_
  rintro ⟨⟨w1, w2, w3⟩, z, ⟨⟩⟩ hpre
  obtain rfl : z = 0 := of_decide_eq_true hpre
  exact q8w w1 w2 w3
theorem kd3 {kd : Int} (h1 : 0 ≤ kd) (h2 : kd ≤ 2) : kd = 0 ∨ kd = 1 ∨ kd = 2 := by omega
theorem pre_any {k : SK} {c : ByteArray} (h : preK k c) : preK k eS := ⟨h.1, h.2.1, h.2.2.1, h.2.2.2.1, h.2.2.2.2.1, by decide⟩
theorem preM_any {m : MD} {c : ByteArray} (h : preM m c) : preM m eS := ⟨h.1, h.2.1, h.2.2.1, h.2.2.2.1, h.2.2.2.2.1, h.2.2.2.2.2.1, by decide⟩
theorem in3 : CutOK Try.prog Try.f8.ntmps (codeAt 3 (bodyF Try.f8)) [10, 12, 14, 118] [15, 16, 17, 18] (entC kSw cSw) := by
  refine block_cutV (kill := killA 0 kSw) H4_ok mixed (noCuts_ok _) ?_
  rintro ⟨⟨⟨w1, w2, w3⟩, ⟨M, mn⟩, last, ⟨⟩⟩, ⟨⟨v1, v2, v3⟩, L, lam⟩, ⟨c1, c2, c3⟩, kd, ⟨⟩⟩ hpre
  obtain ⟨hK, hM, g1, g2⟩ := bp_true.1 hpre
  have g1 : (0 : Int) ≤ kd := g1
  have g2 : kd ≤ 2 := g2
  rcases kd3 g1 g2 with rfl | rfl | rfl
  · refine (h8s0 w1 w2 w3 M mn last v1 v2 v3 L lam c1 c2 c3 0 0 0 [] false).trans (guard_split ?_ (guard_split (bp_mk hM) rfl))
    rw [decide_eq_true (show M.length = M.length from rfl)]; exact bp_mk hK
  · refine (h8s1 w1 w2 w3 M mn last v1 v2 v3 L lam c1 c2 c3 0 0 0 [] false).trans (guard_split ?_ (guard_split (bp_mk (preM_any hM)) rfl))
    rw [decide_eq_true (show M.length = M.length from rfl)]; exact bp_mk (pre_any hK)
  · refine (h8s2 w1 w2 w3 M mn last v1 v2 v3 L lam c1 c2 c3 0 0 0 [] false).trans (guard_split ?_ (guard_split (bp_mk hM) rfl))
    rw [decide_eq_true (show M.length = M.length from rfl)]; exact bp_mk hK
theorem cut02 (n : Int) : 0 ≤ cutS n 2 ∧ cutS n 2 ≤ 2 := by
  unfold cutS
  have h1 := Int.tmod_lt_of_pos n (b := 3) (by omega)
  have h2 : -3 < n.tmod 3 := Int.lt_tmod_of_pos n (by omega)
  show 0 ≤ (bif decide (n.tmod 3 < 0) then n.tmod 3 + 3 else n.tmod 3) ∧ (bif decide (n.tmod 3 < 0) then n.tmod 3 + 3 else n.tmod 3) ≤ 2
  by_cases h : n.tmod 3 < 0
  · rw [decide_eq_true h]; simp only [cond_true]; omega
  · rw [decide_eq_false h]; simp only [cond_false]; omega
theorem rest_cons {C : List C3} {m k : Int} {x : C3} (h0 : 0 ≤ k) (h : k < m) (hx : C[k.toNat]? = some x) : restL C m k = x :: restL C m (k + 1) := by
  unfold restL
  have : (C.take m.toNat)[k.toNat]? = some x := by rw [List.getElem?_take, if_pos (by omega)]; exact hx
  rw [drop_cons this, show (k + 1).toNat = k.toNat + 1 by omega]
theorem rest_nil {C : List C3} {m k : Int} (h : m ≤ k) : restL C m k = [] := by
  unfold restL
  exact List.drop_eq_nil_of_le (by rw [List.length_take]; omega)
abbrev ansLw (C : List C3) (s : SH) : Option (Xt × List PV × List Blk) := some (Xt.exit 1, [PV.undef], [fixK s.1.1 4 s.1.2, Blk.dead, mixM s.2, Blk.row false kC C, Blk.row true kT s.1.1.2.1])
theorem q8l (k : SK) (kn : Bool) (m : MD) (C : List C3) (nl : Bool) (n j : Int) (h : relH k m ∧ (kn = true → k.2.1 = []) ∧ n = (C.length : Int) ∧ okKc C n j) : h8lL k.1.1 k.1.2.1 k.1.2.2 k.2.1 kn k.2.2 m.1.1 m.1.2.1 m.1.2.2 m.2.1 m.2.2 C nl n j = ansLw C (runH ((k, kn), m) (restL C n j)) := by
  obtain ⟨⟨w1, w2, w3⟩, M, last⟩ := k
  obtain ⟨⟨v1, v2, v3⟩, L, lam⟩ := m
  obtain ⟨hr, hk, hn, hok⟩ := h
  have hok2 := hok
  obtain ⟨o1, o2, o3, o4, o5⟩ := hok2
  rw [h8l]
  simp only [skV, skP, same, sameShp, List.take_length, Nat.zero_add, len_true, cond_true]
  refine cond_split (fun hj => ?_) (fun hj => ?_)
  · have hj := of_decide_eq_true hj
    obtain ⟨x, hx⟩ := get_ex (l := C) (k := j.toNat) (by omega)
    have hxC := o5 x (List.mem_of_getElem? hx)
    obtain ⟨hc1, hc2⟩ := cut02 x.1
    obtain ⟨s1, s2, s3⟩ := step_rel hr (cutS x.1 2) x
    have p1 := rel_pre hr x.2.1 hxC
    have hnl := step_nl hk (cutS x.1 2) x
    have q1 := rel_pre s3 eS (by decide)
    have he := lis_eqs s3
    rw [hx, IntWalk.i64_in (j + 1) (by omega), rest_cons o2 hj hx]
    have e : runH ((((w1, w2, w3), M, last), kn), (v1, v2, v3), L, lam) (x :: restL C n (j + 1)) = runH ((stkM (cutS x.1 2) ((w1, w2, w3), M, last) x, stkN (cutS x.1 2) ((w1, w2, w3), M, last) kn x), modM (cutS x.1 2) ((v1, v2, v3), L, lam) x) (restL C n (j + 1)) := rfl
    rw [e]
    refine guard_split (by simp; omega) ?_
    simp only [bindO]
    refine guard_split ?_ ?_
    · simp only [decT, cond_true]
      exact bp_mk ⟨p1.1, p1.2, hc1, hc2⟩
    · rw [s1, s2, bne_self_eq_false, bne_self_eq_false]
      simp only [cond_false]
      generalize stkM (cutS x.1 2) ((w1, w2, w3), M, last) x = K at *
      generalize stkN (cutS x.1 2) ((w1, w2, w3), M, last) kn x = n' at *
      generalize modM (cutS x.1 2) ((v1, v2, v3), L, lam) x = m' at *
      have hl := eqTs_len he
      have hK := q1.1.2.1
      have hm32 := q1.2.2.2.1
      refine guard_split (decide_eq_true (by omega)) ?_
      cases n' with
      | true =>
        have hK0 := hnl rfl
        rw [hK0] at he hl
        have hl : 0 = (lisR ([], true) m'.2.1).1.length := hl
        simp only [cond_true]
        refine guard_split (decide_eq_true hm32) (guard_split (decide_eq_true ⟨by decide, by omega⟩) ?_)
        rw [he]
        simp only [Bool.not_true, cond_false]
        refine guard_split (decide_eq_true (show (n - (j + 1)).toNat < (n - j).toNat by omega)) (guard_split ?_ rfl)
        simp only [decT, cond_true]
        exact bp_mk ⟨s3, fun _ => hK0, hn, o1, by omega, by omega, o4, o5⟩
      | false =>
        simp only [cond_false]
        refine guard_split (decide_eq_true hm32) (guard_split (decide_eq_true ⟨by omega, by omega⟩) ?_)
        rw [he]
        simp only [Bool.not_true, cond_false]
        refine guard_split (decide_eq_true (show (n - (j + 1)).toNat < (n - j).toNat by omega)) (guard_split ?_ rfl)
        simp only [decT, cond_true]
        exact bp_mk ⟨s3, hnl, hn, o1, by omega, by omega, o4, o5⟩
  · have hj := of_decide_eq_false hj
    rw [rest_nil (by omega)]
    rfl
theorem in1 : CutOK Try.prog Try.f8.ntmps (codeAt 1 (bodyF Try.f8)) [10, 12, 110, 111, 112] [4] (entC kLw cLw) :=
  loop_cutW (kill := killA 0 kLw) H4_ok mixed muLw (by kernel_rfl) (cutAt (id := 3) (by kernel_rfl) (by kernel_rfl) in3 (noCuts_ok _)) fun v h => q8l (skV v.1) v.1.2.1.2 v.2.1 v.2.2.1.1 v.2.2.1.2 v.2.2.2.1 v.2.2.2.2.1 (bp_true.1 h)
/-- A contract that asks more and says the same. -/
theorem cut_more {P : Program} {N : Nat} {c : Code} {ins outs : List Nat} {ks : List Shp} {spec spec' : SpecC ks} (h : ∀ v, (spec' v).1 = true → (spec v).1 = true ∧ (spec v).2 = (spec' v).2) (hC : CutOK P N c ins outs (entC ks spec)) : CutOK P N c ins outs (entC ks spec') := by
  intro xs H alts he
  refine hC xs H alts ?_
  unfold entC at he ⊢
  split at he
  · rename_i v bs gs hp
    unfold entC2 at he ⊢
    obtain ⟨h1, h2⟩ := Prod.mk.inj (Option.some.inj he)
    rw [Bool.and_eq_true] at h1
    obtain ⟨g1, g2⟩ := allB_true h1.2
    obtain ⟨f1, f2⟩ := h v g2
    rw [f1, f2, ← h2]
    rw [g2] at h1
    congr 2
    rw [h1.1, h1.2]; rfl
  · cases he
theorem in1K (s : SH) : CutOK Try.prog Try.f8.ntmps (codeAt 1 (bodyF Try.f8)) [10, 12, 110, 111, 112] [4] (entC kLw (cLwK s)) := by
  refine cut_more (fun v h => ?_) in1
  obtain ⟨h1, h2⟩ := bp_true.1 h
  refine ⟨h1, ?_⟩
  subst h2
  rfl
/-! ### The law -/
theorem chk_ok {s : S3} (h : (chkE s == 0) = true) : setOK s ∧ lvlM s ≤ 32 := by
  have h := eq_of_beq h
  unfold chkE at h
  cases e1 : decide (s.1 < 0) with
  | true => rw [e1] at h; simp at h
  | false => cases e2 : decide (s.2.1 > 60000) with
    | true => rw [e1, e2] at h; simp at h
    | false => cases e3 : decide (s.2.2 < 100) with
      | true => rw [e1, e2, e3] at h; simp at h
      | false => cases e4 : decide (s.2.2 > 10000) with
        | true => rw [e1, e2, e3, e4] at h; simp at h
        | false => cases e5 : decide (s.1 > s.2.1) with
          | true => rw [e1, e2, e3, e4, e5] at h; simp at h
          | false => cases e6 : decide ((s.2.1 - s.1).tdiv s.2.2 + 1 > 32) with
            | true => rw [e1, e2, e3, e4, e5, e6] at h; simp at h
            | false =>
              have e1 := of_decide_eq_false e1
              have e2 := of_decide_eq_false e2
              have e3 := of_decide_eq_false e3
              have e4 := of_decide_eq_false e4
              have e5 := of_decide_eq_false e5
              have e6 := of_decide_eq_false e6
              unfold setOK lvlM
              exact ⟨⟨by omega, by omega, by omega, by omega, by omega⟩, by omega⟩
abbrev L0 : List T3 := [zT, zT, zT, zT, zT, zT, zT, zT, zT, zT, zT, zT, zT, zT, zT, zT, zT, zT, zT, zT, zT, zT, zT, zT, zT, zT, zT, zT, zT, zT, zT, zT]
theorem ht_zero (low s : Int) : ∀ (n : Nat) (p : Int), htR low s p (List.replicate n zT)
  | 0, p => trivial
  | n + 1, p => ⟨fun h => (by rw [occ_z] at h; cases h), ht_zero low s n (p + 1)⟩
theorem rel_zero {s : S3} (h : (chkE s == 0) = true) : relH (s, [], 0) (s, L0, 0) := by
  obtain ⟨h1, h2⟩ := chk_ok h
  have e : L0 = List.replicate 32 zT := rfl
  refine ⟨rfl, rfl, rfl, ?_, ?_, rfl, rfl, h1, h2, Int.le_refl 0⟩
  · show [] = L0.filter occT
    rw [e, filt_none]
    intro x hx
    rw [(List.mem_replicate.1 hx).2, occ_z]
  · show htR _ _ 0 L0
    rw [e]; exact ht_zero _ _ _ _
theorem law_at (s : S3) (C : List C3) (nl : Bool) (h : ∀ c ∈ C, c.2.1.size ≤ 1000000000000000000) : ∃ w1 w2 w3 M mn last v1 v2 v3 L lam, h8L w1 w2 w3 M mn last v1 v2 v3 L lam 0 eS 0 s.1 s.2.1 s.2.2 C nl = some (PV.sc (.bool true), [Blk.row false kC C]) := by
  have hmin : (min (C.length : Int) 20).toNat - 0 = min C.length 20 := by omega
  generalize hs : runH ((((s.1, s.2.1, s.2.2), [], 0), true), (s.1, s.2.1, s.2.2), L0, 0) (restL (C.take (min C.length 20)) ((min C.length 20 : Nat) : Int) 0) = z
  obtain ⟨⟨⟨⟨w1, w2, w3⟩, M, last⟩, mn⟩, ⟨v1, v2, v3⟩, L, lam⟩ := z
  refine ⟨w1, w2, w3, M, mn, last, v1, v2, v3, L, lam, ?_⟩
  rw [h8, hmin]
  refine guard_split (bp_mk ⟨⟨by decide, by decide, by decide, by decide, by decide⟩, by decide, rfl, rfl, by decide, by decide⟩) ?_
  have e0 : (s.1, s.2.1, s.2.2) = s := rfl
  rw [e0] at hs ⊢
  cases hc : (chkE s == 0) with
  | true =>
    have hz : chkE s = 0 := eq_of_beq hc
    rw [hz]
    simp only [cond_true, cond_false, bne_self_eq_false]
    refine guard_split (by simp; omega) (guard_split ?_ rfl)
    rw [decide_eq_true (show 0 + min C.length 20 ≤ C.length by omega), cond_true]
    refine bp_mk ⟨?_, hs⟩
    refine bp_mk ⟨rel_zero hc, fun _ => rfl, ?_, ?_⟩
    · show ((min C.length 20 : Nat) : Int) = ((C.take (min C.length 20)).length : Int)
      rw [List.length_take]; omega
    · show okKc (C.take (min C.length 20)) ((min C.length 20 : Nat) : Int) 0
      refine ⟨by rw [List.length_take]; omega, by omega, by omega, by omega, fun c hc => h c (List.mem_of_mem_take hc)⟩
  | false =>
    have hne : (chkE s != 0) = true := by unfold bne; rw [hc]; rfl
    simp only [cond_false, bne_self_eq_false, hne, cond_true, beq_self_eq_true]
end Go.Proofs.YtacdahpjmeianaaHo
