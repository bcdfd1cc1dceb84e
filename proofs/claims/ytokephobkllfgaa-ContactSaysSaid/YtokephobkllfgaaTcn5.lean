/- What is proved: the law's loops over a radio and a list. No condition. -/
import Derived.Test.YtokephobkllfgaaTcn4
namespace Go.Proofs.YtokephobkllfgaaCn
open Go Go.Proofs Go.Proofs.YtokephobkllfgaaEv Go.Proofs.YtokephobkllfgaaSs
set_option maxRecDepth 100000
set_option maxHeartbeats 4000000
set_option linter.unusedVariables false
set_option linter.unusedSimpArgs false
noncomputable abbrev n4s0L (M : List (ByteArray × Int × Int)) (mn : Bool) (l : List (ByteArray × Int × Int)) (ln : Bool) (c1 : Int) (c2 : Int) (c3 : Int) (c4 : ByteArray) (k : Int) (C : List (Int × Int × Int × ByteArray)) (nl : Bool) (f : Int) (t : Int) (lim : Int) := (evBlock Try.prog C5 noCuts 248 (codeAt 2 (bodyF Try.f4)) kSw (killA 0 kSw) [9, 10, 11, 13, 14, 16, 47] [10, 15, 16]
  (((M, mn), ()), (l, ln), (), (c1, c2, c3, c4), k, 0, 0, ()))
theorem n4s0 (M : List (ByteArray × Int × Int)) (mn : Bool) (l : List (ByteArray × Int × Int)) (ln : Bool) (c1 : Int) (c2 : Int) (c3 : Int) (c4 : ByteArray) (k : Int) (C : List (Int × Int × Int × ByteArray)) (nl : Bool) (f : Int) (t : Int) (lim : Int) : n4s0L M mn l ln c1 c2 c3 c4 k C nl f t lim = (guardB (bif decide (M.length = M.length) then bp (preR M c4) else false)
  (guardB (decide (c4.size ≤ 1000000000000000000))
    (bif !namS c4 then
      some
        (Xt.normal,
          [PV.sl 4 0 3 l.length l.length false ln, PV.sc (Value.int IntKind.i64 (tunE M c4 c2 c3)),
            PV.sc (Value.int IntKind.i64 6)],
          [Blk.fix true
              [PV.sl 5 0 3 (tunM M c4 c2 c3).length (tunM M c4 c2 c3).length false
                  (bif tunE M c4 c2 c3 == 0 && !hasT c4 M then false else mn)],
            Blk.dead, Blk.dead,
            Blk.fix false
              [PV.sc (Value.int IntKind.i64 c1), PV.sc (Value.int IntKind.i64 c2), PV.sc (Value.int IntKind.i64 c3),
                PV.sc (Value.string c4)],
            Blk.row true (Kd.str.pair ((Kd.int IntKind.i64).pair (Kd.int IntKind.i64))) l,
            Blk.row true (Kd.str.pair ((Kd.int IntKind.i64).pair (Kd.int IntKind.i64))) (tunM M c4 c2 c3)])
    else
      bif !valF c2 then
        some
          (Xt.normal,
            [PV.sl 4 0 3 l.length l.length false ln, PV.sc (Value.int IntKind.i64 (tunE M c4 c2 c3)),
              PV.sc (Value.int IntKind.i64 4)],
            [Blk.fix true
                [PV.sl 5 0 3 (tunM M c4 c2 c3).length (tunM M c4 c2 c3).length false
                    (bif tunE M c4 c2 c3 == 0 && !hasT c4 M then false else mn)],
              Blk.dead, Blk.dead,
              Blk.fix false
                [PV.sc (Value.int IntKind.i64 c1), PV.sc (Value.int IntKind.i64 c2), PV.sc (Value.int IntKind.i64 c3),
                  PV.sc (Value.string c4)],
              Blk.row true (Kd.str.pair ((Kd.int IntKind.i64).pair (Kd.int IntKind.i64))) l,
              Blk.row true (Kd.str.pair ((Kd.int IntKind.i64).pair (Kd.int IntKind.i64))) (tunM M c4 c2 c3)])
      else
        bif !inS c3 0 200000 then
          some
            (Xt.normal,
              [PV.sl 4 0 3 l.length l.length false ln, PV.sc (Value.int IntKind.i64 (tunE M c4 c2 c3)),
                PV.sc (Value.int IntKind.i64 4)],
              [Blk.fix true
                  [PV.sl 5 0 3 (tunM M c4 c2 c3).length (tunM M c4 c2 c3).length false
                      (bif tunE M c4 c2 c3 == 0 && !hasT c4 M then false else mn)],
                Blk.dead, Blk.dead,
                Blk.fix false
                  [PV.sc (Value.int IntKind.i64 c1), PV.sc (Value.int IntKind.i64 c2), PV.sc (Value.int IntKind.i64 c3),
                    PV.sc (Value.string c4)],
                Blk.row true (Kd.str.pair ((Kd.int IntKind.i64).pair (Kd.int IntKind.i64))) l,
                Blk.row true (Kd.str.pair ((Kd.int IntKind.i64).pair (Kd.int IntKind.i64))) (tunM M c4 c2 c3)])
        else
          bif decide (k < 0) then
            bif (↑l.length : Int) == 24 then
              some
                (Xt.normal,
                  [PV.sl 4 0 3 l.length l.length false ln, PV.sc (Value.int IntKind.i64 (tunE M c4 c2 c3)),
                    PV.sc (Value.int IntKind.i64 9)],
                  [Blk.fix true
                      [PV.sl 5 0 3 (tunM M c4 c2 c3).length (tunM M c4 c2 c3).length false
                          (bif tunE M c4 c2 c3 == 0 && !hasT c4 M then false else mn)],
                    Blk.dead, Blk.dead,
                    Blk.fix false
                      [PV.sc (Value.int IntKind.i64 c1), PV.sc (Value.int IntKind.i64 c2),
                        PV.sc (Value.int IntKind.i64 c3), PV.sc (Value.string c4)],
                    Blk.row true (Kd.str.pair ((Kd.int IntKind.i64).pair (Kd.int IntKind.i64))) l,
                    Blk.row true (Kd.str.pair ((Kd.int IntKind.i64).pair (Kd.int IntKind.i64))) (tunM M c4 c2 c3)])
            else
              bif decide (k ≥ 0) then
                guardB (decide (0 ≤ k) && decide (k < (↑l.length : Int)))
                  (bindO l[0 + k.toNat]? fun x =>
                    bif decide (c3 < x.snd.snd) then
                      some
                        (Xt.normal,
                          [PV.sl 4 0 3 l.length l.length false ln, PV.sc (Value.int IntKind.i64 (tunE M c4 c2 c3)),
                            PV.sc (Value.int IntKind.i64 12)],
                          [Blk.fix true
                              [PV.sl 5 0 3 (tunM M c4 c2 c3).length (tunM M c4 c2 c3).length false
                                  (bif tunE M c4 c2 c3 == 0 && !hasT c4 M then false else mn)],
                            Blk.dead, Blk.dead,
                            Blk.fix false
                              [PV.sc (Value.int IntKind.i64 c1), PV.sc (Value.int IntKind.i64 c2),
                                PV.sc (Value.int IntKind.i64 c3), PV.sc (Value.string c4)],
                            Blk.row true (Kd.str.pair ((Kd.int IntKind.i64).pair (Kd.int IntKind.i64))) l,
                            Blk.row true (Kd.str.pair ((Kd.int IntKind.i64).pair (Kd.int IntKind.i64)))
                              (tunM M c4 c2 c3)])
                    else
                      bif decide (k ≥ 0) then
                        guardB (decide (0 ≤ k) && decide (k < (↑l.length : Int)))
                          (bindO l[0 + k.toNat]? fun x =>
                            some
                              (Xt.normal,
                                [PV.sl 4 0 3 l.length l.length false ln,
                                  PV.sc (Value.int IntKind.i64 (tunE M c4 c2 c3)), PV.sc (Value.int IntKind.i64 0)],
                                [Blk.fix true
                                    [PV.sl 5 0 3 (tunM M c4 c2 c3).length (tunM M c4 c2 c3).length false
                                        (bif tunE M c4 c2 c3 == 0 && !hasT c4 M then false else mn)],
                                  Blk.dead, Blk.dead,
                                  Blk.fix false
                                    [PV.sc (Value.int IntKind.i64 c1), PV.sc (Value.int IntKind.i64 c2),
                                      PV.sc (Value.int IntKind.i64 c3), PV.sc (Value.string c4)],
                                  Blk.row true (Kd.str.pair ((Kd.int IntKind.i64).pair (Kd.int IntKind.i64)))
                                    (l.set (0 + k.toNat) (c4, c2, c3)),
                                  Blk.row true (Kd.str.pair ((Kd.int IntKind.i64).pair (Kd.int IntKind.i64)))
                                    (tunM M c4 c2 c3)]))
                      else
                        guardB
                          (decide (0 + l.length ≤ l.length) && true && decide ((l.length + 1) * 32 ≤ 140737488355328) &&
                            decide (l.length + 1 ≤ 4611686018427387904))
                          (some
                            (Xt.normal,
                              [PV.sl 4 0 3 (l.length + 1) (l.length + 1) false false,
                                PV.sc (Value.int IntKind.i64 (tunE M c4 c2 c3)), PV.sc (Value.int IntKind.i64 0)],
                              [Blk.fix true
                                  [PV.sl 5 0 3 (tunM M c4 c2 c3).length (tunM M c4 c2 c3).length false
                                      (bif tunE M c4 c2 c3 == 0 && !hasT c4 M then false else mn)],
                                Blk.dead, Blk.dead,
                                Blk.fix false
                                  [PV.sc (Value.int IntKind.i64 c1), PV.sc (Value.int IntKind.i64 c2),
                                    PV.sc (Value.int IntKind.i64 c3), PV.sc (Value.string c4)],
                                Blk.row true (Kd.str.pair ((Kd.int IntKind.i64).pair (Kd.int IntKind.i64)))
                                  (List.take l.length l ++ [(c4, c2, c3)]),
                                Blk.row true (Kd.str.pair ((Kd.int IntKind.i64).pair (Kd.int IntKind.i64)))
                                  (tunM M c4 c2 c3)])))
              else
                bif decide (k ≥ 0) then
                  guardB (decide (0 ≤ k) && decide (k < (↑l.length : Int)))
                    (bindO l[0 + k.toNat]? fun x =>
                      some
                        (Xt.normal,
                          [PV.sl 4 0 3 l.length l.length false ln, PV.sc (Value.int IntKind.i64 (tunE M c4 c2 c3)),
                            PV.sc (Value.int IntKind.i64 0)],
                          [Blk.fix true
                              [PV.sl 5 0 3 (tunM M c4 c2 c3).length (tunM M c4 c2 c3).length false
                                  (bif tunE M c4 c2 c3 == 0 && !hasT c4 M then false else mn)],
                            Blk.dead, Blk.dead,
                            Blk.fix false
                              [PV.sc (Value.int IntKind.i64 c1), PV.sc (Value.int IntKind.i64 c2),
                                PV.sc (Value.int IntKind.i64 c3), PV.sc (Value.string c4)],
                            Blk.row true (Kd.str.pair ((Kd.int IntKind.i64).pair (Kd.int IntKind.i64)))
                              (l.set (0 + k.toNat) (c4, c2, c3)),
                            Blk.row true (Kd.str.pair ((Kd.int IntKind.i64).pair (Kd.int IntKind.i64)))
                              (tunM M c4 c2 c3)]))
                else
                  guardB
                    (decide (0 + l.length ≤ l.length) && true && decide ((l.length + 1) * 32 ≤ 140737488355328) &&
                      decide (l.length + 1 ≤ 4611686018427387904))
                    (some
                      (Xt.normal,
                        [PV.sl 4 0 3 (l.length + 1) (l.length + 1) false false,
                          PV.sc (Value.int IntKind.i64 (tunE M c4 c2 c3)), PV.sc (Value.int IntKind.i64 0)],
                        [Blk.fix true
                            [PV.sl 5 0 3 (tunM M c4 c2 c3).length (tunM M c4 c2 c3).length false
                                (bif tunE M c4 c2 c3 == 0 && !hasT c4 M then false else mn)],
                          Blk.dead, Blk.dead,
                          Blk.fix false
                            [PV.sc (Value.int IntKind.i64 c1), PV.sc (Value.int IntKind.i64 c2),
                              PV.sc (Value.int IntKind.i64 c3), PV.sc (Value.string c4)],
                          Blk.row true (Kd.str.pair ((Kd.int IntKind.i64).pair (Kd.int IntKind.i64)))
                            (List.take l.length l ++ [(c4, c2, c3)]),
                          Blk.row true (Kd.str.pair ((Kd.int IntKind.i64).pair (Kd.int IntKind.i64)))
                            (tunM M c4 c2 c3)]))
          else
            bif decide (k ≥ 0) then
              guardB (decide (0 ≤ k) && decide (k < (↑l.length : Int)))
                (bindO l[0 + k.toNat]? fun x =>
                  bif decide (c3 < x.snd.snd) then
                    some
                      (Xt.normal,
                        [PV.sl 4 0 3 l.length l.length false ln, PV.sc (Value.int IntKind.i64 (tunE M c4 c2 c3)),
                          PV.sc (Value.int IntKind.i64 12)],
                        [Blk.fix true
                            [PV.sl 5 0 3 (tunM M c4 c2 c3).length (tunM M c4 c2 c3).length false
                                (bif tunE M c4 c2 c3 == 0 && !hasT c4 M then false else mn)],
                          Blk.dead, Blk.dead,
                          Blk.fix false
                            [PV.sc (Value.int IntKind.i64 c1), PV.sc (Value.int IntKind.i64 c2),
                              PV.sc (Value.int IntKind.i64 c3), PV.sc (Value.string c4)],
                          Blk.row true (Kd.str.pair ((Kd.int IntKind.i64).pair (Kd.int IntKind.i64))) l,
                          Blk.row true (Kd.str.pair ((Kd.int IntKind.i64).pair (Kd.int IntKind.i64)))
                            (tunM M c4 c2 c3)])
                  else
                    bif decide (k ≥ 0) then
                      guardB (decide (0 ≤ k) && decide (k < (↑l.length : Int)))
                        (bindO l[0 + k.toNat]? fun x =>
                          some
                            (Xt.normal,
                              [PV.sl 4 0 3 l.length l.length false ln, PV.sc (Value.int IntKind.i64 (tunE M c4 c2 c3)),
                                PV.sc (Value.int IntKind.i64 0)],
                              [Blk.fix true
                                  [PV.sl 5 0 3 (tunM M c4 c2 c3).length (tunM M c4 c2 c3).length false
                                      (bif tunE M c4 c2 c3 == 0 && !hasT c4 M then false else mn)],
                                Blk.dead, Blk.dead,
                                Blk.fix false
                                  [PV.sc (Value.int IntKind.i64 c1), PV.sc (Value.int IntKind.i64 c2),
                                    PV.sc (Value.int IntKind.i64 c3), PV.sc (Value.string c4)],
                                Blk.row true (Kd.str.pair ((Kd.int IntKind.i64).pair (Kd.int IntKind.i64)))
                                  (l.set (0 + k.toNat) (c4, c2, c3)),
                                Blk.row true (Kd.str.pair ((Kd.int IntKind.i64).pair (Kd.int IntKind.i64)))
                                  (tunM M c4 c2 c3)]))
                    else
                      guardB
                        (decide (0 + l.length ≤ l.length) && true && decide ((l.length + 1) * 32 ≤ 140737488355328) &&
                          decide (l.length + 1 ≤ 4611686018427387904))
                        (some
                          (Xt.normal,
                            [PV.sl 4 0 3 (l.length + 1) (l.length + 1) false false,
                              PV.sc (Value.int IntKind.i64 (tunE M c4 c2 c3)), PV.sc (Value.int IntKind.i64 0)],
                            [Blk.fix true
                                [PV.sl 5 0 3 (tunM M c4 c2 c3).length (tunM M c4 c2 c3).length false
                                    (bif tunE M c4 c2 c3 == 0 && !hasT c4 M then false else mn)],
                              Blk.dead, Blk.dead,
                              Blk.fix false
                                [PV.sc (Value.int IntKind.i64 c1), PV.sc (Value.int IntKind.i64 c2),
                                  PV.sc (Value.int IntKind.i64 c3), PV.sc (Value.string c4)],
                              Blk.row true (Kd.str.pair ((Kd.int IntKind.i64).pair (Kd.int IntKind.i64)))
                                (List.take l.length l ++ [(c4, c2, c3)]),
                              Blk.row true (Kd.str.pair ((Kd.int IntKind.i64).pair (Kd.int IntKind.i64)))
                                (tunM M c4 c2 c3)])))
            else
              bif decide (k ≥ 0) then
                guardB (decide (0 ≤ k) && decide (k < (↑l.length : Int)))
                  (bindO l[0 + k.toNat]? fun x =>
                    some
                      (Xt.normal,
                        [PV.sl 4 0 3 l.length l.length false ln, PV.sc (Value.int IntKind.i64 (tunE M c4 c2 c3)),
                          PV.sc (Value.int IntKind.i64 0)],
                        [Blk.fix true
                            [PV.sl 5 0 3 (tunM M c4 c2 c3).length (tunM M c4 c2 c3).length false
                                (bif tunE M c4 c2 c3 == 0 && !hasT c4 M then false else mn)],
                          Blk.dead, Blk.dead,
                          Blk.fix false
                            [PV.sc (Value.int IntKind.i64 c1), PV.sc (Value.int IntKind.i64 c2),
                              PV.sc (Value.int IntKind.i64 c3), PV.sc (Value.string c4)],
                          Blk.row true (Kd.str.pair ((Kd.int IntKind.i64).pair (Kd.int IntKind.i64)))
                            (l.set (0 + k.toNat) (c4, c2, c3)),
                          Blk.row true (Kd.str.pair ((Kd.int IntKind.i64).pair (Kd.int IntKind.i64)))
                            (tunM M c4 c2 c3)]))
              else
                guardB
                  (decide (0 + l.length ≤ l.length) && true && decide ((l.length + 1) * 32 ≤ 140737488355328) &&
                    decide (l.length + 1 ≤ 4611686018427387904))
                  (some
                    (Xt.normal,
                      [PV.sl 4 0 3 (l.length + 1) (l.length + 1) false false,
                        PV.sc (Value.int IntKind.i64 (tunE M c4 c2 c3)), PV.sc (Value.int IntKind.i64 0)],
                      [Blk.fix true
                          [PV.sl 5 0 3 (tunM M c4 c2 c3).length (tunM M c4 c2 c3).length false
                              (bif tunE M c4 c2 c3 == 0 && !hasT c4 M then false else mn)],
                        Blk.dead, Blk.dead,
                        Blk.fix false
                          [PV.sc (Value.int IntKind.i64 c1), PV.sc (Value.int IntKind.i64 c2),
                            PV.sc (Value.int IntKind.i64 c3), PV.sc (Value.string c4)],
                        Blk.row true (Kd.str.pair ((Kd.int IntKind.i64).pair (Kd.int IntKind.i64)))
                          (List.take l.length l ++ [(c4, c2, c3)]),
                        Blk.row true (Kd.str.pair ((Kd.int IntKind.i64).pair (Kd.int IntKind.i64)))
                          (tunM M c4 c2 c3)]))))) := by kernel_rfl
noncomputable abbrev n4s1L (M : List (ByteArray × Int × Int)) (mn : Bool) (l : List (ByteArray × Int × Int)) (ln : Bool) (c1 : Int) (c2 : Int) (c3 : Int) (c4 : ByteArray) (k : Int) (C : List (Int × Int × Int × ByteArray)) (nl : Bool) (f : Int) (t : Int) (lim : Int) := (evBlock Try.prog C5 noCuts 248 (codeAt 2 (bodyF Try.f4)) kSw (killA 0 kSw) [9, 10, 11, 13, 14, 16, 47] [10, 15, 16]
  (((M, mn), ()), (l, ln), (), (c1, c2, c3, c4), k, 0, 1, ()))
theorem n4s1 (M : List (ByteArray × Int × Int)) (mn : Bool) (l : List (ByteArray × Int × Int)) (ln : Bool) (c1 : Int) (c2 : Int) (c3 : Int) (c4 : ByteArray) (k : Int) (C : List (Int × Int × Int × ByteArray)) (nl : Bool) (f : Int) (t : Int) (lim : Int) : n4s1L M mn l ln c1 c2 c3 c4 k C nl f t lim = (guardB (bif decide (M.length = M.length) then bp (preR M c4) else false)
  (bif decide (k < 0) then
    some
      (Xt.normal,
        [PV.sl 4 0 3 l.length l.length false ln, PV.sc (Value.int IntKind.i64 (heaE M c4 c2 c3)),
          PV.sc (Value.int IntKind.i64 8)],
        [Blk.fix true [PV.sl 5 0 3 (heaM M c4 c2 c3).length (heaM M c4 c2 c3).length false mn], Blk.dead, Blk.dead,
          Blk.fix false
            [PV.sc (Value.int IntKind.i64 c1), PV.sc (Value.int IntKind.i64 c2), PV.sc (Value.int IntKind.i64 c3),
              PV.sc (Value.string c4)],
          Blk.row true (Kd.str.pair ((Kd.int IntKind.i64).pair (Kd.int IntKind.i64))) l,
          Blk.row true (Kd.str.pair ((Kd.int IntKind.i64).pair (Kd.int IntKind.i64))) (heaM M c4 c2 c3)])
  else
    guardB (decide (0 ≤ k) && decide (k < (↑l.length : Int)))
      (bindO l[0 + k.toNat]? fun x =>
        bif x.snd.fst != c2 then
          some
            (Xt.normal,
              [PV.sl 4 0 3 l.length l.length false ln, PV.sc (Value.int IntKind.i64 (heaE M c4 c2 c3)),
                PV.sc (Value.int IntKind.i64 11)],
              [Blk.fix true [PV.sl 5 0 3 (heaM M c4 c2 c3).length (heaM M c4 c2 c3).length false mn], Blk.dead,
                Blk.dead,
                Blk.fix false
                  [PV.sc (Value.int IntKind.i64 c1), PV.sc (Value.int IntKind.i64 c2), PV.sc (Value.int IntKind.i64 c3),
                    PV.sc (Value.string c4)],
                Blk.row true (Kd.str.pair ((Kd.int IntKind.i64).pair (Kd.int IntKind.i64))) l,
                Blk.row true (Kd.str.pair ((Kd.int IntKind.i64).pair (Kd.int IntKind.i64))) (heaM M c4 c2 c3)])
        else
          guardB (decide (0 ≤ k) && decide (k < (↑l.length : Int)))
            (bindO l[0 + k.toNat]? fun x =>
              bif !inS c3 x.snd.snd 200000 then
                some
                  (Xt.normal,
                    [PV.sl 4 0 3 l.length l.length false ln, PV.sc (Value.int IntKind.i64 (heaE M c4 c2 c3)),
                      PV.sc (Value.int IntKind.i64 12)],
                    [Blk.fix true [PV.sl 5 0 3 (heaM M c4 c2 c3).length (heaM M c4 c2 c3).length false mn], Blk.dead,
                      Blk.dead,
                      Blk.fix false
                        [PV.sc (Value.int IntKind.i64 c1), PV.sc (Value.int IntKind.i64 c2),
                          PV.sc (Value.int IntKind.i64 c3), PV.sc (Value.string c4)],
                      Blk.row true (Kd.str.pair ((Kd.int IntKind.i64).pair (Kd.int IntKind.i64))) l,
                      Blk.row true (Kd.str.pair ((Kd.int IntKind.i64).pair (Kd.int IntKind.i64))) (heaM M c4 c2 c3)])
              else
                guardB (decide (0 ≤ k) && decide (k < (↑l.length : Int)))
                  (bindO l[0 + k.toNat]? fun x =>
                    some
                      (Xt.normal,
                        [PV.sl 4 0 3 l.length l.length false ln, PV.sc (Value.int IntKind.i64 (heaE M c4 c2 c3)),
                          PV.sc (Value.int IntKind.i64 0)],
                        [Blk.fix true [PV.sl 5 0 3 (heaM M c4 c2 c3).length (heaM M c4 c2 c3).length false mn],
                          Blk.dead, Blk.dead,
                          Blk.fix false
                            [PV.sc (Value.int IntKind.i64 c1), PV.sc (Value.int IntKind.i64 c2),
                              PV.sc (Value.int IntKind.i64 c3), PV.sc (Value.string c4)],
                          Blk.row true (Kd.str.pair ((Kd.int IntKind.i64).pair (Kd.int IntKind.i64)))
                            (l.set (0 + k.toNat) (x.fst, x.snd.fst, c3)),
                          Blk.row true (Kd.str.pair ((Kd.int IntKind.i64).pair (Kd.int IntKind.i64)))
                            (heaM M c4 c2 c3)])))))) := by kernel_rfl
noncomputable abbrev n4s2L (M : List (ByteArray × Int × Int)) (mn : Bool) (l : List (ByteArray × Int × Int)) (ln : Bool) (c1 : Int) (c2 : Int) (c3 : Int) (c4 : ByteArray) (k : Int) (C : List (Int × Int × Int × ByteArray)) (nl : Bool) (f : Int) (t : Int) (lim : Int) := (evBlock Try.prog C5 noCuts 248 (codeAt 2 (bodyF Try.f4)) kSw (killA 0 kSw) [9, 10, 11, 13, 14, 16, 47] [10, 15, 16]
  (((M, mn), ()), (l, ln), (), (c1, c2, c3, c4), k, 0, 2, ()))
theorem n4s2 (M : List (ByteArray × Int × Int)) (mn : Bool) (l : List (ByteArray × Int × Int)) (ln : Bool) (c1 : Int) (c2 : Int) (c3 : Int) (c4 : ByteArray) (k : Int) (C : List (Int × Int × Int × ByteArray)) (nl : Bool) (f : Int) (t : Int) (lim : Int) : n4s2L M mn l ln c1 c2 c3 c4 k C nl f t lim = (guardB (bif decide (M.length = M.length) then bp (preR M c4) else false)
  (bif decide (k < 0) then
    some
      (Xt.normal,
        [PV.sl 4 0 3 l.length l.length false ln, PV.sc (Value.int IntKind.i64 (leaE M c4)),
          PV.sc (Value.int IntKind.i64 8)],
        [Blk.fix true [PV.sl 5 0 3 (leaM M c4).length (leaM M c4).length false mn], Blk.dead, Blk.dead,
          Blk.fix false
            [PV.sc (Value.int IntKind.i64 c1), PV.sc (Value.int IntKind.i64 c2), PV.sc (Value.int IntKind.i64 c3),
              PV.sc (Value.string c4)],
          Blk.row true (Kd.str.pair ((Kd.int IntKind.i64).pair (Kd.int IntKind.i64))) l,
          Blk.row true (Kd.str.pair ((Kd.int IntKind.i64).pair (Kd.int IntKind.i64))) (leaM M c4)])
  else
    guardB
      (bif decide (l.length = l.length) then
        decide (IntKind.i64.wrap (k + 1) = k + 1 ∧ 0 ≤ k ∧ k < (↑l.length : Int) ∧ l.length ≤ 1000)
      else false)
      (some
        (Xt.normal,
          [PV.sl 4 0 3 (l.eraseIdx k.toNat).length (l.eraseIdx k.toNat).length false ln,
            PV.sc (Value.int IntKind.i64 (leaE M c4)), PV.sc (Value.int IntKind.i64 0)],
          [Blk.fix true [PV.sl 5 0 3 (leaM M c4).length (leaM M c4).length false mn], Blk.dead, Blk.dead,
            Blk.fix false
              [PV.sc (Value.int IntKind.i64 c1), PV.sc (Value.int IntKind.i64 c2), PV.sc (Value.int IntKind.i64 c3),
                PV.sc (Value.string c4)],
            Blk.row true (Kd.str.pair ((Kd.int IntKind.i64).pair (Kd.int IntKind.i64))) (l.eraseIdx k.toNat),
            Blk.row true (Kd.str.pair ((Kd.int IntKind.i64).pair (Kd.int IntKind.i64))) (leaM M c4)])))) := by kernel_rfl
noncomputable abbrev n4lL (a0 : List (ByteArray × Int × Int)) (a1 : Bool) (a2 : List (ByteArray × Int × Int)) (a3 : Bool) (a4 : List (Int × Int × Int × ByteArray)) (a5 : Bool) (a6 : Int) (a7 : Int) := evRound Try.prog C5 (addCut 2 [9, 10, 11, 13, 14, 16, 47] [10, 15, 16] (entC kSw cSw) noCuts) 248 (loopOf (codeAt 0 (bodyF Try.f4))) kLw muLw (killA 0 kLw) [9, 10, 11, 36, 37, 38] [10] cLw (((a0, a1), ()), ((a2, a3), ((), ((a4, a5), (a6, (a7, ()))))))
theorem n4l (a0 : List (ByteArray × Int × Int)) (a1 : Bool) (a2 : List (ByteArray × Int × Int)) (a3 : Bool) (a4 : List (Int × Int × Int × ByteArray)) (a5 : Bool) (a6 : Int) (a7 : Int) : n4lL a0 a1 a2 a3 a4 a5 a6 a7 = (bif decide (a7 < a6) then
  guardB (decide (0 ≤ a7) && decide (a7 < (↑a4.length : Int)))
    (bindO a4[0 + a7.toNat]? fun x =>
      guardB (bif decide (0 + a2.length ≤ a2.length) then decide ((List.take a2.length a2).length ≤ 1000000) else false)
        (guardB
          (bif decide (a0.length = a0.length) then
            bif decide (a2.length = a2.length) then
              bp
                (preR a0 x.snd.snd.snd ∧
                  a2.length ≤ 60 ∧
                    ixT x.snd.snd.snd (List.take a2.length a2) = ixT x.snd.snd.snd a2 ∧
                      (0 : Int) = 0 ∧ 0 ≤ cutS x.fst 2 ∧ cutS x.fst 2 ≤ 2)
            else false
          else false)
          (bif radE (cutS x.fst 2) a0 x != cutE (cutS x.fst 2) a2 x then
            some
              (Xt.ret,
                [PV.sl 4 0 3 (cutL (cutS x.fst 2) a2 x).length (cutL (cutS x.fst 2) a2 x).length false
                    (cutN (cutS x.fst 2) a2 a3 x)],
                [Blk.fix true
                    [PV.sl 5 0 3 (radM (cutS x.fst 2) a0 x).length (radM (cutS x.fst 2) a0 x).length false
                        (radN (cutS x.fst 2) a0 a1 x)],
                  Blk.dead, Blk.dead,
                  Blk.row false
                    ((Kd.int IntKind.i64).pair ((Kd.int IntKind.i64).pair ((Kd.int IntKind.i64).pair Kd.str))) a4,
                  Blk.row true (Kd.str.pair ((Kd.int IntKind.i64).pair (Kd.int IntKind.i64)))
                    (cutL (cutS x.fst 2) a2 x),
                  Blk.row true (Kd.str.pair ((Kd.int IntKind.i64).pair (Kd.int IntKind.i64)))
                    (radM (cutS x.fst 2) a0 x)])
          else
            guardB
              (decide
                (muLw
                    (((radM (cutS x.fst 2) a0 x, radN (cutS x.fst 2) a0 a1 x), PUnit.unit),
                      (cutL (cutS x.fst 2) a2 x, cutN (cutS x.fst 2) a2 a3 x), PUnit.unit, (List.take a4.length a4, a5),
                      a6, IntKind.i64.wrap (a7 + 1), PUnit.unit) <
                  muLw (((a0, a1), ()), (a2, a3), (), (a4, a5), a6, a7, ())))
              (guardB
                (bif decide ((radM (cutS x.fst 2) a0 x).length = (radM (cutS x.fst 2) a0 x).length) then
                  bif decide ((cutL (cutS x.fst 2) a2 x).length = (cutL (cutS x.fst 2) a2 x).length) then
                    bif decide (0 + a4.length ≤ a4.length) then
                      bp
                        (relT (radM (cutS x.fst 2) a0 x) (cutL (cutS x.fst 2) a2 x) ∧
                          (↑(radM (cutS x.fst 2) a0 x).length : Int) ≤ IntKind.i64.wrap (a7 + 1) ∧
                            a6 = (↑(List.take a4.length a4).length : Int) ∧
                              okKc (List.take a4.length a4) a6 (IntKind.i64.wrap (a7 + 1)))
                    else false
                  else false
                else false)
                (some
                  (Xt.exit 0,
                    [PV.sl 4 0 3
                        (runC
                                ((radM (cutS x.fst 2) a0 x, radN (cutS x.fst 2) a0 a1 x), cutL (cutS x.fst 2) a2 x,
                                  cutN (cutS x.fst 2) a2 a3 x)
                                (restL (List.take a4.length a4) a6 (IntKind.i64.wrap (a7 + 1)))).snd.fst.length
                        (runC
                                ((radM (cutS x.fst 2) a0 x, radN (cutS x.fst 2) a0 a1 x), cutL (cutS x.fst 2) a2 x,
                                  cutN (cutS x.fst 2) a2 a3 x)
                                (restL (List.take a4.length a4) a6 (IntKind.i64.wrap (a7 + 1)))).snd.fst.length
                        false
                        (runC
                              ((radM (cutS x.fst 2) a0 x, radN (cutS x.fst 2) a0 a1 x), cutL (cutS x.fst 2) a2 x,
                                cutN (cutS x.fst 2) a2 a3 x)
                              (restL (List.take a4.length a4) a6 (IntKind.i64.wrap (a7 + 1)))).snd.snd],
                    [Blk.fix true
                        [PV.sl 5 0 3
                            (runC
                                    ((radM (cutS x.fst 2) a0 x, radN (cutS x.fst 2) a0 a1 x), cutL (cutS x.fst 2) a2 x,
                                      cutN (cutS x.fst 2) a2 a3 x)
                                    (restL (List.take a4.length a4) a6 (IntKind.i64.wrap (a7 + 1)))).fst.fst.length
                            (runC
                                    ((radM (cutS x.fst 2) a0 x, radN (cutS x.fst 2) a0 a1 x), cutL (cutS x.fst 2) a2 x,
                                      cutN (cutS x.fst 2) a2 a3 x)
                                    (restL (List.take a4.length a4) a6 (IntKind.i64.wrap (a7 + 1)))).fst.fst.length
                            false
                            (runC
                                  ((radM (cutS x.fst 2) a0 x, radN (cutS x.fst 2) a0 a1 x), cutL (cutS x.fst 2) a2 x,
                                    cutN (cutS x.fst 2) a2 a3 x)
                                  (restL (List.take a4.length a4) a6 (IntKind.i64.wrap (a7 + 1)))).fst.snd],
                      Blk.dead, Blk.dead,
                      Blk.row false
                        ((Kd.int IntKind.i64).pair ((Kd.int IntKind.i64).pair ((Kd.int IntKind.i64).pair Kd.str))) a4,
                      Blk.row true (Kd.str.pair ((Kd.int IntKind.i64).pair (Kd.int IntKind.i64)))
                        (runC
                              ((radM (cutS x.fst 2) a0 x, radN (cutS x.fst 2) a0 a1 x), cutL (cutS x.fst 2) a2 x,
                                cutN (cutS x.fst 2) a2 a3 x)
                              (restL (List.take a4.length a4) a6 (IntKind.i64.wrap (a7 + 1)))).snd.fst,
                      Blk.row true (Kd.str.pair ((Kd.int IntKind.i64).pair (Kd.int IntKind.i64)))
                        (runC
                              ((radM (cutS x.fst 2) a0 x, radN (cutS x.fst 2) a0 a1 x), cutL (cutS x.fst 2) a2 x,
                                cutN (cutS x.fst 2) a2 a3 x)
                              (restL (List.take a4.length a4) a6 (IntKind.i64.wrap (a7 + 1)))).fst.fst]))))))
else
  some
    (Xt.exit 0, [PV.sl 4 0 3 a2.length a2.length false a3],
      [Blk.fix true [PV.sl 5 0 3 a0.length a0.length false a1], Blk.dead, Blk.dead,
        Blk.row false ((Kd.int IntKind.i64).pair ((Kd.int IntKind.i64).pair ((Kd.int IntKind.i64).pair Kd.str))) a4,
        Blk.row true (Kd.str.pair ((Kd.int IntKind.i64).pair (Kd.int IntKind.i64))) a2,
        Blk.row true (Kd.str.pair ((Kd.int IntKind.i64).pair (Kd.int IntKind.i64))) a0])) := by kernel_rfl
noncomputable abbrev n4oL (a0 : Int) (a1 : List ByteArray) (a2 : Bool) (a3 : List (ByteArray × Int × Int)) (a4 : Bool) (a5 : Int) (a6 : Int) := evRound Try.prog C5 noCuts 248 (loopOf (codeAt 5 (bodyF Try.f4))) kOn muOn (killA 0 kOn) [1, 17, 174, 175, 176] [17] (cOn 5) (a0, ((a1, a2), ((a3, a4), (a5, (a6, ())))))
theorem n4o (a0 : Int) (a1 : List ByteArray) (a2 : Bool) (a3 : List (ByteArray × Int × Int)) (a4 : Bool) (a5 : Int) (a6 : Int) : n4oL a0 a1 a2 a3 a4 a5 a6 = (bif decide (a6 < a5) then
  guardB (decide (0 ≤ a6) && decide (a6 < (↑a3.length : Int)))
    (bindO a3[0 + a6.toNat]? fun x =>
      bif x.snd.fst == a0 then
        guardB
          (decide (0 + a1.length ≤ a1.length) && true && decide ((a1.length + 1) * 16 ≤ 140737488355328) &&
            decide (a1.length + 1 ≤ 4611686018427387904))
          (guardB
            (decide
              (muOn
                  (a0, (List.take a1.length a1 ++ [x.fst], false), (List.take a3.length a3, a4), a5,
                    IntKind.i64.wrap (a6 + 1), PUnit.unit) <
                muOn (a0, (a1, a2), (a3, a4), a5, a6, ())))
            (guardB
              (bif decide (a1.length + 1 = (List.take a1.length a1 ++ [x.fst]).length) then
                bif decide (0 + a3.length ≤ a3.length) then
                  preOn (List.take a1.length a1 ++ [x.fst]) (List.take a3.length a3) a5 (IntKind.i64.wrap (a6 + 1))
                else false
              else false)
              (some
                (Xt.exit 5,
                  [PV.sl 2 0 1
                      (onR a0 (List.take a1.length a1 ++ [x.fst], false)
                            (List.drop (IntKind.i64.wrap (a6 + 1)).toNat (List.take a3.length a3))).fst.length
                      (onR a0 (List.take a1.length a1 ++ [x.fst], false)
                            (List.drop (IntKind.i64.wrap (a6 + 1)).toNat (List.take a3.length a3))).fst.length
                      false
                      (onR a0 (List.take a1.length a1 ++ [x.fst], false)
                          (List.drop (IntKind.i64.wrap (a6 + 1)).toNat (List.take a3.length a3))).snd],
                  [Blk.dead, Blk.row false (Kd.str.pair ((Kd.int IntKind.i64).pair (Kd.int IntKind.i64))) a3,
                    Blk.row true Kd.str
                      (onR a0 (List.take a1.length a1 ++ [x.fst], false)
                          (List.drop (IntKind.i64.wrap (a6 + 1)).toNat (List.take a3.length a3))).fst]))))
      else
        guardB
          (decide
            (muOn (a0, (a1, a2), (List.take a3.length a3, a4), a5, IntKind.i64.wrap (a6 + 1), PUnit.unit) <
              muOn (a0, (a1, a2), (a3, a4), a5, a6, ())))
          (guardB
            (bif decide (a1.length = a1.length) then
              bif decide (0 + a3.length ≤ a3.length) then
                preOn a1 (List.take a3.length a3) a5 (IntKind.i64.wrap (a6 + 1))
              else false
            else false)
            (some
              (Xt.exit 5,
                [PV.sl 2 0 1
                    (onR a0 (a1, a2) (List.drop (IntKind.i64.wrap (a6 + 1)).toNat (List.take a3.length a3))).fst.length
                    (onR a0 (a1, a2) (List.drop (IntKind.i64.wrap (a6 + 1)).toNat (List.take a3.length a3))).fst.length
                    false (onR a0 (a1, a2) (List.drop (IntKind.i64.wrap (a6 + 1)).toNat (List.take a3.length a3))).snd],
                [Blk.dead, Blk.row false (Kd.str.pair ((Kd.int IntKind.i64).pair (Kd.int IntKind.i64))) a3,
                  Blk.row true Kd.str
                    (onR a0 (a1, a2) (List.drop (IntKind.i64.wrap (a6 + 1)).toNat (List.take a3.length a3))).fst]))))
else
  some
    (Xt.exit 5, [PV.sl 2 0 1 a1.length a1.length false a2],
      [Blk.dead, Blk.row false (Kd.str.pair ((Kd.int IntKind.i64).pair (Kd.int IntKind.i64))) a3,
        Blk.row true Kd.str a1])) := by kernel_rfl
noncomputable abbrev n4iL (a0 : List (ByteArray × Int × Int)) (a1 : Bool) (a2 : Int) (a3 : List (ByteArray × Int × Int)) (a4 : Bool) (a5 : Int) (a6 : Int) := evRound Try.prog C5 noCuts 248 (loopOf (codeAt 9 (bodyF Try.f4))) kI9 muI9 (killA 0 kI9) [20, 21, 213, 214, 215] [20] cI9 ((a0, a1), (a2, ((a3, a4), (a5, (a6, ())))))
theorem n4i (a0 : List (ByteArray × Int × Int)) (a1 : Bool) (a2 : Int) (a3 : List (ByteArray × Int × Int)) (a4 : Bool) (a5 : Int) (a6 : Int) : n4iL a0 a1 a2 a3 a4 a5 a6 = (bif decide (a6 < a5) then
  guardB (decide (0 ≤ a6) && decide (a6 < (↑a3.length : Int)))
    (bindO a3[0 + a6.toNat]? fun x =>
      bif x.snd.snd == a2 then
        guardB
          (decide (0 + a0.length ≤ a0.length) && true && decide ((a0.length + 1) * 32 ≤ 140737488355328) &&
            decide (a0.length + 1 ≤ 4611686018427387904))
          (guardB
            (decide
              (muI9
                  ((List.take a0.length a0 ++ [x], false), a2, (List.take a3.length a3, a4), a5,
                    IntKind.i64.wrap (a6 + 1), PUnit.unit) <
                muI9 ((a0, a1), a2, (a3, a4), a5, a6, ())))
            (guardB
              (bif decide (a0.length + 1 = (List.take a0.length a0 ++ [x]).length) then
                bif decide (0 + a3.length ≤ a3.length) then
                  preAtr (List.take a0.length a0 ++ [x]) (List.take a3.length a3) a5 (IntKind.i64.wrap (a6 + 1))
                else false
              else false)
              (some
                (Xt.exit 9,
                  [PV.sl 2 0 3
                      (atR a2 (List.take a0.length a0 ++ [x], false)
                            (List.drop (IntKind.i64.wrap (a6 + 1)).toNat (List.take a3.length a3))).fst.length
                      (atR a2 (List.take a0.length a0 ++ [x], false)
                            (List.drop (IntKind.i64.wrap (a6 + 1)).toNat (List.take a3.length a3))).fst.length
                      false
                      (atR a2 (List.take a0.length a0 ++ [x], false)
                          (List.drop (IntKind.i64.wrap (a6 + 1)).toNat (List.take a3.length a3))).snd],
                  [Blk.dead, Blk.row false (Kd.str.pair ((Kd.int IntKind.i64).pair (Kd.int IntKind.i64))) a3,
                    Blk.row true (Kd.str.pair ((Kd.int IntKind.i64).pair (Kd.int IntKind.i64)))
                      (atR a2 (List.take a0.length a0 ++ [x], false)
                          (List.drop (IntKind.i64.wrap (a6 + 1)).toNat (List.take a3.length a3))).fst]))))
      else
        guardB
          (decide
            (muI9 ((a0, a1), a2, (List.take a3.length a3, a4), a5, IntKind.i64.wrap (a6 + 1), PUnit.unit) <
              muI9 ((a0, a1), a2, (a3, a4), a5, a6, ())))
          (guardB
            (bif decide (a0.length = a0.length) then
              bif decide (0 + a3.length ≤ a3.length) then
                preAtr a0 (List.take a3.length a3) a5 (IntKind.i64.wrap (a6 + 1))
              else false
            else false)
            (some
              (Xt.exit 9,
                [PV.sl 2 0 3
                    (atR a2 (a0, a1) (List.drop (IntKind.i64.wrap (a6 + 1)).toNat (List.take a3.length a3))).fst.length
                    (atR a2 (a0, a1) (List.drop (IntKind.i64.wrap (a6 + 1)).toNat (List.take a3.length a3))).fst.length
                    false (atR a2 (a0, a1) (List.drop (IntKind.i64.wrap (a6 + 1)).toNat (List.take a3.length a3))).snd],
                [Blk.dead, Blk.row false (Kd.str.pair ((Kd.int IntKind.i64).pair (Kd.int IntKind.i64))) a3,
                  Blk.row true (Kd.str.pair ((Kd.int IntKind.i64).pair (Kd.int IntKind.i64)))
                    (atR a2 (a0, a1) (List.drop (IntKind.i64.wrap (a6 + 1)).toNat (List.take a3.length a3))).fst]))))
else
  some
    (Xt.exit 9, [PV.sl 2 0 3 a0.length a0.length false a1],
      [Blk.dead, Blk.row false (Kd.str.pair ((Kd.int IntKind.i64).pair (Kd.int IntKind.i64))) a3,
        Blk.row true (Kd.str.pair ((Kd.int IntKind.i64).pair (Kd.int IntKind.i64))) a0])) := by kernel_rfl
noncomputable abbrev n4tL (a0 : Int) (a1 : Int) (a2 : List (ByteArray × Int × Int)) (a3 : Bool) (a4 : List (ByteArray × Int × Int)) (a5 : Bool) (a6 : Int) (a7 : Int) := evRound Try.prog C5 (addCut 9 [20, 21, 213, 214, 215] [20] (entC kI9 cI9) noCuts) 248 (loopOf (codeAt 7 (bodyF Try.f4))) kI7 muI7 (killA 0 kI7) [2, 3, 10, 20, 197, 198] [20] cI7 (a0, (a1, ((a2, a3), ((a4, a5), (a6, (a7, ()))))))
theorem n4t (a0 : Int) (a1 : Int) (a2 : List (ByteArray × Int × Int)) (a3 : Bool) (a4 : List (ByteArray × Int × Int)) (a5 : Bool) (a6 : Int) (a7 : Int) : n4tL a0 a1 a2 a3 a4 a5 a6 a7 = (bif decide (a7 < a6) then
  bif decide (IntKind.i64.wrap (a0 - a7) ≤ a1) then
    some
      (Xt.exit 7, [PV.sl 2 0 3 a4.length a4.length false a5],
        [Blk.row false (Kd.str.pair ((Kd.int IntKind.i64).pair (Kd.int IntKind.i64))) a2, Blk.dead,
          Blk.row true (Kd.str.pair ((Kd.int IntKind.i64).pair (Kd.int IntKind.i64))) a4])
  else
    bif (↑a4.length : Int) == (↑a2.length : Int) then
      some
        (Xt.exit 7, [PV.sl 2 0 3 a4.length a4.length false a5],
          [Blk.row false (Kd.str.pair ((Kd.int IntKind.i64).pair (Kd.int IntKind.i64))) a2, Blk.dead,
            Blk.row true (Kd.str.pair ((Kd.int IntKind.i64).pair (Kd.int IntKind.i64))) a4])
    else
      guardB
        (bif decide (a4.length = a4.length) then
          bif decide (0 + a2.length ≤ a2.length) then preAtr a4 (List.take a2.length a2) (↑a2.length : Int) 0 else false
        else false)
        (guardB
          (decide
            (muI7
                (a0, a1, (List.take a2.length a2, a3),
                  atR a7 (a4, a5) (List.drop (Int.toNat 0) (List.take a2.length a2)), a6, IntKind.i64.wrap (a7 + 1),
                  PUnit.unit) <
              muI7 (a0, a1, (a2, a3), (a4, a5), a6, a7, ())))
          (guardB
            (bif decide (0 + a2.length ≤ a2.length) then
              bif
                  decide
                    ((atR a7 (a4, a5) (List.drop (Int.toNat 0) (List.take a2.length a2))).fst.length =
                      (atR a7 (a4, a5) (List.drop (Int.toNat 0) (List.take a2.length a2))).fst.length) then
                preI7 a0 a1 (List.take a2.length a2)
                  (atR a7 (a4, a5) (List.drop (Int.toNat 0) (List.take a2.length a2))).fst a6
                  (IntKind.i64.wrap (a7 + 1))
              else false
            else false)
            (some
              (Xt.exit 7,
                [PV.sl 2 0 3
                    (laR a0 a1 (List.take a2.length a2) (Int.toNat (a6 - IntKind.i64.wrap (a7 + 1)))
                          (IntKind.i64.wrap (a7 + 1))
                          (atR a7 (a4, a5) (List.drop (Int.toNat 0) (List.take a2.length a2)))).fst.length
                    (laR a0 a1 (List.take a2.length a2) (Int.toNat (a6 - IntKind.i64.wrap (a7 + 1)))
                          (IntKind.i64.wrap (a7 + 1))
                          (atR a7 (a4, a5) (List.drop (Int.toNat 0) (List.take a2.length a2)))).fst.length
                    false
                    (laR a0 a1 (List.take a2.length a2) (Int.toNat (a6 - IntKind.i64.wrap (a7 + 1)))
                        (IntKind.i64.wrap (a7 + 1))
                        (atR a7 (a4, a5) (List.drop (Int.toNat 0) (List.take a2.length a2)))).snd],
                [Blk.row false (Kd.str.pair ((Kd.int IntKind.i64).pair (Kd.int IntKind.i64))) a2, Blk.dead,
                  Blk.row true (Kd.str.pair ((Kd.int IntKind.i64).pair (Kd.int IntKind.i64)))
                    (laR a0 a1 (List.take a2.length a2) (Int.toNat (a6 - IntKind.i64.wrap (a7 + 1)))
                        (IntKind.i64.wrap (a7 + 1))
                        (atR a7 (a4, a5) (List.drop (Int.toNat 0) (List.take a2.length a2)))).fst]))))
else
  some
    (Xt.exit 7, [PV.sl 2 0 3 a4.length a4.length false a5],
      [Blk.row false (Kd.str.pair ((Kd.int IntKind.i64).pair (Kd.int IntKind.i64))) a2, Blk.dead,
        Blk.row true (Kd.str.pair ((Kd.int IntKind.i64).pair (Kd.int IntKind.i64))) a4])) := by kernel_rfl
noncomputable abbrev n4L (M : List (ByteArray × Int × Int)) (mn : Bool) (l : List (ByteArray × Int × Int)) (ln : Bool) (c1 : Int) (c2 : Int) (c3 : Int) (c4 : ByteArray) (k : Int) (C : List (Int × Int × Int × ByteArray)) (nl : Bool) (f : Int) (t : Int) (lim : Int) := (evFuncV Try.prog C5
  (addCut 0 [9, 10, 11, 36, 37, 38] [10] (entC kLw (cLwK ((M, mn), (l, ln))))
    (addCut 5 [1, 17, 174, 175, 176] [17] (entC kOn (cOn 5))
      (addCut 7 [2, 3, 10, 20, 197, 198] [20] (entC kI7 cI7) noCuts)))
  Try.f4 [] [.sl 0 0 4 C.length C.length false nl, .sc (.int .i64 f), .sc (.int .i64 t), .sc (.int .i64 lim)]
  [.row false kL C])
theorem n4 (M : List (ByteArray × Int × Int)) (mn : Bool) (l : List (ByteArray × Int × Int)) (ln : Bool) (c1 : Int) (c2 : Int) (c3 : Int) (c4 : ByteArray) (k : Int) (C : List (Int × Int × Int × ByteArray)) (nl : Bool) (f : Int) (t : Int) (lim : Int) : n4L M mn l ln c1 c2 c3 c4 k C nl f t lim = (guardB (decide (0 ≤ min (↑C.length : Int) 20) && decide (min (↑C.length : Int) 20 ≤ (↑C.length : Int)))
  (guardB
    (bif decide (0 + ((min (↑C.length : Int) 20).toNat - 0) ≤ C.length) then
      bp
        ((cLw
                ((([], true), PUnit.unit), ([], true), PUnit.unit,
                  (List.take ((min (↑C.length : Int) 20).toNat - 0) C, nl),
                  (↑((min (↑C.length : Int) 20).toNat - 0) : Int), 0, PUnit.unit)).fst =
            true ∧
          runC (([], true), [], true)
              (restL (List.take ((min (↑C.length : Int) 20).toNat - 0) C)
                (↑((min (↑C.length : Int) 20).toNat - 0) : Int) 0) =
            ((M, mn), l, ln))
    else false)
    (guardB (bif decide (l.length = l.length) then decide (l.length ≤ 1000) else false)
      (guardB
        (bif decide (0 + l.length ≤ (srtC l).length) then preOn ([] : List ByteArray) (List.take l.length (srtC l)) (↑l.length : Int) 0
        else false)
        (bif inS t 0 200000 then
          bif decide (lim ≥ 0) then
            guardB
              (bif decide (0 + l.length ≤ (srtC l).length) then
                preI7 t lim (List.take l.length (srtC l)) [] (IntKind.i64.wrap (t + 1)) 0
              else false)
              (guardB
                (bif decide (0 + M.length ≤ M.length) then decide ((List.take M.length M).length ≤ 100) else false)
                (bif mn then
                  guardB
                    (bif decide (0 + l.length ≤ (srtC l).length) then
                      decide (([] : List T3).length ≤ 100 ∧ (List.take l.length (srtC l)).length ≤ 100)
                    else false)
                    (bif eqTs [] (List.take l.length (srtC l)) then
                      guardB
                        (bif decide (0 + (List.take M.length M).length ≤ M.length) then
                          decide ((List.take (List.take M.length M).length M).length ≤ 100)
                        else false)
                        (guardB
                          (bif
                              decide
                                (0 + (onR f ([], true) (List.take (List.take M.length M).length M)).fst.length ≤
                                  (onR f ([], true) (List.take (List.take M.length M).length M)).fst.length) then
                            bif
                                decide
                                  (0 +
                                      (onR f ([], true)
                                            (List.drop (Int.toNat 0) (List.take l.length (srtC l)))).fst.length ≤
                                    (onR f ([], true)
                                          (List.drop (Int.toNat 0) (List.take l.length (srtC l)))).fst.length) then
                              decide
                                ((List.take (onR f ([], true) (List.take (List.take M.length M).length M)).fst.length
                                        (onR f ([], true) (List.take (List.take M.length M).length M)).fst).length ≤
                                    100 ∧
                                  (List.take
                                        (onR f ([], true)
                                              (List.drop (Int.toNat 0) (List.take l.length (srtC l)))).fst.length
                                        (onR f ([], true)
                                            (List.drop (Int.toNat 0) (List.take l.length (srtC l)))).fst).length ≤
                                    100)
                            else false
                          else false)
                          (bif
                              eqWs
                                (List.take (onR f ([], true) (List.take (List.take M.length M).length M)).fst.length
                                  (onR f ([], true) (List.take (List.take M.length M).length M)).fst)
                                (List.take
                                  (onR f ([], true) (List.drop (Int.toNat 0) (List.take l.length (srtC l)))).fst.length
                                  (onR f ([], true) (List.drop (Int.toNat 0) (List.take l.length (srtC l)))).fst) then
                            guardB
                              (bif decide (0 + (List.take (List.take M.length M).length M).length ≤ M.length) then
                                decide ((List.take (List.take (List.take M.length M).length M).length M).length ≤ 20) &&
                                  okT (List.take (List.take (List.take M.length M).length M).length M)
                              else false)
                              (guardB
                                (bif
                                    decide
                                      (0 +
                                          (lostR t lim
                                                (List.take (List.take (List.take M.length M).length M).length
                                                  M)).fst.length ≤
                                        (isoT
                                            ((losR t lim ([], true)
                                                    (List.take (List.take (List.take M.length M).length M).length
                                                      M)).fst.length -
                                              1)
                                            1
                                            (losR t lim ([], true)
                                                (List.take (List.take (List.take M.length M).length M).length
                                                  M)).fst).length) then
                                  bif
                                      decide
                                        (0 +
                                            (laR t lim (List.take l.length (srtC l))
                                                  (Int.toNat (IntKind.i64.wrap (t + 1) - 0)) 0 ([], true)).fst.length ≤
                                          (laR t lim (List.take l.length (srtC l))
                                                (Int.toNat (IntKind.i64.wrap (t + 1) - 0)) 0
                                                ([], true)).fst.length) then
                                    decide
                                      ((List.take
                                              (lostR t lim
                                                    (List.take (List.take (List.take M.length M).length M).length
                                                      M)).fst.length
                                              (isoT
                                                ((losR t lim ([], true)
                                                        (List.take (List.take (List.take M.length M).length M).length
                                                          M)).fst.length -
                                                  1)
                                                1
                                                (losR t lim ([], true)
                                                    (List.take (List.take (List.take M.length M).length M).length
                                                      M)).fst)).length ≤
                                          100 ∧
                                        (List.take
                                              (laR t lim (List.take l.length (srtC l))
                                                    (Int.toNat (IntKind.i64.wrap (t + 1) - 0)) 0 ([], true)).fst.length
                                              (laR t lim (List.take l.length (srtC l))
                                                  (Int.toNat (IntKind.i64.wrap (t + 1) - 0)) 0 ([], true)).fst).length ≤
                                          100)
                                  else false
                                else false)
                                (some
                                  (PV.sc
                                      (Value.bool
                                        (eqTs
                                          (List.take
                                            (lostR t lim
                                                  (List.take (List.take (List.take M.length M).length M).length
                                                    M)).fst.length
                                            (isoT
                                              ((losR t lim ([], true)
                                                      (List.take (List.take (List.take M.length M).length M).length
                                                        M)).fst.length -
                                                1)
                                              1
                                              (losR t lim ([], true)
                                                  (List.take (List.take (List.take M.length M).length M).length
                                                    M)).fst))
                                          (List.take
                                            (laR t lim (List.take l.length (srtC l))
                                                  (Int.toNat (IntKind.i64.wrap (t + 1) - 0)) 0 ([], true)).fst.length
                                            (laR t lim (List.take l.length (srtC l))
                                                (Int.toNat (IntKind.i64.wrap (t + 1) - 0)) 0 ([], true)).fst))),
                                    [Blk.row false
                                        ((Kd.int IntKind.i64).pair
                                          ((Kd.int IntKind.i64).pair ((Kd.int IntKind.i64).pair Kd.str)))
                                        C])))
                          else
                            some
                              (PV.sc (Value.bool false),
                                [Blk.row false
                                    ((Kd.int IntKind.i64).pair
                                      ((Kd.int IntKind.i64).pair ((Kd.int IntKind.i64).pair Kd.str)))
                                    C])))
                    else
                      some
                        (PV.sc (Value.bool false),
                          [Blk.row false
                              ((Kd.int IntKind.i64).pair ((Kd.int IntKind.i64).pair ((Kd.int IntKind.i64).pair Kd.str)))
                              C]))
                else
                  guardB
                    (bif decide (0 + (List.take M.length M).length ≤ (List.take M.length M).length) then
                      bif decide (0 + l.length ≤ (srtC l).length) then
                        decide
                          ((List.take (List.take M.length M).length (List.take M.length M)).length ≤ 100 ∧
                            (List.take l.length (srtC l)).length ≤ 100)
                      else false
                    else false)
                    (bif
                        eqTs (List.take (List.take M.length M).length (List.take M.length M))
                          (List.take l.length (srtC l)) then
                      guardB
                        (bif decide (0 + (List.take M.length M).length ≤ M.length) then
                          decide ((List.take (List.take M.length M).length M).length ≤ 100)
                        else false)
                        (guardB
                          (bif
                              decide
                                (0 + (onR f ([], true) (List.take (List.take M.length M).length M)).fst.length ≤
                                  (onR f ([], true) (List.take (List.take M.length M).length M)).fst.length) then
                            bif
                                decide
                                  (0 +
                                      (onR f ([], true)
                                            (List.drop (Int.toNat 0) (List.take l.length (srtC l)))).fst.length ≤
                                    (onR f ([], true)
                                          (List.drop (Int.toNat 0) (List.take l.length (srtC l)))).fst.length) then
                              decide
                                ((List.take (onR f ([], true) (List.take (List.take M.length M).length M)).fst.length
                                        (onR f ([], true) (List.take (List.take M.length M).length M)).fst).length ≤
                                    100 ∧
                                  (List.take
                                        (onR f ([], true)
                                              (List.drop (Int.toNat 0) (List.take l.length (srtC l)))).fst.length
                                        (onR f ([], true)
                                            (List.drop (Int.toNat 0) (List.take l.length (srtC l)))).fst).length ≤
                                    100)
                            else false
                          else false)
                          (bif
                              eqWs
                                (List.take (onR f ([], true) (List.take (List.take M.length M).length M)).fst.length
                                  (onR f ([], true) (List.take (List.take M.length M).length M)).fst)
                                (List.take
                                  (onR f ([], true) (List.drop (Int.toNat 0) (List.take l.length (srtC l)))).fst.length
                                  (onR f ([], true) (List.drop (Int.toNat 0) (List.take l.length (srtC l)))).fst) then
                            guardB
                              (bif decide (0 + (List.take (List.take M.length M).length M).length ≤ M.length) then
                                decide ((List.take (List.take (List.take M.length M).length M).length M).length ≤ 20) &&
                                  okT (List.take (List.take (List.take M.length M).length M).length M)
                              else false)
                              (guardB
                                (bif
                                    decide
                                      (0 +
                                          (lostR t lim
                                                (List.take (List.take (List.take M.length M).length M).length
                                                  M)).fst.length ≤
                                        (isoT
                                            ((losR t lim ([], true)
                                                    (List.take (List.take (List.take M.length M).length M).length
                                                      M)).fst.length -
                                              1)
                                            1
                                            (losR t lim ([], true)
                                                (List.take (List.take (List.take M.length M).length M).length
                                                  M)).fst).length) then
                                  bif
                                      decide
                                        (0 +
                                            (laR t lim (List.take l.length (srtC l))
                                                  (Int.toNat (IntKind.i64.wrap (t + 1) - 0)) 0 ([], true)).fst.length ≤
                                          (laR t lim (List.take l.length (srtC l))
                                                (Int.toNat (IntKind.i64.wrap (t + 1) - 0)) 0
                                                ([], true)).fst.length) then
                                    decide
                                      ((List.take
                                              (lostR t lim
                                                    (List.take (List.take (List.take M.length M).length M).length
                                                      M)).fst.length
                                              (isoT
                                                ((losR t lim ([], true)
                                                        (List.take (List.take (List.take M.length M).length M).length
                                                          M)).fst.length -
                                                  1)
                                                1
                                                (losR t lim ([], true)
                                                    (List.take (List.take (List.take M.length M).length M).length
                                                      M)).fst)).length ≤
                                          100 ∧
                                        (List.take
                                              (laR t lim (List.take l.length (srtC l))
                                                    (Int.toNat (IntKind.i64.wrap (t + 1) - 0)) 0 ([], true)).fst.length
                                              (laR t lim (List.take l.length (srtC l))
                                                  (Int.toNat (IntKind.i64.wrap (t + 1) - 0)) 0 ([], true)).fst).length ≤
                                          100)
                                  else false
                                else false)
                                (some
                                  (PV.sc
                                      (Value.bool
                                        (eqTs
                                          (List.take
                                            (lostR t lim
                                                  (List.take (List.take (List.take M.length M).length M).length
                                                    M)).fst.length
                                            (isoT
                                              ((losR t lim ([], true)
                                                      (List.take (List.take (List.take M.length M).length M).length
                                                        M)).fst.length -
                                                1)
                                              1
                                              (losR t lim ([], true)
                                                  (List.take (List.take (List.take M.length M).length M).length
                                                    M)).fst))
                                          (List.take
                                            (laR t lim (List.take l.length (srtC l))
                                                  (Int.toNat (IntKind.i64.wrap (t + 1) - 0)) 0 ([], true)).fst.length
                                            (laR t lim (List.take l.length (srtC l))
                                                (Int.toNat (IntKind.i64.wrap (t + 1) - 0)) 0 ([], true)).fst))),
                                    [Blk.row false
                                        ((Kd.int IntKind.i64).pair
                                          ((Kd.int IntKind.i64).pair ((Kd.int IntKind.i64).pair Kd.str)))
                                        C])))
                          else
                            some
                              (PV.sc (Value.bool false),
                                [Blk.row false
                                    ((Kd.int IntKind.i64).pair
                                      ((Kd.int IntKind.i64).pair ((Kd.int IntKind.i64).pair Kd.str)))
                                    C])))
                    else
                      some
                        (PV.sc (Value.bool false),
                          [Blk.row false
                              ((Kd.int IntKind.i64).pair ((Kd.int IntKind.i64).pair ((Kd.int IntKind.i64).pair Kd.str)))
                              C]))))
          else
            guardB (bif decide (0 + M.length ≤ M.length) then decide ((List.take M.length M).length ≤ 100) else false)
              (bif mn then
                guardB
                  (bif decide (0 + l.length ≤ (srtC l).length) then
                    decide (([] : List T3).length ≤ 100 ∧ (List.take l.length (srtC l)).length ≤ 100)
                  else false)
                  (bif eqTs [] (List.take l.length (srtC l)) then
                    guardB
                      (bif decide (0 + (List.take M.length M).length ≤ M.length) then
                        decide ((List.take (List.take M.length M).length M).length ≤ 100)
                      else false)
                      (guardB
                        (bif
                            decide
                              (0 + (onR f ([], true) (List.take (List.take M.length M).length M)).fst.length ≤
                                (onR f ([], true) (List.take (List.take M.length M).length M)).fst.length) then
                          bif
                              decide
                                (0 +
                                    (onR f ([], true)
                                          (List.drop (Int.toNat 0) (List.take l.length (srtC l)))).fst.length ≤
                                  (onR f ([], true)
                                        (List.drop (Int.toNat 0) (List.take l.length (srtC l)))).fst.length) then
                            decide
                              ((List.take (onR f ([], true) (List.take (List.take M.length M).length M)).fst.length
                                      (onR f ([], true) (List.take (List.take M.length M).length M)).fst).length ≤
                                  100 ∧
                                (List.take
                                      (onR f ([], true)
                                            (List.drop (Int.toNat 0) (List.take l.length (srtC l)))).fst.length
                                      (onR f ([], true)
                                          (List.drop (Int.toNat 0) (List.take l.length (srtC l)))).fst).length ≤
                                  100)
                          else false
                        else false)
                        (bif
                            eqWs
                              (List.take (onR f ([], true) (List.take (List.take M.length M).length M)).fst.length
                                (onR f ([], true) (List.take (List.take M.length M).length M)).fst)
                              (List.take
                                (onR f ([], true) (List.drop (Int.toNat 0) (List.take l.length (srtC l)))).fst.length
                                (onR f ([], true) (List.drop (Int.toNat 0) (List.take l.length (srtC l)))).fst) then
                          guardB
                            (bif decide (0 + (List.take (List.take M.length M).length M).length ≤ M.length) then
                              decide ((List.take (List.take (List.take M.length M).length M).length M).length ≤ 20) &&
                                okT (List.take (List.take (List.take M.length M).length M).length M)
                            else false)
                            (guardB
                              (bif
                                  decide
                                    (0 +
                                        (lostR t lim
                                              (List.take (List.take (List.take M.length M).length M).length
                                                M)).fst.length ≤
                                      (isoT
                                          ((losR t lim ([], true)
                                                  (List.take (List.take (List.take M.length M).length M).length
                                                    M)).fst.length -
                                            1)
                                          1
                                          (losR t lim ([], true)
                                              (List.take (List.take (List.take M.length M).length M).length
                                                M)).fst).length) then
                                decide
                                  ((List.take
                                          (lostR t lim
                                                (List.take (List.take (List.take M.length M).length M).length
                                                  M)).fst.length
                                          (isoT
                                            ((losR t lim ([], true)
                                                    (List.take (List.take (List.take M.length M).length M).length
                                                      M)).fst.length -
                                              1)
                                            1
                                            (losR t lim ([], true)
                                                (List.take (List.take (List.take M.length M).length M).length
                                                  M)).fst)).length ≤
                                      100 ∧
                                    ([] : List T3).length ≤ 100)
                              else false)
                              (some
                                (PV.sc
                                    (Value.bool
                                      (eqTs
                                        (List.take
                                          (lostR t lim
                                                (List.take (List.take (List.take M.length M).length M).length
                                                  M)).fst.length
                                          (isoT
                                            ((losR t lim ([], true)
                                                    (List.take (List.take (List.take M.length M).length M).length
                                                      M)).fst.length -
                                              1)
                                            1
                                            (losR t lim ([], true)
                                                (List.take (List.take (List.take M.length M).length M).length M)).fst))
                                        [])),
                                  [Blk.row false
                                      ((Kd.int IntKind.i64).pair
                                        ((Kd.int IntKind.i64).pair ((Kd.int IntKind.i64).pair Kd.str)))
                                      C])))
                        else
                          some
                            (PV.sc (Value.bool false),
                              [Blk.row false
                                  ((Kd.int IntKind.i64).pair
                                    ((Kd.int IntKind.i64).pair ((Kd.int IntKind.i64).pair Kd.str)))
                                  C])))
                  else
                    some
                      (PV.sc (Value.bool false),
                        [Blk.row false
                            ((Kd.int IntKind.i64).pair ((Kd.int IntKind.i64).pair ((Kd.int IntKind.i64).pair Kd.str)))
                            C]))
              else
                guardB
                  (bif decide (0 + (List.take M.length M).length ≤ (List.take M.length M).length) then
                    bif decide (0 + l.length ≤ (srtC l).length) then
                      decide
                        ((List.take (List.take M.length M).length (List.take M.length M)).length ≤ 100 ∧
                          (List.take l.length (srtC l)).length ≤ 100)
                    else false
                  else false)
                  (bif
                      eqTs (List.take (List.take M.length M).length (List.take M.length M))
                        (List.take l.length (srtC l)) then
                    guardB
                      (bif decide (0 + (List.take M.length M).length ≤ M.length) then
                        decide ((List.take (List.take M.length M).length M).length ≤ 100)
                      else false)
                      (guardB
                        (bif
                            decide
                              (0 + (onR f ([], true) (List.take (List.take M.length M).length M)).fst.length ≤
                                (onR f ([], true) (List.take (List.take M.length M).length M)).fst.length) then
                          bif
                              decide
                                (0 +
                                    (onR f ([], true)
                                          (List.drop (Int.toNat 0) (List.take l.length (srtC l)))).fst.length ≤
                                  (onR f ([], true)
                                        (List.drop (Int.toNat 0) (List.take l.length (srtC l)))).fst.length) then
                            decide
                              ((List.take (onR f ([], true) (List.take (List.take M.length M).length M)).fst.length
                                      (onR f ([], true) (List.take (List.take M.length M).length M)).fst).length ≤
                                  100 ∧
                                (List.take
                                      (onR f ([], true)
                                            (List.drop (Int.toNat 0) (List.take l.length (srtC l)))).fst.length
                                      (onR f ([], true)
                                          (List.drop (Int.toNat 0) (List.take l.length (srtC l)))).fst).length ≤
                                  100)
                          else false
                        else false)
                        (bif
                            eqWs
                              (List.take (onR f ([], true) (List.take (List.take M.length M).length M)).fst.length
                                (onR f ([], true) (List.take (List.take M.length M).length M)).fst)
                              (List.take
                                (onR f ([], true) (List.drop (Int.toNat 0) (List.take l.length (srtC l)))).fst.length
                                (onR f ([], true) (List.drop (Int.toNat 0) (List.take l.length (srtC l)))).fst) then
                          guardB
                            (bif decide (0 + (List.take (List.take M.length M).length M).length ≤ M.length) then
                              decide ((List.take (List.take (List.take M.length M).length M).length M).length ≤ 20) &&
                                okT (List.take (List.take (List.take M.length M).length M).length M)
                            else false)
                            (guardB
                              (bif
                                  decide
                                    (0 +
                                        (lostR t lim
                                              (List.take (List.take (List.take M.length M).length M).length
                                                M)).fst.length ≤
                                      (isoT
                                          ((losR t lim ([], true)
                                                  (List.take (List.take (List.take M.length M).length M).length
                                                    M)).fst.length -
                                            1)
                                          1
                                          (losR t lim ([], true)
                                              (List.take (List.take (List.take M.length M).length M).length
                                                M)).fst).length) then
                                decide
                                  ((List.take
                                          (lostR t lim
                                                (List.take (List.take (List.take M.length M).length M).length
                                                  M)).fst.length
                                          (isoT
                                            ((losR t lim ([], true)
                                                    (List.take (List.take (List.take M.length M).length M).length
                                                      M)).fst.length -
                                              1)
                                            1
                                            (losR t lim ([], true)
                                                (List.take (List.take (List.take M.length M).length M).length
                                                  M)).fst)).length ≤
                                      100 ∧
                                    ([] : List T3).length ≤ 100)
                              else false)
                              (some
                                (PV.sc
                                    (Value.bool
                                      (eqTs
                                        (List.take
                                          (lostR t lim
                                                (List.take (List.take (List.take M.length M).length M).length
                                                  M)).fst.length
                                          (isoT
                                            ((losR t lim ([], true)
                                                    (List.take (List.take (List.take M.length M).length M).length
                                                      M)).fst.length -
                                              1)
                                            1
                                            (losR t lim ([], true)
                                                (List.take (List.take (List.take M.length M).length M).length M)).fst))
                                        [])),
                                  [Blk.row false
                                      ((Kd.int IntKind.i64).pair
                                        ((Kd.int IntKind.i64).pair ((Kd.int IntKind.i64).pair Kd.str)))
                                      C])))
                        else
                          some
                            (PV.sc (Value.bool false),
                              [Blk.row false
                                  ((Kd.int IntKind.i64).pair
                                    ((Kd.int IntKind.i64).pair ((Kd.int IntKind.i64).pair Kd.str)))
                                  C])))
                  else
                    some
                      (PV.sc (Value.bool false),
                        [Blk.row false
                            ((Kd.int IntKind.i64).pair ((Kd.int IntKind.i64).pair ((Kd.int IntKind.i64).pair Kd.str)))
                            C])))
        else
          guardB (bif decide (0 + M.length ≤ M.length) then decide ((List.take M.length M).length ≤ 100) else false)
            (bif mn then
              guardB
                (bif decide (0 + l.length ≤ (srtC l).length) then
                  decide (([] : List T3).length ≤ 100 ∧ (List.take l.length (srtC l)).length ≤ 100)
                else false)
                (bif eqTs [] (List.take l.length (srtC l)) then
                  guardB
                    (bif decide (0 + (List.take M.length M).length ≤ M.length) then
                      decide ((List.take (List.take M.length M).length M).length ≤ 100)
                    else false)
                    (guardB
                      (bif
                          decide
                            (0 + (onR f ([], true) (List.take (List.take M.length M).length M)).fst.length ≤
                              (onR f ([], true) (List.take (List.take M.length M).length M)).fst.length) then
                        bif
                            decide
                              (0 +
                                  (onR f ([], true)
                                        (List.drop (Int.toNat 0) (List.take l.length (srtC l)))).fst.length ≤
                                (onR f ([], true)
                                      (List.drop (Int.toNat 0) (List.take l.length (srtC l)))).fst.length) then
                          decide
                            ((List.take (onR f ([], true) (List.take (List.take M.length M).length M)).fst.length
                                    (onR f ([], true) (List.take (List.take M.length M).length M)).fst).length ≤
                                100 ∧
                              (List.take
                                    (onR f ([], true)
                                          (List.drop (Int.toNat 0) (List.take l.length (srtC l)))).fst.length
                                    (onR f ([], true)
                                        (List.drop (Int.toNat 0) (List.take l.length (srtC l)))).fst).length ≤
                                100)
                        else false
                      else false)
                      (bif
                          eqWs
                            (List.take (onR f ([], true) (List.take (List.take M.length M).length M)).fst.length
                              (onR f ([], true) (List.take (List.take M.length M).length M)).fst)
                            (List.take
                              (onR f ([], true) (List.drop (Int.toNat 0) (List.take l.length (srtC l)))).fst.length
                              (onR f ([], true) (List.drop (Int.toNat 0) (List.take l.length (srtC l)))).fst) then
                        guardB
                          (bif decide (0 + (List.take (List.take M.length M).length M).length ≤ M.length) then
                            decide ((List.take (List.take (List.take M.length M).length M).length M).length ≤ 20) &&
                              okT (List.take (List.take (List.take M.length M).length M).length M)
                          else false)
                          (guardB
                            (bif
                                decide
                                  (0 +
                                      (lostR t lim
                                            (List.take (List.take (List.take M.length M).length M).length
                                              M)).fst.length ≤
                                    (isoT
                                        ((losR t lim ([], true)
                                                (List.take (List.take (List.take M.length M).length M).length
                                                  M)).fst.length -
                                          1)
                                        1
                                        (losR t lim ([], true)
                                            (List.take (List.take (List.take M.length M).length M).length
                                              M)).fst).length) then
                              decide
                                ((List.take
                                        (lostR t lim
                                              (List.take (List.take (List.take M.length M).length M).length
                                                M)).fst.length
                                        (isoT
                                          ((losR t lim ([], true)
                                                  (List.take (List.take (List.take M.length M).length M).length
                                                    M)).fst.length -
                                            1)
                                          1
                                          (losR t lim ([], true)
                                              (List.take (List.take (List.take M.length M).length M).length
                                                M)).fst)).length ≤
                                    100 ∧
                                  ([] : List T3).length ≤ 100)
                            else false)
                            (some
                              (PV.sc
                                  (Value.bool
                                    (eqTs
                                      (List.take
                                        (lostR t lim
                                              (List.take (List.take (List.take M.length M).length M).length
                                                M)).fst.length
                                        (isoT
                                          ((losR t lim ([], true)
                                                  (List.take (List.take (List.take M.length M).length M).length
                                                    M)).fst.length -
                                            1)
                                          1
                                          (losR t lim ([], true)
                                              (List.take (List.take (List.take M.length M).length M).length M)).fst))
                                      [])),
                                [Blk.row false
                                    ((Kd.int IntKind.i64).pair
                                      ((Kd.int IntKind.i64).pair ((Kd.int IntKind.i64).pair Kd.str)))
                                    C])))
                      else
                        some
                          (PV.sc (Value.bool false),
                            [Blk.row false
                                ((Kd.int IntKind.i64).pair
                                  ((Kd.int IntKind.i64).pair ((Kd.int IntKind.i64).pair Kd.str)))
                                C])))
                else
                  some
                    (PV.sc (Value.bool false),
                      [Blk.row false
                          ((Kd.int IntKind.i64).pair ((Kd.int IntKind.i64).pair ((Kd.int IntKind.i64).pair Kd.str)))
                          C]))
            else
              guardB
                (bif decide (0 + (List.take M.length M).length ≤ (List.take M.length M).length) then
                  bif decide (0 + l.length ≤ (srtC l).length) then
                    decide
                      ((List.take (List.take M.length M).length (List.take M.length M)).length ≤ 100 ∧
                        (List.take l.length (srtC l)).length ≤ 100)
                  else false
                else false)
                (bif
                    eqTs (List.take (List.take M.length M).length (List.take M.length M))
                      (List.take l.length (srtC l)) then
                  guardB
                    (bif decide (0 + (List.take M.length M).length ≤ M.length) then
                      decide ((List.take (List.take M.length M).length M).length ≤ 100)
                    else false)
                    (guardB
                      (bif
                          decide
                            (0 + (onR f ([], true) (List.take (List.take M.length M).length M)).fst.length ≤
                              (onR f ([], true) (List.take (List.take M.length M).length M)).fst.length) then
                        bif
                            decide
                              (0 +
                                  (onR f ([], true)
                                        (List.drop (Int.toNat 0) (List.take l.length (srtC l)))).fst.length ≤
                                (onR f ([], true)
                                      (List.drop (Int.toNat 0) (List.take l.length (srtC l)))).fst.length) then
                          decide
                            ((List.take (onR f ([], true) (List.take (List.take M.length M).length M)).fst.length
                                    (onR f ([], true) (List.take (List.take M.length M).length M)).fst).length ≤
                                100 ∧
                              (List.take
                                    (onR f ([], true)
                                          (List.drop (Int.toNat 0) (List.take l.length (srtC l)))).fst.length
                                    (onR f ([], true)
                                        (List.drop (Int.toNat 0) (List.take l.length (srtC l)))).fst).length ≤
                                100)
                        else false
                      else false)
                      (bif
                          eqWs
                            (List.take (onR f ([], true) (List.take (List.take M.length M).length M)).fst.length
                              (onR f ([], true) (List.take (List.take M.length M).length M)).fst)
                            (List.take
                              (onR f ([], true) (List.drop (Int.toNat 0) (List.take l.length (srtC l)))).fst.length
                              (onR f ([], true) (List.drop (Int.toNat 0) (List.take l.length (srtC l)))).fst) then
                        guardB
                          (bif decide (0 + (List.take (List.take M.length M).length M).length ≤ M.length) then
                            decide ((List.take (List.take (List.take M.length M).length M).length M).length ≤ 20) &&
                              okT (List.take (List.take (List.take M.length M).length M).length M)
                          else false)
                          (guardB
                            (bif
                                decide
                                  (0 +
                                      (lostR t lim
                                            (List.take (List.take (List.take M.length M).length M).length
                                              M)).fst.length ≤
                                    (isoT
                                        ((losR t lim ([], true)
                                                (List.take (List.take (List.take M.length M).length M).length
                                                  M)).fst.length -
                                          1)
                                        1
                                        (losR t lim ([], true)
                                            (List.take (List.take (List.take M.length M).length M).length
                                              M)).fst).length) then
                              decide
                                ((List.take
                                        (lostR t lim
                                              (List.take (List.take (List.take M.length M).length M).length
                                                M)).fst.length
                                        (isoT
                                          ((losR t lim ([], true)
                                                  (List.take (List.take (List.take M.length M).length M).length
                                                    M)).fst.length -
                                            1)
                                          1
                                          (losR t lim ([], true)
                                              (List.take (List.take (List.take M.length M).length M).length
                                                M)).fst)).length ≤
                                    100 ∧
                                  ([] : List T3).length ≤ 100)
                            else false)
                            (some
                              (PV.sc
                                  (Value.bool
                                    (eqTs
                                      (List.take
                                        (lostR t lim
                                              (List.take (List.take (List.take M.length M).length M).length
                                                M)).fst.length
                                        (isoT
                                          ((losR t lim ([], true)
                                                  (List.take (List.take (List.take M.length M).length M).length
                                                    M)).fst.length -
                                            1)
                                          1
                                          (losR t lim ([], true)
                                              (List.take (List.take (List.take M.length M).length M).length M)).fst))
                                      [])),
                                [Blk.row false
                                    ((Kd.int IntKind.i64).pair
                                      ((Kd.int IntKind.i64).pair ((Kd.int IntKind.i64).pair Kd.str)))
                                    C])))
                      else
                        some
                          (PV.sc (Value.bool false),
                            [Blk.row false
                                ((Kd.int IntKind.i64).pair
                                  ((Kd.int IntKind.i64).pair ((Kd.int IntKind.i64).pair Kd.str)))
                                C])))
                else
                  some
                    (PV.sc (Value.bool false),
                      [Blk.row false
                          ((Kd.int IntKind.i64).pair ((Kd.int IntKind.i64).pair ((Kd.int IntKind.i64).pair Kd.str)))
                          C])))))))) := by kernel_rfl
abbrev ansSw (M' : List T3) (mn' : Bool) (l' : List T3) (ln' : Bool) (e f : Int) (c : L4) : Option (Xt × List PV × List Blk) :=
  some (Xt.normal, [PV.sl 4 0 3 l'.length l'.length false ln', .sc (.int .i64 e), .sc (.int .i64 f)], [Blk.fix true [PV.sl 5 0 3 M'.length M'.length false mn'], Blk.dead, Blk.dead, Blk.fix false (pvL c), Blk.row true kT l', Blk.row true kT M'])
theorem ansSw_len (M' : List T3) (mn' : Bool) (l' : List T3) (ln' : Bool) (e f : Int) (c : L4) (m : Nat) (h : l'.length = m) : some (Xt.normal, [PV.sl 4 0 3 m m false ln', .sc (.int .i64 e), .sc (.int .i64 f)], [Blk.fix true [PV.sl 5 0 3 M'.length M'.length false mn'], Blk.dead, Blk.dead, Blk.fix false (pvL c), Blk.row true kT l', Blk.row true kT M']) = ansSw M' mn' l' ln' e f c := by subst h; rfl
theorem ix_lt (c : ByteArray) (l : List T3) : ixT c l < (l.length : Int) := by
  rcases ixT_spec c l with ⟨h, _⟩ | ⟨j, x, h, h2, _⟩
  · omega
  · have := (List.getElem?_eq_some_iff.1 h2).1; omega
theorem q4s0 (M : List T3) (mn : Bool) (l : List T3) (ln : Bool) (c : L4) (hR : preR M c.2.2.2) (hl : l.length ≤ 60) : n4s0L M mn l ln c.1 c.2.1 c.2.2.1 c.2.2.2 (ixT c.2.2.2 l) [] false 0 0 0 =
    ansSw (radM 0 M c) (radN 0 M mn c) (cutL 0 l c) (cutN 0 l ln c) (radE 0 M c) (cutE 0 l c) c := by
  obtain ⟨c1, c2, c3, c4⟩ := c
  have hk := ix_lt c4 l
  rw [n4s0]
  refine guard_split (by rw [decide_eq_true (show M.length = M.length from rfl)]; exact bp_mk hR) (guard_split (decide_eq_true hR.2.2) ?_)
  have eE : cutE 0 l (c1, c2, c3, c4) = bif !namS c4 then 6 else bif !valF c2 || !inS c3 0 200000 then 4 else bif decide (ixT c4 l < 0) && (l.length : Int) == 24 then 9 else bif decide (ixT c4 l ≥ 0) && decide (c3 < (atT l (ixT c4 l)).2.2) then 12 else 0 := rfl
  have eL : cutL 0 l (c1, c2, c3, c4) = bif cutE 0 l (c1, c2, c3, c4) == 0 then (bif decide (ixT c4 l ≥ 0) then l.set (ixT c4 l).toNat (c4, c2, c3) else l ++ [(c4, c2, c3)]) else l := rfl
  have eN : cutN 0 l ln (c1, c2, c3, c4) = bif cutE 0 l (c1, c2, c3, c4) == 0 && (true && !decide (ixT c4 l ≥ 0)) then false else ln := rfl
  rw [eL, eN, eE]
  have key : ∀ k, ixT c4 l = k → k < (l.length : Int) := fun k e => by omega
  generalize ixT c4 l = k at *
  cases namS c4 with
  | false => rfl
  | true =>
    simp only [Bool.not_true, cond_false]
    cases valF c2 with
    | false => rfl
    | true =>
      simp only [Bool.not_true, cond_false, Bool.false_or]
      cases inS c3 0 200000 with
      | false => rfl
      | true =>
        simp only [Bool.not_true, cond_false]
        by_cases hk0 : k < 0
        · rw [decide_eq_true hk0, decide_eq_false (show ¬ k ≥ 0 by omega)]
          simp only [cond_true, Bool.true_and, Bool.false_and, cond_false]
          cases ((l.length : Int) == 24) with
          | true => rfl
          | false =>
            simp only [cond_false]
            refine guard_split (by simp; omega) ?_
            rw [List.take_length]
            exact ansSw_len (radM 0 M (c1, c2, c3, c4)) (radN 0 M mn (c1, c2, c3, c4)) (l ++ [(c4, c2, c3)]) false (radE 0 M (c1, c2, c3, c4)) 0 (c1, c2, c3, c4) (l.length + 1) (app1 _ _)
        · rw [decide_eq_false hk0, decide_eq_true (show k ≥ 0 by omega)]
          simp only [cond_true, Bool.true_and, Bool.false_and, cond_false]
          rw [decide_eq_true hk, at_ex (by omega) hk, Nat.zero_add]
          simp only [guardB, cond_true, bindO]
          cases decide (c3 < (atT l k).2.2) with
          | true => rfl
          | false => exact ansSw_len (radM 0 M (c1, c2, c3, c4)) (radN 0 M mn (c1, c2, c3, c4)) (l.set k.toNat (c4, c2, c3)) ln (radE 0 M (c1, c2, c3, c4)) 0 (c1, c2, c3, c4) l.length (List.length_set ..)
theorem q4s1 (M : List T3) (mn : Bool) (l : List T3) (ln : Bool) (c : L4) (hR : preR M c.2.2.2) (hl : l.length ≤ 60) : n4s1L M mn l ln c.1 c.2.1 c.2.2.1 c.2.2.2 (ixT c.2.2.2 l) [] false 0 0 0 =
    ansSw (radM 1 M c) (radN 1 M mn c) (cutL 1 l c) (cutN 1 l ln c) (radE 1 M c) (cutE 1 l c) c := by
  obtain ⟨c1, c2, c3, c4⟩ := c
  have hk := ix_lt c4 l
  rw [n4s1]
  refine guard_split (by rw [decide_eq_true (show M.length = M.length from rfl)]; exact bp_mk hR) ?_
  have eE : cutE 1 l (c1, c2, c3, c4) = bif decide (ixT c4 l < 0) then 8 else bif (atT l (ixT c4 l)).2.1 != c2 then 11 else bif !inS c3 (atT l (ixT c4 l)).2.2 200000 then 12 else 0 := rfl
  have eL : cutL 1 l (c1, c2, c3, c4) = bif cutE 1 l (c1, c2, c3, c4) == 0 then l.set (ixT c4 l).toNat ((atT l (ixT c4 l)).1, (atT l (ixT c4 l)).2.1, c3) else l := rfl
  have eN : cutN 1 l ln (c1, c2, c3, c4) = ln := by unfold cutN; cases cutE 1 l (c1, c2, c3, c4) == 0 <;> rfl
  rw [eL, eN, eE]
  generalize ixT c4 l = k at *
  by_cases hk0 : k < 0
  · rw [decide_eq_true hk0]; rfl
  · rw [decide_eq_false hk0]
    simp only [cond_false]
    have hgd : (decide (0 ≤ k) && decide (k < (l.length : Int))) = true := by simp; omega
    rw [hgd, at_ex (by omega) hk, Nat.zero_add]
    simp only [guardB, cond_true, bindO]
    cases ((atT l k).2.1 != c2) with
    | true => rfl
    | false =>
      simp only [cond_false]
      cases inS c3 (atT l k).2.2 200000 with
      | false => rfl
      | true => exact ansSw_len (radM 1 M (c1, c2, c3, c4)) (radN 1 M mn (c1, c2, c3, c4)) (l.set k.toNat ((atT l k).1, (atT l k).2.1, c3)) ln (radE 1 M (c1, c2, c3, c4)) 0 (c1, c2, c3, c4) l.length (List.length_set ..)
theorem q4s2 (M : List T3) (mn : Bool) (l : List T3) (ln : Bool) (c : L4) (hR : preR M c.2.2.2) (hl : l.length ≤ 60) : n4s2L M mn l ln c.1 c.2.1 c.2.2.1 c.2.2.2 (ixT c.2.2.2 l) [] false 0 0 0 =
    ansSw (radM 2 M c) (radN 2 M mn c) (cutL 2 l c) (cutN 2 l ln c) (radE 2 M c) (cutE 2 l c) c := by
  obtain ⟨c1, c2, c3, c4⟩ := c
  have hk := ix_lt c4 l
  rw [n4s2]
  refine guard_split (by rw [decide_eq_true (show M.length = M.length from rfl)]; exact bp_mk hR) ?_
  have eE : cutE 2 l (c1, c2, c3, c4) = bif decide (ixT c4 l < 0) then 8 else 0 := rfl
  have eL : cutL 2 l (c1, c2, c3, c4) = bif cutE 2 l (c1, c2, c3, c4) == 0 then l.eraseIdx (ixT c4 l).toNat else l := rfl
  have eN : cutN 2 l ln (c1, c2, c3, c4) = ln := by unfold cutN; cases cutE 2 l (c1, c2, c3, c4) == 0 <;> rfl
  rw [eL, eN, eE]
  generalize ixT c4 l = k at *
  by_cases hk0 : k < 0
  · rw [decide_eq_true hk0]; rfl
  · rw [decide_eq_false hk0]
    simp only [cond_false]
    rw [IntWalk.i64_in (k + 1) (by omega)]
    exact guard_split (by rw [decT, cond_true]; exact decide_eq_true ⟨rfl, by omega, hk, by omega⟩) rfl
theorem kd3 {kd : Int} (h1 : 0 ≤ kd) (h2 : kd ≤ 2) : kd = 0 ∨ kd = 1 ∨ kd = 2 := by omega
theorem in2 : CutOK Try.prog Try.f4.ntmps (codeAt 2 (bodyF Try.f4)) [9, 10, 11, 13, 14, 16, 47] [10, 15, 16] (entC kSw cSw) := by
  refine block_cutV (kill := killA 0 kSw) C5_ok mixed (noCuts_ok _) ?_
  rintro ⟨⟨⟨M, mn⟩, ⟨⟩⟩, ⟨l, ln⟩, ⟨⟩, c, k, z, kd, ⟨⟩⟩ hpre
  obtain ⟨hR, hl, hk, hz, g1, g2⟩ := bp_true.1 hpre
  obtain rfl : k = ixT c.2.2.2 l := hk
  obtain rfl : z = 0 := hz
  have g1 : (0 : Int) ≤ kd := g1
  have g2 : kd ≤ 2 := g2
  rcases kd3 g1 g2 with rfl | rfl | rfl
  · exact q4s0 M mn l ln c hR hl
  · exact q4s1 M mn l ln c hR hl
  · exact q4s2 M mn l ln c hR hl
theorem cut02 (n : Int) : 0 ≤ cutS n 2 ∧ cutS n 2 ≤ 2 := by
  unfold cutS
  have h1 := Int.tmod_lt_of_pos n (b := 3) (by omega)
  have h2 : -3 < n.tmod 3 := Int.lt_tmod_of_pos n (by omega)
  show 0 ≤ (bif decide (n.tmod 3 < 0) then n.tmod 3 + 3 else n.tmod 3) ∧ (bif decide (n.tmod 3 < 0) then n.tmod 3 + 3 else n.tmod 3) ≤ 2
  by_cases h : n.tmod 3 < 0
  · rw [decide_eq_true h]; simp only [cond_true]; omega
  · rw [decide_eq_false h]; simp only [cond_false]; omega
theorem rest_cons {C : List L4} {m k : Int} {x : L4} (h0 : 0 ≤ k) (h : k < m) (hx : C[k.toNat]? = some x) : restL C m k = x :: restL C m (k + 1) := by
  unfold restL
  have : (C.take m.toNat)[k.toNat]? = some x := by rw [List.getElem?_take, if_pos (by omega)]; exact hx
  rw [drop_cons this, show (k + 1).toNat = k.toNat + 1 by omega]
theorem rest_nil {C : List L4} {m k : Int} (h : m ≤ k) : restL C m k = [] := by
  unfold restL
  exact List.drop_eq_nil_of_le (by rw [List.length_take]; omega)
abbrev ansLw (C : List L4) (s : SM) : Option (Xt × List PV × List Blk) := some (Xt.exit 0, [slV 4 kT s.2], [Blk.fix true [slV 5 kT s.1], Blk.dead, Blk.dead, Blk.row false kL C, Blk.row true kT s.2.1, Blk.row true kT s.1.1])
theorem q4l (M : List T3) (mn : Bool) (l : List T3) (ln : Bool) (C : List L4) (nl : Bool) (m k : Int) (h : relT M l ∧ (M.length : Int) ≤ k ∧ m = (C.length : Int) ∧ okKc C m k) : n4lL M mn l ln C nl m k = ansLw C (runC ((M, mn), (l, ln)) (restL C m k)) := by
  obtain ⟨hr, hlen, hm, hmC, hk0, hkm, hm20, hok⟩ := h
  have hll := hr.1.length_eq
  rw [n4l]
  simp only [List.take_length, Nat.zero_add, len_true, cond_true]
  refine cond_split (fun hk => ?_) (fun hk => ?_)
  · have hk := of_decide_eq_true hk
    obtain ⟨x, hx⟩ := get_ex (l := C) (k := k.toNat) (by omega)
    obtain ⟨hc1, hc2⟩ := cut02 x.1
    obtain ⟨g1, g2⟩ := rel_step (kd := cutS x.1 2) x hr
    rw [hx, IntWalk.i64_in (k + 1) (by omega), rest_cons hk0 hk hx]
    refine guard_split (by simp; omega) ?_
    simp only [bindO]
    refine guard_split (decide_eq_true (by omega)) (guard_split ?_ ?_)
    · simp only [decT, cond_true]
      exact bp_mk ⟨⟨hr.2.1, by omega, hok x (List.mem_of_getElem? hx)⟩, by omega, trivial, trivial, hc1, hc2⟩
    · rw [err_eq x hr.1 hr.2.1, bne_self_eq_false, cond_false]
      refine guard_split (decide_eq_true (show (m - (k + 1)).toNat < (m - k).toNat by omega)) (guard_split ?_ rfl)
      simp only [decT, cond_true]
      exact bp_mk ⟨g1, by omega, hm, hmC, by omega, by omega, hm20, hok⟩
  · have hk := of_decide_eq_false hk
    rw [rest_nil (by omega)]
    rfl
theorem q4o (f : Int) (out : List ByteArray) (onl : Bool) (l : List T3) (lnl : Bool) (n k : Int) (h : preOn out l n k = true) : n4oL f out onl l lnl n k = some (Xt.exit 5, [slV 2 .str (onR f (out, onl) (l.drop k.toNat))], [Blk.dead, Blk.row false kT l, Blk.row true .str (onR f (out, onl) (l.drop k.toNat)).1]) := by
  obtain ⟨h1, h2, h3, h4, h5⟩ := of_decide_eq_true h
  rw [n4o]
  simp only [List.take_length, Nat.zero_add, len_true, cond_true]
  refine cond_split (fun hk => ?_) (fun hk => ?_)
  · have hk := of_decide_eq_true hk
    obtain ⟨x, hx⟩ := get_ex (l := l) (k := k.toNat) (by omega)
    rw [hx, drop_cons hx, IntWalk.i64_in (k + 1) (by omega), show (k + 1).toNat = k.toNat + 1 by omega, onR_cons]
    refine guard_split (by simp; omega) ?_
    simp only [bindO]
    refine cond_split (fun hc => ?_) (fun hc => ?_)
    · rw [hc, cond_true]
      refine guard_split (by simp; omega) (guard_split (decide_eq_true (show (n - (k + 1)).toNat < (n - k).toNat by omega)) (guard_split ?_ rfl))
      rw [decide_eq_true (show out.length + 1 = (out ++ [x.1]).length from (app1 _ _).symm), cond_true]
      exact preOn_mk h1 (by omega) (by omega) h4 (by rw [app1]; omega)
    · rw [hc, cond_false]
      refine guard_split (decide_eq_true (show (n - (k + 1)).toNat < (n - k).toNat by omega)) (guard_split ?_ rfl)
      rw [decT, cond_true]
      exact preOn_mk h1 (by omega) (by omega) h4 (by omega)
  · have hk := of_decide_eq_false hk
    rw [List.drop_eq_nil_of_le (by omega)]
    rfl
theorem atR_cons (t : Int) (o : List T3 × Bool) (x : T3) (r : List T3) : atR t o (x :: r) = bif x.2.2 == t then atR t (o.1 ++ [x], false) r else atR t o r := rfl
theorem q4i (out : List T3) (onl : Bool) (t : Int) (l : List T3) (lnl : Bool) (n k : Int) (h : preAtr out l n k = true) : n4iL out onl t l lnl n k = some (Xt.exit 9, [slV 2 kT (atR t (out, onl) (l.drop k.toNat))], [Blk.dead, Blk.row false kT l, Blk.row true kT (atR t (out, onl) (l.drop k.toNat)).1]) := by
  obtain ⟨h1, h2, h3, h4, h5⟩ := of_decide_eq_true h
  rw [n4i]
  simp only [List.take_length, Nat.zero_add, len_true, cond_true]
  refine cond_split (fun hk => ?_) (fun hk => ?_)
  · have hk := of_decide_eq_true hk
    obtain ⟨x, hx⟩ := get_ex (l := l) (k := k.toNat) (by omega)
    rw [hx, drop_cons hx, IntWalk.i64_in (k + 1) (by omega), show (k + 1).toNat = k.toNat + 1 by omega, atR_cons]
    refine guard_split (by simp; omega) ?_
    simp only [bindO]
    refine cond_split (fun hc => ?_) (fun hc => ?_)
    · rw [hc, cond_true]
      refine guard_split (by simp; omega) (guard_split (decide_eq_true (show (n - (k + 1)).toNat < (n - k).toNat by omega)) (guard_split ?_ rfl))
      rw [decide_eq_true (show out.length + 1 = (out ++ [x]).length from (app1 _ _).symm), cond_true]
      exact decide_eq_true ⟨h1, by omega, by omega, h4, by rw [app1]; omega⟩
    · rw [hc, cond_false]
      refine guard_split (decide_eq_true (show (n - (k + 1)).toNat < (n - k).toNat by omega)) (guard_split ?_ rfl)
      rw [decT, cond_true]
      exact decide_eq_true ⟨h1, by omega, by omega, h4, by omega⟩
  · have hk := of_decide_eq_false hk
    rw [List.drop_eq_nil_of_le (by omega)]
    rfl
theorem fu_le (t : Int) (l : List T3) : (fu t l).length ≤ l.length := List.length_filter_le _ _
theorem q4t (T lim : Int) (l : List T3) (lnl : Bool) (out : List T3) (onl : Bool) (n t : Int) (h : preI7 T lim l out n t = true) : n4tL T lim l lnl out onl n t = some (Xt.exit 7, [slV 2 kT (laR T lim l (n - t).toNat t (out, onl))], [Blk.row false kT l, Blk.dead, Blk.row true kT (laR T lim l (n - t).toNat t (out, onl)).1]) := by
  obtain ⟨h1, h2, h3, h4, h5, h6, h7, h8⟩ := of_decide_eq_true h
  rw [n4t]
  simp only [List.take_length, Nat.zero_add, len_true, cond_true, show Int.toNat 0 = 0 from rfl, List.drop_zero]
  refine cond_split (fun hk => ?_) (fun hk => ?_)
  · have hk := of_decide_eq_true hk
    rw [IntWalk.i64_in (T - t) (by omega), IntWalk.i64_in (t + 1) (by omega), show (n - t).toNat = (n - (t + 1)).toNat + 1 by omega]
    have e : laR T lim l ((n - (t + 1)).toNat + 1) t (out, onl) = bif decide (T - t ≤ lim) || (out.length : Int) == (l.length : Int) then (out, onl) else laR T lim l (n - (t + 1)).toNat (t + 1) (atR t (out, onl) l) := rfl
    rw [e]
    cases decide (T - t ≤ lim) with
    | true => rfl
    | false =>
      simp only [cond_false, Bool.false_or]
      cases ((out.length : Int) == (l.length : Int)) with
      | true => rfl
      | false =>
        simp only [cond_false]
        have hf := fu_le t l
        have ha : (atR t (out, onl) l).1.length = out.length + (fu t l).length := by rw [atR_eq, List.length_append]
        refine guard_split ?_ (guard_split (decide_eq_true (show (n - (t + 1)).toNat < (n - t).toNat by omega)) (guard_split ?_ rfl))
        · rw [decT, cond_true]; exact decide_eq_true ⟨rfl, by omega, by omega, by omega, by omega⟩
        · rw [decT, cond_true]; exact decide_eq_true ⟨h1, h2, h3, h4, by omega, by omega, h7, by rw [ha]; omega⟩
  · have hk := of_decide_eq_false hk
    rw [show (n - t).toNat = 0 by omega]
    rfl
theorem in0 : CutOK Try.prog Try.f4.ntmps (codeAt 0 (bodyF Try.f4)) [9, 10, 11, 36, 37, 38] [10] (entC kLw cLw) :=
  loop_cutW (kill := killA 0 kLw) C5_ok mixed muLw (by kernel_rfl) (cutAt (id := 2) (by kernel_rfl) (by kernel_rfl) in2 (noCuts_ok _)) fun v h => q4l v.1.1.1 v.1.1.2 v.2.1.1 v.2.1.2 v.2.2.2.1.1 v.2.2.2.1.2 v.2.2.2.2.1 v.2.2.2.2.2.1 (bp_true.1 h)
theorem in5 : CutOK Try.prog Try.f4.ntmps (codeAt 5 (bodyF Try.f4)) [1, 17, 174, 175, 176] [17] (entC kOn (cOn 5)) := loop_cutW (kill := killA 0 kOn) C5_ok mixed muOn (by kernel_rfl) (noCuts_ok _) fun v h => q4o v.1 v.2.1.1 v.2.1.2 v.2.2.1.1 v.2.2.1.2 v.2.2.2.1 v.2.2.2.2.1 h
theorem in9 : CutOK Try.prog Try.f4.ntmps (codeAt 9 (bodyF Try.f4)) [20, 21, 213, 214, 215] [20] (entC kI9 cI9) := loop_cutW (kill := killA 0 kI9) C5_ok mixed muI9 (by kernel_rfl) (noCuts_ok _) fun v h => q4i v.1.1 v.1.2 v.2.1 v.2.2.1.1 v.2.2.1.2 v.2.2.2.1 v.2.2.2.2.1 h
theorem in7 : CutOK Try.prog Try.f4.ntmps (codeAt 7 (bodyF Try.f4)) [2, 3, 10, 20, 197, 198] [20] (entC kI7 cI7) := loop_cutW (kill := killA 0 kI7) C5_ok mixed muI7 (by kernel_rfl) (cutAt (id := 9) (by kernel_rfl) (by kernel_rfl) in9 (noCuts_ok _)) fun v h => q4t v.1 v.2.1 v.2.2.1.1 v.2.2.1.2 v.2.2.2.1.1 v.2.2.2.1.2 v.2.2.2.2.1 v.2.2.2.2.2.1 h
/-- A contract that asks more and says the same. -/
theorem cut_more {P : Program} {N : Nat} {c : Code} {ins outs : List Nat} {ks : List Shp} {spec spec' : SpecC ks} (h : ∀ v, (spec' v).1 = true → (spec v).1 = true ∧ (spec v).2 = (spec' v).2) (hC : CutOK P N c ins outs (entC ks spec)) : CutOK P N c ins outs (entC ks spec') := by
  intro xs H alts he
  refine hC xs H alts ?_
  unfold entC at he ⊢
  split at he
  · rename_i v bs gs hp
    unfold entC2 at he ⊢
    obtain ⟨h1, h2⟩ := Prod.mk.inj (Option.some.inj he)
    rw [Bool.and_eq_true] at h1
    obtain ⟨g1, g2⟩ := allB_true h1.2
    obtain ⟨f1, f2⟩ := h v g2
    rw [f1, f2, ← h2]
    rw [g2] at h1
    congr 2
    rw [h1.1, h1.2]; rfl
  · cases he
theorem in0K (s : SM) : CutOK Try.prog Try.f4.ntmps (codeAt 0 (bodyF Try.f4)) [9, 10, 11, 36, 37, 38] [10] (entC kLw (cLwK s)) := by
  refine cut_more (fun v h => ?_) in0
  obtain ⟨h1, h2⟩ := bp_true.1 h
  refine ⟨h1, ?_⟩
  subst h2
  rfl
end Go.Proofs.YtokephobkllfgaaCn
