/- What is proved: what the checks of frames and their two encodings answer. No condition. -/
import Derived.Test.YtacdahpjmeianaaTwi4
namespace Go.Proofs.YtacdahpjmeianaaWi
open Go Go.Proofs Go.Proofs.YtacdahpjmeianaaEv Go.Proofs.YtacdahpjmeianaaFl
set_option maxRecDepth 100000
set_option maxHeartbeats 4000000
set_option linter.unusedVariables false
set_option linter.unusedSimpArgs false
noncomputable abbrev w54aL (a0 : Int) (a1 : Int) (a2 : List (Int × Int × Int × Int × Int × Int)) (a3 : Bool) (a4 : List (Int × Int × Int × Int × Int × Int)) (a5 : Bool) (a6 : Int) (a7 : Int) := evRound Try.prog W2 noCuts 44 (loopOf (codeAt 1 (bodyF Try.f54))) kCk muCk (killA 0 kCk) [1, 31, 32, 33] [2] cCh ((a0, (a1, ((a2, a3), ()))), ((a4, a5), (a6, (a7, ()))))
theorem w54a (a0 : Int) (a1 : Int) (a2 : List (Int × Int × Int × Int × Int × Int)) (a3 : Bool) (a4 : List (Int × Int × Int × Int × Int × Int)) (a5 : Bool) (a6 : Int) (a7 : Int) : w54aL a0 a1 a2 a3 a4 a5 a6 a7 = (bif decide (a7 < a6) then
  guardB (decide (0 ≤ a7) && decide (a7 < (↑a4.length : Int)))
    (bindO a4[0 + a7.toNat]? fun x =>
      guardB (bif decide (0 + a2.length ≤ a2.length) then true else false)
        (bif pltE a0 a1 x != 0 then
          some
            (Xt.ret, [PV.sc (Value.int IntKind.i64 (pltE a0 a1 x))],
              [Blk.fix true
                  [PV.sc (Value.int IntKind.i64 a0), PV.sc (Value.int IntKind.i64 a1),
                    PV.sl 1 0 6 a2.length a2.length false a3],
                Blk.row false
                  ((Kd.int IntKind.i64).pair
                    ((Kd.int IntKind.i64).pair
                      ((Kd.int IntKind.i64).pair
                        ((Kd.int IntKind.i64).pair ((Kd.int IntKind.i64).pair (Kd.int IntKind.i64))))))
                  a2,
                Blk.row false
                  ((Kd.int IntKind.i64).pair
                    ((Kd.int IntKind.i64).pair
                      ((Kd.int IntKind.i64).pair
                        ((Kd.int IntKind.i64).pair ((Kd.int IntKind.i64).pair (Kd.int IntKind.i64))))))
                  a4])
        else
          guardB
            (decide
              (muCk
                  ((a0, a1, (List.take a2.length a2, a3), ()), (List.take a4.length a4, a5), a6,
                    IntKind.i64.wrap (a7 + 1), ()) <
                muCk ((a0, a1, (a2, a3), ()), (a4, a5), a6, a7, ())))
            (guardB
              (bif decide (0 + a2.length ≤ a2.length) then
                bif decide (0 + a4.length ≤ a4.length) then
                  preCk (List.take a4.length a4) a6 (IntKind.i64.wrap (a7 + 1))
                else false
              else false)
              (bif pltsE a0 a1 (List.drop (IntKind.i64.wrap (a7 + 1)).toNat (List.take a4.length a4)) != 0 then
                some
                  (Xt.ret,
                    [PV.sc
                        (Value.int IntKind.i64
                          (pltsE a0 a1 (List.drop (IntKind.i64.wrap (a7 + 1)).toNat (List.take a4.length a4))))],
                    [Blk.fix true
                        [PV.sc (Value.int IntKind.i64 a0), PV.sc (Value.int IntKind.i64 a1),
                          PV.sl 1 0 6 (List.take a2.length a2).length (List.take a2.length a2).length false a3],
                      Blk.row false
                        ((Kd.int IntKind.i64).pair
                          ((Kd.int IntKind.i64).pair
                            ((Kd.int IntKind.i64).pair
                              ((Kd.int IntKind.i64).pair ((Kd.int IntKind.i64).pair (Kd.int IntKind.i64))))))
                        a2,
                      Blk.row false
                        ((Kd.int IntKind.i64).pair
                          ((Kd.int IntKind.i64).pair
                            ((Kd.int IntKind.i64).pair
                              ((Kd.int IntKind.i64).pair ((Kd.int IntKind.i64).pair (Kd.int IntKind.i64))))))
                        a4])
              else
                some
                  (Xt.exit 1, [PV.undef],
                    [Blk.fix true
                        [PV.sc (Value.int IntKind.i64 a0), PV.sc (Value.int IntKind.i64 a1),
                          PV.sl 1 0 6 (List.take a2.length a2).length (List.take a2.length a2).length false a3],
                      Blk.row false
                        ((Kd.int IntKind.i64).pair
                          ((Kd.int IntKind.i64).pair
                            ((Kd.int IntKind.i64).pair
                              ((Kd.int IntKind.i64).pair ((Kd.int IntKind.i64).pair (Kd.int IntKind.i64))))))
                        a2,
                      Blk.row false
                        ((Kd.int IntKind.i64).pair
                          ((Kd.int IntKind.i64).pair
                            ((Kd.int IntKind.i64).pair
                              ((Kd.int IntKind.i64).pair ((Kd.int IntKind.i64).pair (Kd.int IntKind.i64))))))
                        a4])))))
else
  some
    (Xt.exit 1, [PV.undef],
      [Blk.fix true
          [PV.sc (Value.int IntKind.i64 a0), PV.sc (Value.int IntKind.i64 a1),
            PV.sl 1 0 6 a2.length a2.length false a3],
        Blk.row false
          ((Kd.int IntKind.i64).pair
            ((Kd.int IntKind.i64).pair
              ((Kd.int IntKind.i64).pair ((Kd.int IntKind.i64).pair ((Kd.int IntKind.i64).pair (Kd.int IntKind.i64))))))
          a2,
        Blk.row false
          ((Kd.int IntKind.i64).pair
            ((Kd.int IntKind.i64).pair
              ((Kd.int IntKind.i64).pair ((Kd.int IntKind.i64).pair ((Kd.int IntKind.i64).pair (Kd.int IntKind.i64))))))
          a4])) := by kernel_rfl
noncomputable abbrev w54L (a0 : Int) (a1 : Int) (a2 : List (Int × Int × Int × Int × Int × Int)) (a3 : Bool) := evFuncV Try.prog W2 (addCut 1 [1, 31, 32, 33] [2] (entC kCk cCh) noCuts) Try.f54 (killA 0 [aF]) (showA 0 [aF] ((a0, (a1, ((a2, a3), ()))), ())).1 (showA 0 [aF] ((a0, (a1, ((a2, a3), ()))), ())).2
theorem w54 (a0 : Int) (a1 : Int) (a2 : List (Int × Int × Int × Int × Int × Int)) (a3 : Bool) : w54L a0 a1 a2 a3 = (bif decide ((↑a2.length : Int) > 32) then
  some
    (PV.sc (Value.int IntKind.i64 2),
      [Blk.row false
          ((Kd.int IntKind.i64).pair
            ((Kd.int IntKind.i64).pair
              ((Kd.int IntKind.i64).pair ((Kd.int IntKind.i64).pair ((Kd.int IntKind.i64).pair (Kd.int IntKind.i64))))))
          a2])
else
  bif decide (a0 < 0) then
    some
      (PV.sc (Value.int IntKind.i64 4),
        [Blk.row false
            ((Kd.int IntKind.i64).pair
              ((Kd.int IntKind.i64).pair
                ((Kd.int IntKind.i64).pair
                  ((Kd.int IntKind.i64).pair ((Kd.int IntKind.i64).pair (Kd.int IntKind.i64))))))
            a2])
  else
    bif decide (a0 > 255) then
      some
        (PV.sc (Value.int IntKind.i64 4),
          [Blk.row false
              ((Kd.int IntKind.i64).pair
                ((Kd.int IntKind.i64).pair
                  ((Kd.int IntKind.i64).pair
                    ((Kd.int IntKind.i64).pair ((Kd.int IntKind.i64).pair (Kd.int IntKind.i64))))))
              a2])
    else
      bif decide (a1 < 0) then
        some
          (PV.sc (Value.int IntKind.i64 4),
            [Blk.row false
                ((Kd.int IntKind.i64).pair
                  ((Kd.int IntKind.i64).pair
                    ((Kd.int IntKind.i64).pair
                      ((Kd.int IntKind.i64).pair ((Kd.int IntKind.i64).pair (Kd.int IntKind.i64))))))
                a2])
      else
        bif decide (a1 > 200000) then
          some
            (PV.sc (Value.int IntKind.i64 4),
              [Blk.row false
                  ((Kd.int IntKind.i64).pair
                    ((Kd.int IntKind.i64).pair
                      ((Kd.int IntKind.i64).pair
                        ((Kd.int IntKind.i64).pair ((Kd.int IntKind.i64).pair (Kd.int IntKind.i64))))))
                  a2])
        else
          guardB
            (bif decide (0 + a2.length ≤ a2.length) then
              bif decide (0 + a2.length ≤ a2.length) then preCk (List.take a2.length a2) (↑a2.length : Int) 0 else false
            else false)
            (bif pltsE a0 a1 (List.drop (Int.toNat 0) (List.take a2.length a2)) != 0 then
              some
                (PV.sc (Value.int IntKind.i64 (pltsE a0 a1 (List.drop (Int.toNat 0) (List.take a2.length a2)))),
                  [Blk.row false
                      ((Kd.int IntKind.i64).pair
                        ((Kd.int IntKind.i64).pair
                          ((Kd.int IntKind.i64).pair
                            ((Kd.int IntKind.i64).pair ((Kd.int IntKind.i64).pair (Kd.int IntKind.i64))))))
                      a2])
            else
              some
                (PV.sc (Value.int IntKind.i64 0),
                  [Blk.row false
                      ((Kd.int IntKind.i64).pair
                        ((Kd.int IntKind.i64).pair
                          ((Kd.int IntKind.i64).pair
                            ((Kd.int IntKind.i64).pair ((Kd.int IntKind.i64).pair (Kd.int IntKind.i64))))))
                      a2]))) := by kernel_rfl
noncomputable abbrev w53aL (a0 : Int) (a1 : Int) (a2 : List (Int × Int × Int × Int × Int × Int)) (a3 : Bool) (a4 : List (Int × Int × Int × Int × Int × Int)) (a5 : Bool) (a6 : Int) (a7 : Int) := evRound Try.prog W2 noCuts 45 (loopOf (codeAt 0 (bodyF Try.f53))) kCk muCk (killA 0 kCk) [1, 21, 22, 23] [2] cFe ((a0, (a1, ((a2, a3), ()))), ((a4, a5), (a6, (a7, ()))))
theorem w53a (a0 : Int) (a1 : Int) (a2 : List (Int × Int × Int × Int × Int × Int)) (a3 : Bool) (a4 : List (Int × Int × Int × Int × Int × Int)) (a5 : Bool) (a6 : Int) (a7 : Int) : w53aL a0 a1 a2 a3 a4 a5 a6 a7 = (bif decide (a7 < a6) then
  guardB (decide (0 ≤ a7) && decide (a7 < (↑a4.length : Int)))
    (bindO a4[0 + a7.toNat]? fun x =>
      bif x.fst != a0 then
        some
          (Xt.ret, [PV.sc (Value.int IntKind.i64 3)],
            [Blk.fix true
                [PV.sc (Value.int IntKind.i64 a0), PV.sc (Value.int IntKind.i64 a1),
                  PV.sl 1 0 6 a2.length a2.length false a3],
              Blk.row false
                ((Kd.int IntKind.i64).pair
                  ((Kd.int IntKind.i64).pair
                    ((Kd.int IntKind.i64).pair
                      ((Kd.int IntKind.i64).pair ((Kd.int IntKind.i64).pair (Kd.int IntKind.i64))))))
                a2,
              Blk.row false
                ((Kd.int IntKind.i64).pair
                  ((Kd.int IntKind.i64).pair
                    ((Kd.int IntKind.i64).pair
                      ((Kd.int IntKind.i64).pair ((Kd.int IntKind.i64).pair (Kd.int IntKind.i64))))))
                a4])
      else
        bif x.snd.fst != a1 then
          some
            (Xt.ret, [PV.sc (Value.int IntKind.i64 3)],
              [Blk.fix true
                  [PV.sc (Value.int IntKind.i64 a0), PV.sc (Value.int IntKind.i64 a1),
                    PV.sl 1 0 6 a2.length a2.length false a3],
                Blk.row false
                  ((Kd.int IntKind.i64).pair
                    ((Kd.int IntKind.i64).pair
                      ((Kd.int IntKind.i64).pair
                        ((Kd.int IntKind.i64).pair ((Kd.int IntKind.i64).pair (Kd.int IntKind.i64))))))
                  a2,
                Blk.row false
                  ((Kd.int IntKind.i64).pair
                    ((Kd.int IntKind.i64).pair
                      ((Kd.int IntKind.i64).pair
                        ((Kd.int IntKind.i64).pair ((Kd.int IntKind.i64).pair (Kd.int IntKind.i64))))))
                  a4])
        else
          bif pE x != 0 then
            some
              (Xt.ret, [PV.sc (Value.int IntKind.i64 (pE x))],
                [Blk.fix true
                    [PV.sc (Value.int IntKind.i64 a0), PV.sc (Value.int IntKind.i64 a1),
                      PV.sl 1 0 6 a2.length a2.length false a3],
                  Blk.row false
                    ((Kd.int IntKind.i64).pair
                      ((Kd.int IntKind.i64).pair
                        ((Kd.int IntKind.i64).pair
                          ((Kd.int IntKind.i64).pair ((Kd.int IntKind.i64).pair (Kd.int IntKind.i64))))))
                    a2,
                  Blk.row false
                    ((Kd.int IntKind.i64).pair
                      ((Kd.int IntKind.i64).pair
                        ((Kd.int IntKind.i64).pair
                          ((Kd.int IntKind.i64).pair ((Kd.int IntKind.i64).pair (Kd.int IntKind.i64))))))
                    a4])
          else
            guardB
              (decide
                (muCk
                    ((a0, a1, (List.take a2.length a2, a3), ()), (List.take a4.length a4, a5), a6,
                      IntKind.i64.wrap (a7 + 1), ()) <
                  muCk ((a0, a1, (a2, a3), ()), (a4, a5), a6, a7, ())))
              (guardB
                (bif decide (0 + a2.length ≤ a2.length) then
                  bif decide (0 + a4.length ≤ a4.length) then
                    preCk (List.take a4.length a4) a6 (IntKind.i64.wrap (a7 + 1)) && (inS a0 0 255 && inS a1 0 200000)
                  else false
                else false)
                (bif pltsE a0 a1 (List.drop (IntKind.i64.wrap (a7 + 1)).toNat (List.take a4.length a4)) != 0 then
                  some
                    (Xt.ret,
                      [PV.sc
                          (Value.int IntKind.i64
                            (pltsE a0 a1 (List.drop (IntKind.i64.wrap (a7 + 1)).toNat (List.take a4.length a4))))],
                      [Blk.fix true
                          [PV.sc (Value.int IntKind.i64 a0), PV.sc (Value.int IntKind.i64 a1),
                            PV.sl 1 0 6 (List.take a2.length a2).length (List.take a2.length a2).length false a3],
                        Blk.row false
                          ((Kd.int IntKind.i64).pair
                            ((Kd.int IntKind.i64).pair
                              ((Kd.int IntKind.i64).pair
                                ((Kd.int IntKind.i64).pair ((Kd.int IntKind.i64).pair (Kd.int IntKind.i64))))))
                          a2,
                        Blk.row false
                          ((Kd.int IntKind.i64).pair
                            ((Kd.int IntKind.i64).pair
                              ((Kd.int IntKind.i64).pair
                                ((Kd.int IntKind.i64).pair ((Kd.int IntKind.i64).pair (Kd.int IntKind.i64))))))
                          a4])
                else
                  some
                    (Xt.exit 0, [PV.undef],
                      [Blk.fix true
                          [PV.sc (Value.int IntKind.i64 a0), PV.sc (Value.int IntKind.i64 a1),
                            PV.sl 1 0 6 (List.take a2.length a2).length (List.take a2.length a2).length false a3],
                        Blk.row false
                          ((Kd.int IntKind.i64).pair
                            ((Kd.int IntKind.i64).pair
                              ((Kd.int IntKind.i64).pair
                                ((Kd.int IntKind.i64).pair ((Kd.int IntKind.i64).pair (Kd.int IntKind.i64))))))
                          a2,
                        Blk.row false
                          ((Kd.int IntKind.i64).pair
                            ((Kd.int IntKind.i64).pair
                              ((Kd.int IntKind.i64).pair
                                ((Kd.int IntKind.i64).pair ((Kd.int IntKind.i64).pair (Kd.int IntKind.i64))))))
                          a4]))))
else
  some
    (Xt.exit 0, [PV.undef],
      [Blk.fix true
          [PV.sc (Value.int IntKind.i64 a0), PV.sc (Value.int IntKind.i64 a1),
            PV.sl 1 0 6 a2.length a2.length false a3],
        Blk.row false
          ((Kd.int IntKind.i64).pair
            ((Kd.int IntKind.i64).pair
              ((Kd.int IntKind.i64).pair ((Kd.int IntKind.i64).pair ((Kd.int IntKind.i64).pair (Kd.int IntKind.i64))))))
          a2,
        Blk.row false
          ((Kd.int IntKind.i64).pair
            ((Kd.int IntKind.i64).pair
              ((Kd.int IntKind.i64).pair ((Kd.int IntKind.i64).pair ((Kd.int IntKind.i64).pair (Kd.int IntKind.i64))))))
          a4])) := by kernel_rfl
noncomputable abbrev w53L (a0 : Int) (a1 : Int) (a2 : List (Int × Int × Int × Int × Int × Int)) (a3 : Bool) := evFuncV Try.prog W2 (addCut 0 [1, 21, 22, 23] [2] (entC kCk cFe) noCuts) Try.f53 (killA 0 [aF]) (showA 0 [aF] ((a0, (a1, ((a2, a3), ()))), ())).1 (showA 0 [aF] ((a0, (a1, ((a2, a3), ()))), ())).2
theorem w53 (a0 : Int) (a1 : Int) (a2 : List (Int × Int × Int × Int × Int × Int)) (a3 : Bool) : w53L a0 a1 a2 a3 = (bif decide ((↑a2.length : Int) > 32) then
  some
    (PV.sc (Value.int IntKind.i64 2),
      [Blk.row false
          ((Kd.int IntKind.i64).pair
            ((Kd.int IntKind.i64).pair
              ((Kd.int IntKind.i64).pair ((Kd.int IntKind.i64).pair ((Kd.int IntKind.i64).pair (Kd.int IntKind.i64))))))
          a2])
else
  bif !inS a0 0 255 then
    some
      (PV.sc (Value.int IntKind.i64 4),
        [Blk.row false
            ((Kd.int IntKind.i64).pair
              ((Kd.int IntKind.i64).pair
                ((Kd.int IntKind.i64).pair
                  ((Kd.int IntKind.i64).pair ((Kd.int IntKind.i64).pair (Kd.int IntKind.i64))))))
            a2])
  else
    bif !inS a1 0 200000 then
      some
        (PV.sc (Value.int IntKind.i64 4),
          [Blk.row false
              ((Kd.int IntKind.i64).pair
                ((Kd.int IntKind.i64).pair
                  ((Kd.int IntKind.i64).pair
                    ((Kd.int IntKind.i64).pair ((Kd.int IntKind.i64).pair (Kd.int IntKind.i64))))))
              a2])
    else
      guardB
        (bif decide (0 + a2.length ≤ a2.length) then
          bif decide (0 + a2.length ≤ a2.length) then
            preCk (List.take a2.length a2) (↑a2.length : Int) 0 && (inS a0 0 255 && inS a1 0 200000)
          else false
        else false)
        (bif pltsE a0 a1 (List.drop (Int.toNat 0) (List.take a2.length a2)) != 0 then
          some
            (PV.sc (Value.int IntKind.i64 (pltsE a0 a1 (List.drop (Int.toNat 0) (List.take a2.length a2)))),
              [Blk.row false
                  ((Kd.int IntKind.i64).pair
                    ((Kd.int IntKind.i64).pair
                      ((Kd.int IntKind.i64).pair
                        ((Kd.int IntKind.i64).pair ((Kd.int IntKind.i64).pair (Kd.int IntKind.i64))))))
                  a2])
        else
          some
            (PV.sc (Value.int IntKind.i64 0),
              [Blk.row false
                  ((Kd.int IntKind.i64).pair
                    ((Kd.int IntKind.i64).pair
                      ((Kd.int IntKind.i64).pair
                        ((Kd.int IntKind.i64).pair ((Kd.int IntKind.i64).pair (Kd.int IntKind.i64))))))
                  a2]))) := by kernel_rfl
noncomputable abbrev w51aL (a0 : List Int) (a1 : Bool) (a2 : List (Int × Int × Int × Int × Int × Int)) (a3 : Bool) (a4 : Int) (a5 : Int) := evRound Try.prog W3 noCuts 73 (loopOf (codeAt 0 (bodyF Try.f51))) kEn muEn (killA 0 kEn) [5, 34, 35, 36] [5] cEn ((a0, a1), ((a2, a3), (a4, (a5, ()))))
theorem w51a (a0 : List Int) (a1 : Bool) (a2 : List (Int × Int × Int × Int × Int × Int)) (a3 : Bool) (a4 : Int) (a5 : Int) : w51aL a0 a1 a2 a3 a4 a5 = (bif decide (a5 < a4) then
  guardB (decide (0 ≤ a5) && decide (a5 < (↑a2.length : Int)))
    (bindO a2[0 + a5.toNat]? fun x =>
      guardB (decide (0 ≤ x.snd.snd.fst ∧ x.snd.snd.fst ≤ 2000000 ∧ (0 : Int) = 0))
        (guardB
          (bif decide (a0.length = a0.length) then
            decide (0 ≤ (↑(fbits x.snd.snd.fst) : Int) ∧ (1 : Int) ≤ 8 ∧ (8 : Int) ≤ 8 ∧ a0.length ≤ 100000)
          else false)
          (guardB
            (bif
                decide
                  ((a0 ++ putB (↑(fbits x.snd.snd.fst) : Int) 8).length =
                    (a0 ++ putB (↑(fbits x.snd.snd.fst) : Int) 8).length) then
              decide
                (0 ≤ IntKind.u64.wrap x.snd.snd.snd.fst ∧
                  (1 : Int) ≤ 2 ∧ (2 : Int) ≤ 8 ∧ (a0 ++ putB (↑(fbits x.snd.snd.fst) : Int) 8).length ≤ 100000)
            else false)
            (guardB
              (bif
                  decide
                    ((a0 ++ putB (↑(fbits x.snd.snd.fst) : Int) 8 ++
                          putB (IntKind.u64.wrap x.snd.snd.snd.fst) 2).length =
                      (a0 ++ putB (↑(fbits x.snd.snd.fst) : Int) 8 ++
                          putB (IntKind.u64.wrap x.snd.snd.snd.fst) 2).length) then
                decide
                  (0 ≤ IntKind.u64.wrap x.snd.snd.snd.snd.fst ∧
                    (1 : Int) ≤ 4 ∧
                      (4 : Int) ≤ 8 ∧
                        (a0 ++ putB (↑(fbits x.snd.snd.fst) : Int) 8 ++
                              putB (IntKind.u64.wrap x.snd.snd.snd.fst) 2).length ≤
                          100000)
              else false)
              (guardB
                (bif
                    decide
                      ((a0 ++ putB (↑(fbits x.snd.snd.fst) : Int) 8 ++ putB (IntKind.u64.wrap x.snd.snd.snd.fst) 2 ++
                            putB (IntKind.u64.wrap x.snd.snd.snd.snd.fst) 4).length =
                        (a0 ++ putB (↑(fbits x.snd.snd.fst) : Int) 8 ++ putB (IntKind.u64.wrap x.snd.snd.snd.fst) 2 ++
                            putB (IntKind.u64.wrap x.snd.snd.snd.snd.fst) 4).length) then
                  decide
                    (0 ≤ IntKind.u64.wrap (IntKind.i64.wrap (x.snd.snd.snd.snd.snd + 1)) ∧
                      (1 : Int) ≤ 2 ∧
                        (2 : Int) ≤ 8 ∧
                          (a0 ++ putB (↑(fbits x.snd.snd.fst) : Int) 8 ++ putB (IntKind.u64.wrap x.snd.snd.snd.fst) 2 ++
                                putB (IntKind.u64.wrap x.snd.snd.snd.snd.fst) 4).length ≤
                            100000)
                else false)
                (guardB
                  (decide
                    (muEn
                        ((a0 ++ putB (↑(fbits x.snd.snd.fst) : Int) 8 ++ putB (IntKind.u64.wrap x.snd.snd.snd.fst) 2 ++
                                putB (IntKind.u64.wrap x.snd.snd.snd.snd.fst) 4 ++
                              putB (IntKind.u64.wrap (IntKind.i64.wrap (x.snd.snd.snd.snd.snd + 1))) 2,
                            false),
                          (List.take a2.length a2, a3), a4, IntKind.i64.wrap (a5 + 1), ()) <
                      muEn ((a0, a1), (a2, a3), a4, a5, ())))
                  (guardB
                    (bif
                        decide
                          ((a0 ++ putB (↑(fbits x.snd.snd.fst) : Int) 8 ++
                                    putB (IntKind.u64.wrap x.snd.snd.snd.fst) 2 ++
                                  putB (IntKind.u64.wrap x.snd.snd.snd.snd.fst) 4 ++
                                putB (IntKind.u64.wrap (IntKind.i64.wrap (x.snd.snd.snd.snd.snd + 1))) 2).length =
                            (a0 ++ putB (↑(fbits x.snd.snd.fst) : Int) 8 ++
                                    putB (IntKind.u64.wrap x.snd.snd.snd.fst) 2 ++
                                  putB (IntKind.u64.wrap x.snd.snd.snd.snd.fst) 4 ++
                                putB (IntKind.u64.wrap (IntKind.i64.wrap (x.snd.snd.snd.snd.snd + 1))) 2).length) then
                      bif decide (0 + a2.length ≤ a2.length) then
                        preCk (List.take a2.length a2) a4 (IntKind.i64.wrap (a5 + 1)) &&
                          (okP (List.take a2.length a2) &&
                            decide
                              ((↑(a0 ++ putB (↑(fbits x.snd.snd.fst) : Int) 8 ++
                                            putB (IntKind.u64.wrap x.snd.snd.snd.fst) 2 ++
                                          putB (IntKind.u64.wrap x.snd.snd.snd.snd.fst) 4 ++
                                        putB (IntKind.u64.wrap (IntKind.i64.wrap (x.snd.snd.snd.snd.snd + 1)))
                                          2).length :
                                  Int) ≤
                                1000 + 16 * IntKind.i64.wrap (a5 + 1)))
                      else false
                    else false)
                    (some
                      (Xt.exit 0,
                        [PV.sl 2 0 1
                            (a0 ++ putB (↑(fbits x.snd.snd.fst) : Int) 8 ++
                                      putB (IntKind.u64.wrap x.snd.snd.snd.fst) 2 ++
                                    putB (IntKind.u64.wrap x.snd.snd.snd.snd.fst) 4 ++
                                  putB (IntKind.u64.wrap (IntKind.i64.wrap (x.snd.snd.snd.snd.snd + 1))) 2 ++
                                List.flatMap pltB
                                  (List.drop (IntKind.i64.wrap (a5 + 1)).toNat (List.take a2.length a2))).length
                            (a0 ++ putB (↑(fbits x.snd.snd.fst) : Int) 8 ++
                                      putB (IntKind.u64.wrap x.snd.snd.snd.fst) 2 ++
                                    putB (IntKind.u64.wrap x.snd.snd.snd.snd.fst) 4 ++
                                  putB (IntKind.u64.wrap (IntKind.i64.wrap (x.snd.snd.snd.snd.snd + 1))) 2 ++
                                List.flatMap pltB
                                  (List.drop (IntKind.i64.wrap (a5 + 1)).toNat (List.take a2.length a2))).length
                            false (bif decide (IntKind.i64.wrap (a5 + 1) < a4) then false else false)],
                        [Blk.dead,
                          Blk.row false
                            ((Kd.int IntKind.i64).pair
                              ((Kd.int IntKind.i64).pair
                                ((Kd.int IntKind.i64).pair
                                  ((Kd.int IntKind.i64).pair ((Kd.int IntKind.i64).pair (Kd.int IntKind.i64))))))
                            a2,
                          Blk.row true (Kd.int IntKind.u8)
                            (a0 ++ putB (↑(fbits x.snd.snd.fst) : Int) 8 ++
                                    putB (IntKind.u64.wrap x.snd.snd.snd.fst) 2 ++
                                  putB (IntKind.u64.wrap x.snd.snd.snd.snd.fst) 4 ++
                                putB (IntKind.u64.wrap (IntKind.i64.wrap (x.snd.snd.snd.snd.snd + 1))) 2 ++
                              List.flatMap pltB
                                (List.drop (IntKind.i64.wrap (a5 + 1)).toNat (List.take a2.length a2)))])))))))))
else
  some
    (Xt.exit 0, [PV.sl 2 0 1 a0.length a0.length false a1],
      [Blk.dead,
        Blk.row false
          ((Kd.int IntKind.i64).pair
            ((Kd.int IntKind.i64).pair
              ((Kd.int IntKind.i64).pair ((Kd.int IntKind.i64).pair ((Kd.int IntKind.i64).pair (Kd.int IntKind.i64))))))
          a2,
        Blk.row true (Kd.int IntKind.u8) a0])) := by kernel_rfl
noncomputable abbrev w51L (a0 : Int) (a1 : Int) (a2 : List (Int × Int × Int × Int × Int × Int)) (a3 : Bool) := evFuncV Try.prog W3 (addCut 0 [5, 34, 35, 36] [5] (entC kEn cEn) noCuts) Try.f51 (killA 0 [aF]) (showA 0 [aF] ((a0, (a1, ((a2, a3), ()))), ())).1 (showA 0 [aF] ((a0, (a1, ((a2, a3), ()))), ())).2
theorem w51 (a0 : Int) (a1 : Int) (a2 : List (Int × Int × Int × Int × Int × Int)) (a3 : Bool) : w51L a0 a1 a2 a3 = (guardB
  (bif decide (0 + a2.length ≤ a2.length) then decide ((List.take a2.length a2).length ≤ 100000000000000) else false)
  (bif frmE a0 a1 (List.take a2.length a2) != 0 then
    some
      (PV.tup
          [PV.sc (Value.string (ByteArray.mk #[])),
            PV.sc (Value.int IntKind.i64 (frmE a0 a1 (List.take a2.length a2)))],
        [Blk.row false
            ((Kd.int IntKind.i64).pair
              ((Kd.int IntKind.i64).pair
                ((Kd.int IntKind.i64).pair
                  ((Kd.int IntKind.i64).pair ((Kd.int IntKind.i64).pair (Kd.int IntKind.i64))))))
            a2])
  else
    guardB (decide (0 ≤ IntKind.u64.wrap a1 ∧ (1 : Int) ≤ 4 ∧ (4 : Int) ≤ 8 ∧ [83, 87, byteAt (IntKind.u64.wrap a0) 0].length ≤ 100000))
      (guardB
        (bif
            decide
              (([83, 87, byteAt (IntKind.u64.wrap a0) 0] ++ putB (IntKind.u64.wrap a1) 4).length =
                ([83, 87, byteAt (IntKind.u64.wrap a0) 0] ++ putB (IntKind.u64.wrap a1) 4).length) then
          decide
            (0 ≤ IntKind.u64.wrap (↑a2.length : Int) ∧
              (1 : Int) ≤ 2 ∧
                (2 : Int) ≤ 8 ∧ ([83, 87, byteAt (IntKind.u64.wrap a0) 0] ++ putB (IntKind.u64.wrap a1) 4).length ≤ 100000)
        else false)
        (guardB
          (bif
              decide
                (([83, 87, byteAt (IntKind.u64.wrap a0) 0] ++ putB (IntKind.u64.wrap a1) 4 ++
                      putB (IntKind.u64.wrap (↑a2.length : Int)) 2).length =
                  ([83, 87, byteAt (IntKind.u64.wrap a0) 0] ++ putB (IntKind.u64.wrap a1) 4 ++
                      putB (IntKind.u64.wrap (↑a2.length : Int)) 2).length) then
            bif decide (0 + a2.length ≤ a2.length) then
              preCk (List.take a2.length a2) (↑a2.length : Int) 0 &&
                (okP (List.take a2.length a2) &&
                  decide
                    ((↑([83, 87, byteAt (IntKind.u64.wrap a0) 0] ++ putB (IntKind.u64.wrap a1) 4 ++
                              putB (IntKind.u64.wrap (↑a2.length : Int)) 2).length :
                        Int) ≤
                      1000 + 16 * 0))
            else false
          else false)
          (guardB
            (decide
              (0 +
                  ([83, 87, byteAt (IntKind.u64.wrap a0) 0] ++ putB (IntKind.u64.wrap a1) 4 ++
                        putB (IntKind.u64.wrap (↑a2.length : Int)) 2 ++
                      List.flatMap pltB (List.drop (Int.toNat 0) (List.take a2.length a2))).length ≤
                ([83, 87, byteAt (IntKind.u64.wrap a0) 0] ++ putB (IntKind.u64.wrap a1) 4 ++
                      putB (IntKind.u64.wrap (↑a2.length : Int)) 2 ++
                    List.flatMap pltB (List.drop (Int.toNat 0) (List.take a2.length a2))).length))
            (guardB
              (decide
                ((strOfNums
                      (List.take
                        ([83, 87, byteAt (IntKind.u64.wrap a0) 0] ++ putB (IntKind.u64.wrap a1) 4 ++
                              putB (IntKind.u64.wrap (↑a2.length : Int)) 2 ++
                            List.flatMap pltB (List.drop (Int.toNat 0) (List.take a2.length a2))).length
                        (List.drop 0
                          ([83, 87, byteAt (IntKind.u64.wrap a0) 0] ++ putB (IntKind.u64.wrap a1) 4 ++
                              putB (IntKind.u64.wrap (↑a2.length : Int)) 2 ++
                            List.flatMap pltB (List.drop (Int.toNat 0) (List.take a2.length a2)))))).size ≤
                  4000))
              (guardB
                (bif
                    decide
                      (([83, 87, byteAt (IntKind.u64.wrap a0) 0] ++ putB (IntKind.u64.wrap a1) 4 ++
                              putB (IntKind.u64.wrap (↑a2.length : Int)) 2 ++
                            List.flatMap pltB (List.drop (Int.toNat 0) (List.take a2.length a2))).length =
                        ([83, 87, byteAt (IntKind.u64.wrap a0) 0] ++ putB (IntKind.u64.wrap a1) 4 ++
                              putB (IntKind.u64.wrap (↑a2.length : Int)) 2 ++
                            List.flatMap pltB (List.drop (Int.toNat 0) (List.take a2.length a2))).length) then
                  decide
                    (0 ≤
                        IntKind.u64.wrap
                          ((sumR 0 0
                                  (bytesI
                                    (strOfNums
                                      (List.take
                                        ([83, 87, byteAt (IntKind.u64.wrap a0) 0] ++ putB (IntKind.u64.wrap a1) 4 ++
                                              putB (IntKind.u64.wrap (↑a2.length : Int)) 2 ++
                                            List.flatMap pltB (List.drop (Int.toNat 0) (List.take a2.length a2))).length
                                        (List.drop 0
                                          ([83, 87, byteAt (IntKind.u64.wrap a0) 0] ++ putB (IntKind.u64.wrap a1) 4 ++
                                              putB (IntKind.u64.wrap (↑a2.length : Int)) 2 ++
                                            List.flatMap pltB
                                              (List.drop (Int.toNat 0) (List.take a2.length a2)))))))).snd *
                              256 +
                            (sumR 0 0
                                (bytesI
                                  (strOfNums
                                    (List.take
                                      ([83, 87, byteAt (IntKind.u64.wrap a0) 0] ++ putB (IntKind.u64.wrap a1) 4 ++
                                            putB (IntKind.u64.wrap (↑a2.length : Int)) 2 ++
                                          List.flatMap pltB (List.drop (Int.toNat 0) (List.take a2.length a2))).length
                                      (List.drop 0
                                        ([83, 87, byteAt (IntKind.u64.wrap a0) 0] ++ putB (IntKind.u64.wrap a1) 4 ++
                                            putB (IntKind.u64.wrap (↑a2.length : Int)) 2 ++
                                          List.flatMap pltB
                                            (List.drop (Int.toNat 0) (List.take a2.length a2)))))))).fst) ∧
                      (1 : Int) ≤ 2 ∧
                        (2 : Int) ≤ 8 ∧
                          ([83, 87, byteAt (IntKind.u64.wrap a0) 0] ++ putB (IntKind.u64.wrap a1) 4 ++
                                  putB (IntKind.u64.wrap (↑a2.length : Int)) 2 ++
                                List.flatMap pltB (List.drop (Int.toNat 0) (List.take a2.length a2))).length ≤
                            100000)
                else false)
                (guardB
                  (decide
                    (0 +
                        ([83, 87, byteAt (IntKind.u64.wrap a0) 0] ++ putB (IntKind.u64.wrap a1) 4 ++
                                putB (IntKind.u64.wrap (↑a2.length : Int)) 2 ++
                              List.flatMap pltB (List.drop (Int.toNat 0) (List.take a2.length a2)) ++
                            putB
                              (IntKind.u64.wrap
                                ((sumR 0 0
                                        (bytesI
                                          (strOfNums
                                            (List.take
                                              ([83, 87, byteAt (IntKind.u64.wrap a0) 0] ++
                                                      putB (IntKind.u64.wrap a1) 4 ++
                                                    putB (IntKind.u64.wrap (↑a2.length : Int)) 2 ++
                                                  List.flatMap pltB
                                                    (List.drop (Int.toNat 0) (List.take a2.length a2))).length
                                              (List.drop 0
                                                ([83, 87, byteAt (IntKind.u64.wrap a0) 0] ++
                                                      putB (IntKind.u64.wrap a1) 4 ++
                                                    putB (IntKind.u64.wrap (↑a2.length : Int)) 2 ++
                                                  List.flatMap pltB
                                                    (List.drop (Int.toNat 0) (List.take a2.length a2)))))))).snd *
                                    256 +
                                  (sumR 0 0
                                      (bytesI
                                        (strOfNums
                                          (List.take
                                            ([83, 87, byteAt (IntKind.u64.wrap a0) 0] ++ putB (IntKind.u64.wrap a1) 4 ++
                                                  putB (IntKind.u64.wrap (↑a2.length : Int)) 2 ++
                                                List.flatMap pltB
                                                  (List.drop (Int.toNat 0) (List.take a2.length a2))).length
                                            (List.drop 0
                                              ([83, 87, byteAt (IntKind.u64.wrap a0) 0] ++
                                                    putB (IntKind.u64.wrap a1) 4 ++
                                                  putB (IntKind.u64.wrap (↑a2.length : Int)) 2 ++
                                                List.flatMap pltB
                                                  (List.drop (Int.toNat 0) (List.take a2.length a2)))))))).fst))
                              2).length ≤
                      ([83, 87, byteAt (IntKind.u64.wrap a0) 0] ++ putB (IntKind.u64.wrap a1) 4 ++
                              putB (IntKind.u64.wrap (↑a2.length : Int)) 2 ++
                            List.flatMap pltB (List.drop (Int.toNat 0) (List.take a2.length a2)) ++
                          putB
                            (IntKind.u64.wrap
                              ((sumR 0 0
                                      (bytesI
                                        (strOfNums
                                          (List.take
                                            ([83, 87, byteAt (IntKind.u64.wrap a0) 0] ++ putB (IntKind.u64.wrap a1) 4 ++
                                                  putB (IntKind.u64.wrap (↑a2.length : Int)) 2 ++
                                                List.flatMap pltB
                                                  (List.drop (Int.toNat 0) (List.take a2.length a2))).length
                                            (List.drop 0
                                              ([83, 87, byteAt (IntKind.u64.wrap a0) 0] ++
                                                    putB (IntKind.u64.wrap a1) 4 ++
                                                  putB (IntKind.u64.wrap (↑a2.length : Int)) 2 ++
                                                List.flatMap pltB
                                                  (List.drop (Int.toNat 0) (List.take a2.length a2)))))))).snd *
                                  256 +
                                (sumR 0 0
                                    (bytesI
                                      (strOfNums
                                        (List.take
                                          ([83, 87, byteAt (IntKind.u64.wrap a0) 0] ++ putB (IntKind.u64.wrap a1) 4 ++
                                                putB (IntKind.u64.wrap (↑a2.length : Int)) 2 ++
                                              List.flatMap pltB
                                                (List.drop (Int.toNat 0) (List.take a2.length a2))).length
                                          (List.drop 0
                                            ([83, 87, byteAt (IntKind.u64.wrap a0) 0] ++ putB (IntKind.u64.wrap a1) 4 ++
                                                putB (IntKind.u64.wrap (↑a2.length : Int)) 2 ++
                                              List.flatMap pltB
                                                (List.drop (Int.toNat 0) (List.take a2.length a2)))))))).fst))
                            2).length))
                  (some
                    (PV.tup
                        [PV.sc
                            (Value.string
                              (strOfNums
                                (List.take
                                  ([83, 87, byteAt (IntKind.u64.wrap a0) 0] ++ putB (IntKind.u64.wrap a1) 4 ++
                                          putB (IntKind.u64.wrap (↑a2.length : Int)) 2 ++
                                        List.flatMap pltB (List.drop (Int.toNat 0) (List.take a2.length a2)) ++
                                      putB
                                        (IntKind.u64.wrap
                                          ((sumR 0 0
                                                  (bytesI
                                                    (strOfNums
                                                      (List.take
                                                        ([83, 87, byteAt (IntKind.u64.wrap a0) 0] ++
                                                                putB (IntKind.u64.wrap a1) 4 ++
                                                              putB (IntKind.u64.wrap (↑a2.length : Int)) 2 ++
                                                            List.flatMap pltB
                                                              (List.drop (Int.toNat 0) (List.take a2.length a2))).length
                                                        (List.drop 0
                                                          ([83, 87, byteAt (IntKind.u64.wrap a0) 0] ++
                                                                putB (IntKind.u64.wrap a1) 4 ++
                                                              putB (IntKind.u64.wrap (↑a2.length : Int)) 2 ++
                                                            List.flatMap pltB
                                                              (List.drop (Int.toNat 0)
                                                                (List.take a2.length a2)))))))).snd *
                                              256 +
                                            (sumR 0 0
                                                (bytesI
                                                  (strOfNums
                                                    (List.take
                                                      ([83, 87, byteAt (IntKind.u64.wrap a0) 0] ++
                                                              putB (IntKind.u64.wrap a1) 4 ++
                                                            putB (IntKind.u64.wrap (↑a2.length : Int)) 2 ++
                                                          List.flatMap pltB
                                                            (List.drop (Int.toNat 0) (List.take a2.length a2))).length
                                                      (List.drop 0
                                                        ([83, 87, byteAt (IntKind.u64.wrap a0) 0] ++
                                                              putB (IntKind.u64.wrap a1) 4 ++
                                                            putB (IntKind.u64.wrap (↑a2.length : Int)) 2 ++
                                                          List.flatMap pltB
                                                            (List.drop (Int.toNat 0)
                                                              (List.take a2.length a2)))))))).fst))
                                        2).length
                                  (List.drop 0
                                    ([83, 87, byteAt (IntKind.u64.wrap a0) 0] ++ putB (IntKind.u64.wrap a1) 4 ++
                                          putB (IntKind.u64.wrap (↑a2.length : Int)) 2 ++
                                        List.flatMap pltB (List.drop (Int.toNat 0) (List.take a2.length a2)) ++
                                      putB
                                        (IntKind.u64.wrap
                                          ((sumR 0 0
                                                  (bytesI
                                                    (strOfNums
                                                      (List.take
                                                        ([83, 87, byteAt (IntKind.u64.wrap a0) 0] ++
                                                                putB (IntKind.u64.wrap a1) 4 ++
                                                              putB (IntKind.u64.wrap (↑a2.length : Int)) 2 ++
                                                            List.flatMap pltB
                                                              (List.drop (Int.toNat 0) (List.take a2.length a2))).length
                                                        (List.drop 0
                                                          ([83, 87, byteAt (IntKind.u64.wrap a0) 0] ++
                                                                putB (IntKind.u64.wrap a1) 4 ++
                                                              putB (IntKind.u64.wrap (↑a2.length : Int)) 2 ++
                                                            List.flatMap pltB
                                                              (List.drop (Int.toNat 0)
                                                                (List.take a2.length a2)))))))).snd *
                                              256 +
                                            (sumR 0 0
                                                (bytesI
                                                  (strOfNums
                                                    (List.take
                                                      ([83, 87, byteAt (IntKind.u64.wrap a0) 0] ++
                                                              putB (IntKind.u64.wrap a1) 4 ++
                                                            putB (IntKind.u64.wrap (↑a2.length : Int)) 2 ++
                                                          List.flatMap pltB
                                                            (List.drop (Int.toNat 0) (List.take a2.length a2))).length
                                                      (List.drop 0
                                                        ([83, 87, byteAt (IntKind.u64.wrap a0) 0] ++
                                                              putB (IntKind.u64.wrap a1) 4 ++
                                                            putB (IntKind.u64.wrap (↑a2.length : Int)) 2 ++
                                                          List.flatMap pltB
                                                            (List.drop (Int.toNat 0)
                                                              (List.take a2.length a2)))))))).fst))
                                        2))))),
                          PV.sc (Value.int IntKind.i64 0)],
                      [Blk.row false
                          ((Kd.int IntKind.i64).pair
                            ((Kd.int IntKind.i64).pair
                              ((Kd.int IntKind.i64).pair
                                ((Kd.int IntKind.i64).pair ((Kd.int IntKind.i64).pair (Kd.int IntKind.i64))))))
                          a2])))))))))) := by kernel_rfl
noncomputable abbrev w56aL (a0 : ByteArray) (a1 : List (Int × Int × Int × Int × Int × Int)) (a2 : Bool) (a3 : Int) (a4 : Int) := evRound Try.prog W3 noCuts 59 (loopOf (codeAt 0 (bodyF Try.f56))) kFr muFr (killA 0 kFr) [3, 23, 24, 25] [3] cFr (a0, ((a1, a2), (a3, (a4, ()))))
theorem w56a (a0 : ByteArray) (a1 : List (Int × Int × Int × Int × Int × Int)) (a2 : Bool) (a3 : Int) (a4 : Int) : w56aL a0 a1 a2 a3 a4 = (bif decide (a4 < a3) then
  guardB (decide (0 ≤ a4) && decide (a4 < (↑a1.length : Int)))
    (bindO a1[0 + a4.toNat]? fun x =>
      guardB
        (bp
          (0 ≤ (↑(FloatKind.f64.nearest x.snd.snd.fst) : Int) ∧
            (↑(FloatKind.f64.nearest x.snd.snd.fst) : Int) < 18446744073709551616 ∧ (0 : Int) ≤ 8 ∧ 8 ≤ (↑8 : Int) ∧ 8 ≤ 8))
        (guardB
          (bp
            (0 ≤ IntKind.u64.wrap x.snd.snd.snd.fst ∧
              IntKind.u64.wrap x.snd.snd.snd.fst < 18446744073709551616 ∧ (0 : Int) ≤ 2 ∧ 2 ≤ (↑8 : Int) ∧ 8 ≤ 8))
          (guardB
            (bp
              (0 ≤ IntKind.u64.wrap x.snd.snd.snd.snd.fst ∧
                IntKind.u64.wrap x.snd.snd.snd.snd.fst < 18446744073709551616 ∧ (0 : Int) ≤ 4 ∧ 4 ≤ (↑8 : Int) ∧ 8 ≤ 8))
            (guardB
              (bp
                (0 ≤ IntKind.u64.wrap (IntKind.i64.wrap (x.snd.snd.snd.snd.snd + 1)) ∧
                  IntKind.u64.wrap (IntKind.i64.wrap (x.snd.snd.snd.snd.snd + 1)) < 18446744073709551616 ∧
                    (0 : Int) ≤ 2 ∧ 2 ≤ (↑8 : Int) ∧ 8 ≤ 8))
              (guardB
                ((a0.size +
                      (bytS (↑(FloatKind.f64.nearest x.snd.snd.fst) : Int) 8 ++
                              bytS (IntKind.u64.wrap x.snd.snd.snd.fst) 2 ++
                            bytS (IntKind.u64.wrap x.snd.snd.snd.snd.fst) 4 ++
                          bytS (IntKind.u64.wrap (IntKind.i64.wrap (x.snd.snd.snd.snd.snd + 1))) 2).size).ble
                  9223372036854775807)
                (guardB
                  (decide
                    (muFr
                        (a0 ++
                            (bytS (↑(FloatKind.f64.nearest x.snd.snd.fst) : Int) 8 ++
                                  bytS (IntKind.u64.wrap x.snd.snd.snd.fst) 2 ++
                                bytS (IntKind.u64.wrap x.snd.snd.snd.snd.fst) 4 ++
                              bytS (IntKind.u64.wrap (IntKind.i64.wrap (x.snd.snd.snd.snd.snd + 1))) 2),
                          (List.take a1.length a1, a2), a3, IntKind.i64.wrap (a4 + 1), ()) <
                      muFr (a0, (a1, a2), a3, a4, ())))
                  (guardB
                    (bif decide (0 + a1.length ≤ a1.length) then
                      preCk (List.take a1.length a1) a3 (IntKind.i64.wrap (a4 + 1)) &&
                        (okP (List.take a1.length a1) &&
                          decide
                            ((↑(a0 ++
                                      (bytS (↑(FloatKind.f64.nearest x.snd.snd.fst) : Int) 8 ++
                                            bytS (IntKind.u64.wrap x.snd.snd.snd.fst) 2 ++
                                          bytS (IntKind.u64.wrap x.snd.snd.snd.snd.fst) 4 ++
                                        bytS (IntKind.u64.wrap (IntKind.i64.wrap (x.snd.snd.snd.snd.snd + 1)))
                                          2)).size :
                                Int) ≤
                              1000 + 16 * IntKind.i64.wrap (a4 + 1)))
                    else false)
                    (some
                      (Xt.exit 0,
                        [PV.sc
                            (Value.string
                              (a0 ++
                                  (bytS (↑(FloatKind.f64.nearest x.snd.snd.fst) : Int) 8 ++
                                        bytS (IntKind.u64.wrap x.snd.snd.snd.fst) 2 ++
                                      bytS (IntKind.u64.wrap x.snd.snd.snd.snd.fst) 4 ++
                                    bytS (IntKind.u64.wrap (IntKind.i64.wrap (x.snd.snd.snd.snd.snd + 1))) 2) ++
                                strOfNums
                                  (List.flatMap pltB
                                    (List.drop (IntKind.i64.wrap (a4 + 1)).toNat (List.take a1.length a1)))))],
                        [Blk.row false
                            ((Kd.int IntKind.i64).pair
                              ((Kd.int IntKind.i64).pair
                                ((Kd.int IntKind.i64).pair
                                  ((Kd.int IntKind.i64).pair ((Kd.int IntKind.i64).pair (Kd.int IntKind.i64))))))
                            a1])))))))))
else
  some
    (Xt.exit 0, [PV.sc (Value.string a0)],
      [Blk.row false
          ((Kd.int IntKind.i64).pair
            ((Kd.int IntKind.i64).pair
              ((Kd.int IntKind.i64).pair ((Kd.int IntKind.i64).pair ((Kd.int IntKind.i64).pair (Kd.int IntKind.i64))))))
          a1])) := by kernel_rfl
noncomputable abbrev w56L (a0 : Int) (a1 : Int) (a2 : List (Int × Int × Int × Int × Int × Int)) (a3 : Bool) := evFuncV Try.prog W3 (addCut 0 [3, 23, 24, 25] [3] (entC kFr cFr) noCuts) Try.f56 (killA 0 [aF]) (showA 0 [aF] ((a0, (a1, ((a2, a3), ()))), ())).1 (showA 0 [aF] ((a0, (a1, ((a2, a3), ()))), ())).2
theorem w56 (a0 : Int) (a1 : Int) (a2 : List (Int × Int × Int × Int × Int × Int)) (a3 : Bool) : w56L a0 a1 a2 a3 = (guardB (bp (0 ≤ IntKind.u64.wrap a0 ∧ IntKind.u64.wrap a0 < 18446744073709551616 ∧ (0 : Int) ≤ 1 ∧ 1 ≤ (↑8 : Int) ∧ 8 ≤ 8))
  (guardB (bp (0 ≤ IntKind.u64.wrap a1 ∧ IntKind.u64.wrap a1 < 18446744073709551616 ∧ (0 : Int) ≤ 4 ∧ 4 ≤ (↑8 : Int) ∧ 8 ≤ 8))
    (guardB
      (bp
        (0 ≤ IntKind.u64.wrap (↑a2.length : Int) ∧
          IntKind.u64.wrap (↑a2.length : Int) < 18446744073709551616 ∧ (0 : Int) ≤ 2 ∧ 2 ≤ (↑8 : Int) ∧ 8 ≤ 8))
      (guardB
        (bif decide (0 + a2.length ≤ a2.length) then
          preCk (List.take a2.length a2) (↑a2.length : Int) 0 && (okP (List.take a2.length a2) && true)
        else false)
        (guardB
          (decide
            (ByteArray.size
                (ByteArray.mk #[83, 87] ++ bytS (IntKind.u64.wrap a0) 1 ++ bytS (IntKind.u64.wrap a1) 4 ++
                    bytS (IntKind.u64.wrap (↑a2.length : Int)) 2 ++
                  strOfNums (List.flatMap pltB (List.drop (Int.toNat 0) (List.take a2.length a2)))) ≤
              4000))
          (guardB
            (bp
              (0 ≤
                  IntKind.u64.wrap
                    ((chkR 0 0
                                (bytesI
                                  (ByteArray.mk #[83, 87] ++ bytS (IntKind.u64.wrap a0) 1 ++
                                        bytS (IntKind.u64.wrap a1) 4 ++
                                      bytS (IntKind.u64.wrap (↑a2.length : Int)) 2 ++
                                    strOfNums
                                      (List.flatMap pltB (List.drop (Int.toNat 0) (List.take a2.length a2)))))).snd.tmod
                          255 *
                        256 +
                      (chkR 0 0
                              (bytesI
                                (ByteArray.mk #[83, 87] ++ bytS (IntKind.u64.wrap a0) 1 ++
                                      bytS (IntKind.u64.wrap a1) 4 ++
                                    bytS (IntKind.u64.wrap (↑a2.length : Int)) 2 ++
                                  strOfNums
                                    (List.flatMap pltB (List.drop (Int.toNat 0) (List.take a2.length a2)))))).fst.tmod
                        255) ∧
                IntKind.u64.wrap
                      ((chkR 0 0
                                  (bytesI
                                    (ByteArray.mk #[83, 87] ++ bytS (IntKind.u64.wrap a0) 1 ++
                                          bytS (IntKind.u64.wrap a1) 4 ++
                                        bytS (IntKind.u64.wrap (↑a2.length : Int)) 2 ++
                                      strOfNums
                                        (List.flatMap pltB
                                          (List.drop (Int.toNat 0) (List.take a2.length a2)))))).snd.tmod
                            255 *
                          256 +
                        (chkR 0 0
                                (bytesI
                                  (ByteArray.mk #[83, 87] ++ bytS (IntKind.u64.wrap a0) 1 ++
                                        bytS (IntKind.u64.wrap a1) 4 ++
                                      bytS (IntKind.u64.wrap (↑a2.length : Int)) 2 ++
                                    strOfNums
                                      (List.flatMap pltB (List.drop (Int.toNat 0) (List.take a2.length a2)))))).fst.tmod
                          255) <
                    18446744073709551616 ∧
                  (0 : Int) ≤ 2 ∧ 2 ≤ (↑8 : Int) ∧ 8 ≤ 8))
            (guardB
              ((ByteArray.size
                      (ByteArray.mk #[83, 87] ++ bytS (IntKind.u64.wrap a0) 1 ++ bytS (IntKind.u64.wrap a1) 4 ++
                          bytS (IntKind.u64.wrap (↑a2.length : Int)) 2 ++
                        strOfNums (List.flatMap pltB (List.drop (Int.toNat 0) (List.take a2.length a2)))) +
                    (bytS
                        (IntKind.u64.wrap
                          ((chkR 0 0
                                      (bytesI
                                        (ByteArray.mk #[83, 87] ++ bytS (IntKind.u64.wrap a0) 1 ++
                                              bytS (IntKind.u64.wrap a1) 4 ++
                                            bytS (IntKind.u64.wrap (↑a2.length : Int)) 2 ++
                                          strOfNums
                                            (List.flatMap pltB
                                              (List.drop (Int.toNat 0) (List.take a2.length a2)))))).snd.tmod
                                255 *
                              256 +
                            (chkR 0 0
                                    (bytesI
                                      (ByteArray.mk #[83, 87] ++ bytS (IntKind.u64.wrap a0) 1 ++
                                            bytS (IntKind.u64.wrap a1) 4 ++
                                          bytS (IntKind.u64.wrap (↑a2.length : Int)) 2 ++
                                        strOfNums
                                          (List.flatMap pltB
                                            (List.drop (Int.toNat 0) (List.take a2.length a2)))))).fst.tmod
                              255))
                        2).size).ble
                9223372036854775807)
              (some
                (PV.sc
                    (Value.string
                      (ByteArray.mk #[83, 87] ++ bytS (IntKind.u64.wrap a0) 1 ++ bytS (IntKind.u64.wrap a1) 4 ++
                            bytS (IntKind.u64.wrap (↑a2.length : Int)) 2 ++
                          strOfNums (List.flatMap pltB (List.drop (Int.toNat 0) (List.take a2.length a2))) ++
                        bytS
                          (IntKind.u64.wrap
                            ((chkR 0 0
                                        (bytesI
                                          (ByteArray.mk #[83, 87] ++ bytS (IntKind.u64.wrap a0) 1 ++
                                                bytS (IntKind.u64.wrap a1) 4 ++
                                              bytS (IntKind.u64.wrap (↑a2.length : Int)) 2 ++
                                            strOfNums
                                              (List.flatMap pltB
                                                (List.drop (Int.toNat 0) (List.take a2.length a2)))))).snd.tmod
                                  255 *
                                256 +
                              (chkR 0 0
                                      (bytesI
                                        (ByteArray.mk #[83, 87] ++ bytS (IntKind.u64.wrap a0) 1 ++
                                              bytS (IntKind.u64.wrap a1) 4 ++
                                            bytS (IntKind.u64.wrap (↑a2.length : Int)) 2 ++
                                          strOfNums
                                            (List.flatMap pltB
                                              (List.drop (Int.toNat 0) (List.take a2.length a2)))))).fst.tmod
                                255))
                          2)),
                  [Blk.row false
                      ((Kd.int IntKind.i64).pair
                        ((Kd.int IntKind.i64).pair
                          ((Kd.int IntKind.i64).pair
                            ((Kd.int IntKind.i64).pair ((Kd.int IntKind.i64).pair (Kd.int IntKind.i64))))))
                      a2]))))))))) := by kernel_rfl
theorem B_ok : ∀ d, d ≤ 8 → TableOK Try.prog (B d)
  | 0, _ => ext_ok (entV_ok Try.call67 (liftV F5_ok mixed Try.func67 (show Try.f67.body = some (bodyF Try.f67) from rfl) (noCuts_ok _) (by decide) fun v h => q67z v.1 v.2.1 (bp_true.1 h))) F5_ok
  | d + 1, hd => ext_ok (entV_ok Try.call67 (liftV (B_ok d (by omega)) mixed Try.func67 (show Try.f67.body = some (bodyF Try.f67) from rfl) (noCuts_ok _) (by decide) fun v h => q67 d v.1 v.2.1 (bp_true.1 h))) F5_ok
theorem W1_ok : TableOK Try.prog W1 :=
  ext_ok (entV_ok Try.call95 (liftV F5_ok mixed Try.func95 (show Try.f95.body = some (bodyF Try.f95) from rfl) (noCuts_ok _) (by decide) fun v _ => q95 v.1 v.2.1 v.2.2.1)) <|
  ext_ok (orE_ok (entV_ok Try.call93 (liftV F5_ok mixed Try.func93 (show Try.f93.body = some (bodyF Try.f93) from rfl) (cut_cons (by kernel_rfl) in93 (noCuts_ok _)) (by decide) fun v h => q93 v.1.1 v.1.2 v.2.1 v.2.2.1 (of_decide_eq_true h)))
    (entF_ok Try.call93 p93_st fun v _ => liftF F5_ok mixed Try.func93 (show Try.f93.body = some (bodyF Try.f93) from rfl) (noCuts_ok _) (show 3 ≤ Try.f93.ntmps by decide) (r93 v))) <|
  ext_ok (entV_ok Try.call52 (liftV F5_ok mixed Try.func52 (show Try.f52.body = some (bodyF Try.f52) from rfl) (cut_cons (by kernel_rfl) in52 (noCuts_ok _)) (by decide) fun v h => q52 v.1 (of_decide_eq_true h))) <|
  ext_ok (entV_ok Try.call55 (liftV F5_ok mixed Try.func55 (show Try.f55.body = some (bodyF Try.f55) from rfl) (cut_cons (by kernel_rfl) in55 (noCuts_ok _)) (by decide) fun v h => q55 v.1 (of_decide_eq_true h))) <|
  ext_ok (entV_ok Try.call97 (liftV F5_ok mixed Try.func97 (show Try.f97.body = some (bodyF Try.f97) from rfl) (noCuts_ok _) (by decide) fun v _ => q97 v.1.1 v.1.2.1 v.1.2.2.1.1 v.1.2.2.1.2 v.2.1.1 v.2.1.2.1 v.2.1.2.2.1 v.2.1.2.2.2.1 v.2.1.2.2.2.2.1 v.2.1.2.2.2.2.2)) (B_ok 8 (by omega))
theorem q96 (p1 p2 p3 p4 p5 p6 : Int) : w96L p1 p2 p3 p4 p5 p6 = some (PV.sc (.int .i64 (pE (p1, p2, p3, p4, p5, p6))), []) := by
  rw [w96]
  unfold pE
  generalize inS p1 0 255 = b1, inS p2 0 200000 = b2, inS p3 0 2000000 = b3, inS p4 0 4095 = b4, inS p5 0 60000 = b5, inS p6 (-1) 4095 = b6
  cases b1 <;> cases b2 <;> cases b3 <;> cases b4 <;> cases b5 <;> cases b6 <;> rfl
theorem W2_ok : TableOK Try.prog W2 := ext_ok (entV_ok Try.call96 (liftV W1_ok mixed Try.func96 (show Try.f96.body = some (bodyF Try.f96) from rfl) (noCuts_ok _) (by decide) fun v _ => q96 v.1.1 v.1.2.1 v.1.2.2.1 v.1.2.2.2.1 v.1.2.2.2.2.1 v.1.2.2.2.2.2)) W1_ok
abbrev blC (r t : Int) (a2 : List P6) (a3 : Bool) (l : List P6) : List Blk := [Blk.fix true [PV.sc (.int .i64 r), PV.sc (.int .i64 t), PV.sl 1 0 6 a2.length a2.length false a3], Blk.row false kP a2, Blk.row false kP l]
theorem q54a (r t : Int) (a2 : List P6) (a3 : Bool) (l : List P6) (nl : Bool) (n k : Int) (h : preCk l n k = true) : w54aL r t a2 a3 l nl n k = pickA (cCh ((r, t, (a2, a3), ()), (l, nl), n, k, ())).2 := by
  obtain ⟨g1, g2, g3, g4⟩ := of_decide_eq_true h
  show _ = cond (pltsE r t (l.drop k.toNat) != 0) (some (Xt.ret, [PV.sc (.int .i64 (pltsE r t (l.drop k.toNat)))], blC r t a2 a3 l)) (some (Xt.exit 1, [PV.undef], blC r t a2 a3 l))
  rw [w54a]
  refine cond_split (fun h => ?_) (fun h => ?_)
  · have h := of_decide_eq_true h
    obtain ⟨x, hx⟩ := get_ex (l := l) (k := k.toNat) (by omega)
    rw [drop_cons hx, Nat.zero_add, hx]
    simp only [bindO, List.take_length, Nat.zero_add, len_true, cond_true]
    rw [IntWalk.i64_in (k + 1) (by omega), show (k + 1).toNat = k.toNat + 1 by omega, pltsE]
    refine guard_split (by simp; omega) ?_
    show cond (pltE r t x != 0) _ _ = _
    cases hb : (pltE r t x != 0) with
    | true => simp only [cond_true]; rw [hb]; rfl
    | false =>
      simp only [cond_false]
      exact guard_split (decide_eq_true (show (n - (k + 1)).toNat < (n - k).toNat by omega)) (guard_split (decide_eq_true (by omega)) rfl)
  · have h := of_decide_eq_false h
    rw [List.drop_eq_nil_of_le (by omega)]; rfl
theorem in54 : CutOK Try.prog Try.f54.ntmps (codeAt 1 (bodyF Try.f54)) [1, 31, 32, 33] [2] (entC kCk cCh) :=
  loop_cutW (kill := killA 0 kCk) W2_ok mixed muCk (by kernel_rfl) (noCuts_ok _) fun v h => q54a v.1.1 v.1.2.1 v.1.2.2.1.1 v.1.2.2.1.2 v.2.1.1 v.2.1.2 v.2.2.1 v.2.2.2.1 h
theorem q54 (r t : Int) (l : List P6) (nl : Bool) (h : l.length ≤ 100000000000000) : w54L r t l nl = some (PV.sc (.int .i64 (frmE r t l)), [Blk.row false kP l]) := by
  rw [w54]
  simp only [List.take_length, Nat.zero_add, len_true, cond_true]
  rw [show Int.toNat 0 = 0 from rfl, List.drop_zero]
  unfold frmE
  simp only [not_in]
  cases h1 : decide ((l.length : Int) > 32) with
  | true => rfl
  | false =>
    have h1 := of_decide_eq_false h1
    have hp : preCk l (l.length : Int) 0 = true := decide_eq_true (by omega)
    rw [hp]
    generalize decide (r < 0) = b1, decide (r > 255) = b2, decide (t < 0) = b3, decide (t > 200000) = b4
    cases b1 with
    | true => rfl
    | false => cases b2 with
      | true => rfl
      | false => cases b3 with
        | true => rfl
        | false => cases b4 with
          | true => rfl
          | false =>
            simp only [cond_false, Bool.or_false, guardB]
            cases hb : pltsE r t l != 0 with
            | true => rfl
            | false =>
              have : pltsE r t l = 0 := by simpa using hb
              simp only [this, cond_false, cond_true]
theorem q53a (r t : Int) (a2 : List P6) (a3 : Bool) (l : List P6) (nl : Bool) (n k : Int) (h : preCk l n k = true ∧ inS r 0 255 = true ∧ inS t 0 200000 = true) : w53aL r t a2 a3 l nl n k = pickA (cFe ((r, t, (a2, a3), ()), (l, nl), n, k, ())).2 := by
  obtain ⟨hp, hr, ht⟩ := h
  obtain ⟨g1, g2, g3, g4⟩ := of_decide_eq_true hp
  show _ = cond (pltsE r t (l.drop k.toNat) != 0) (some (Xt.ret, [PV.sc (.int .i64 (pltsE r t (l.drop k.toNat)))], blC r t a2 a3 l)) (some (Xt.exit 0, [PV.undef], blC r t a2 a3 l))
  rw [w53a]
  refine cond_split (fun h => ?_) (fun h => ?_)
  · have h := of_decide_eq_true h
    obtain ⟨x, hx⟩ := get_ex (l := l) (k := k.toNat) (by omega)
    rw [drop_cons hx, Nat.zero_add, hx]
    simp only [bindO, List.take_length, Nat.zero_add, len_true, cond_true]
    rw [IntWalk.i64_in (k + 1) (by omega), show (k + 1).toNat = k.toNat + 1 by omega, pltsE]
    refine guard_split (by simp; omega) ?_
    obtain ⟨x1, x2, x3, x4, x5, x6⟩ := x
    show cond (x1 != r) _ (cond (x2 != t) _ (cond (pE (x1, x2, x3, x4, x5, x6) != 0) _ _)) = _
    cases h1 : (x1 != r) with
    | true => 
      have e : pltE r t (x1, x2, x3, x4, x5, x6) = 3 := by unfold pltE; simp only []; rw [h1]; rfl
      rw [e]; rfl
    | false => cases h2 : (x2 != t) with
      | true => 
        have e : pltE r t (x1, x2, x3, x4, x5, x6) = 3 := by unfold pltE; simp only []; rw [h1, h2]; rfl
        rw [e]; rfl
      | false =>
        have e1 : x1 = r := by simpa using h1
        have e2 : x2 = t := by simpa using h2
        have e : pltE r t (x1, x2, x3, x4, x5, x6) = pE (x1, x2, x3, x4, x5, x6) := by
          unfold pltE pE
          simp only []
          rw [h1, h2, e1, e2, hr, ht]
          generalize inS x3 0 2000000 = b3, inS x4 0 4095 = b4, inS x5 0 60000 = b5, inS x6 (-1) 4095 = b6
          cases b3 <;> cases b4 <;> cases b5 <;> cases b6 <;> rfl
        rw [e]
        simp only [cond_false]
        show cond (pE (x1, x2, x3, x4, x5, x6) != 0) _ _ = _
        cases hb : (pE (x1, x2, x3, x4, x5, x6) != 0) with
        | true => simp only [cond_true]; rw [hb]; rfl
        | false =>
          simp only [cond_false]
          refine guard_split (decide_eq_true (show (n - (k + 1)).toNat < (n - k).toNat by omega)) (guard_split ?_ rfl)
          rw [show preCk l n (k + 1) = true from decide_eq_true (by omega), hr, ht]; rfl
  · have h := of_decide_eq_false h
    rw [List.drop_eq_nil_of_le (by omega)]; rfl
theorem in53 : CutOK Try.prog Try.f53.ntmps (codeAt 0 (bodyF Try.f53)) [1, 21, 22, 23] [2] (entC kCk cFe) :=
  loop_cutW (kill := killA 0 kCk) W2_ok mixed muCk (by kernel_rfl) (noCuts_ok _) fun v h => q53a v.1.1 v.1.2.1 v.1.2.2.1.1 v.1.2.2.1.2 v.2.1.1 v.2.1.2 v.2.2.1 v.2.2.2.1 (by
    obtain ⟨h1, h2⟩ := Bool.and_eq_true_iff.1 h
    exact ⟨h1, Bool.and_eq_true_iff.1 h2⟩)
theorem q53 (r t : Int) (l : List P6) (nl : Bool) (h : l.length ≤ 100000000000000) : w53L r t l nl = some (PV.sc (.int .i64 (frmE r t l)), [Blk.row false kP l]) := by
  rw [w53]
  simp only [List.take_length, Nat.zero_add, len_true, cond_true]
  rw [show Int.toNat 0 = 0 from rfl, List.drop_zero]
  unfold frmE
  cases h1 : decide ((l.length : Int) > 32) with
  | true => rfl
  | false =>
    have h1 := of_decide_eq_false h1
    have hp : preCk l (l.length : Int) 0 = true := decide_eq_true (by omega)
    rw [hp]
    cases inS r 0 255 with
    | false => rfl
    | true => cases inS t 0 200000 with
      | false => rfl
      | true =>
        simp only [Bool.not_true, cond_false, Bool.or_false, guardB, Bool.true_and, cond_true]
        cases hb : pltsE r t l != 0 with
        | true => rfl
        | false =>
          have : pltsE r t l = 0 := by simpa using hb
          simp only [this, cond_false, cond_true]
theorem W3_ok : TableOK Try.prog W3 :=
  ext_ok (entV_ok Try.call54 (liftV W2_ok mixed Try.func54 (show Try.f54.body = some (bodyF Try.f54) from rfl) (cut_cons (by kernel_rfl) in54 (noCuts_ok _)) (by decide) fun v h => q54 v.1.1 v.1.2.1 v.1.2.2.1.1 v.1.2.2.1.2 (of_decide_eq_true h))) <|
  ext_ok (entV_ok Try.call53 (liftV W2_ok mixed Try.func53 (show Try.f53.body = some (bodyF Try.f53) from rfl) (cut_cons (by kernel_rfl) in53 (noCuts_ok _)) (by decide) fun v h => q53 v.1.1 v.1.2.1 v.1.2.2.1.1 v.1.2.2.1.2 (of_decide_eq_true h))) W2_ok
end Go.Proofs.YtacdahpjmeianaaWi
