/- What is proved: the law LabelPlaces answers true for all values. No condition. -/
import Derived.Test.YtacdahpjmeianaaTlb5
import Derived.Test.YtacdahpjmeianaaEvZd
namespace Go.Proofs.YtacdahpjmeianaaLb
open Go Go.Proofs Go.Proofs.YtacdahpjmeianaaEv
set_option maxRecDepth 100000
set_option linter.unusedSimpArgs false
set_option linter.unusedVariables false
noncomputable abbrev l16lL (a0 : List Int) (a1 : Bool) (a2 : List Int) (a3 : Bool) (a4 : Int) (a5 : Int) := evRound Try.prog T0 noCuts 26 (loopOf (codeAt 0 (bodyF Try.f16))) kEq muEq (killA 0 kEq) [0, 1, 12, 13] [4] cEq ((a0, a1), ((a2, a3), (a4, (a5, ()))))
theorem l16l (a0 : List Int) (a1 : Bool) (a2 : List Int) (a3 : Bool) (a4 : Int) (a5 : Int) : l16lL a0 a1 a2 a3 a4 a5 = (bif decide (a5 < a4) then
  guardB (decide (0 ≤ a5) && decide (a5 < (↑a0.length : Int)))
    (bindO a0[0 + a5.toNat]? fun x =>
      guardB (decide (0 ≤ a5) && decide (a5 < (↑a2.length : Int)))
        (bindO a2[0 + a5.toNat]? fun x_1 =>
          bif x != x_1 then
            some
              (Xt.ret, [PV.sc (Value.bool false)],
                [Blk.row false (Kd.int IntKind.i64) a0, Blk.row false (Kd.int IntKind.i64) a2])
          else
            guardB
              (decide
                (muEq
                    ((List.take a0.length a0, a1), (List.take a2.length a2, a3), a4, IntKind.i64.wrap (a5 + 1),
                      PUnit.unit) <
                  muEq ((a0, a1), (a2, a3), a4, a5, ())))
              (guardB
                (bif decide (0 + a0.length ≤ a0.length) then
                  bif decide (0 + a2.length ≤ a2.length) then
                    preEq (List.take a0.length a0) (List.take a2.length a2) a4 (IntKind.i64.wrap (a5 + 1))
                  else false
                else false)
                (bif
                    decide
                      (List.drop (IntKind.i64.wrap (a5 + 1)).toNat (List.take a0.length a0) =
                        List.drop (IntKind.i64.wrap (a5 + 1)).toNat (List.take a2.length a2)) then
                  some
                    (Xt.exit 0, [PV.undef],
                      [Blk.row false (Kd.int IntKind.i64) a0, Blk.row false (Kd.int IntKind.i64) a2])
                else
                  some
                    (Xt.ret, [PV.sc (Value.bool false)],
                      [Blk.row false (Kd.int IntKind.i64) a0, Blk.row false (Kd.int IntKind.i64) a2])))))
else some (Xt.exit 0, [PV.undef], [Blk.row false (Kd.int IntKind.i64) a0, Blk.row false (Kd.int IntKind.i64) a2])) := by kernel_rfl
noncomputable abbrev l16L (a0 : List Int) (a1 : Bool) (a2 : List Int) (a3 : Bool) := evFuncV Try.prog T0 (addCut 0 [0, 1, 12, 13] [4] (entC kEq cEq) noCuts) Try.f16 (killA 0 kE2) (showA 0 kE2 ((a0, a1), ((a2, a3), ()))).1 (showA 0 kE2 ((a0, a1), ((a2, a3), ()))).2
theorem l16 (a0 : List Int) (a1 : Bool) (a2 : List Int) (a3 : Bool) : l16L a0 a1 a2 a3 = (bif (↑a0.length : Int) != (↑a2.length : Int) then
  some (PV.sc (Value.bool false), [Blk.row false (Kd.int IntKind.i64) a0, Blk.row false (Kd.int IntKind.i64) a2])
else
  guardB
    (bif decide (0 + a0.length ≤ a0.length) then
      bif decide (0 + a2.length ≤ a2.length) then
        preEq (List.take a0.length a0) (List.take a2.length a2) (↑a0.length : Int) 0
      else false
    else false)
    (bif
        decide
          (List.drop (Int.toNat 0) (List.take a0.length a0) = List.drop (Int.toNat 0) (List.take a2.length a2)) then
      some (PV.sc (Value.bool true), [Blk.row false (Kd.int IntKind.i64) a0, Blk.row false (Kd.int IntKind.i64) a2])
    else
      some (PV.sc (Value.bool false), [Blk.row false (Kd.int IntKind.i64) a0, Blk.row false (Kd.int IntKind.i64) a2]))) := by kernel_rfl
noncomputable abbrev l26lL (a0 : List Int) (a1 : Bool) (a2 : List Int) (a3 : Bool) (a4 : Int) (a5 : Int) := evRound Try.prog T0 noCuts 26 (loopOf (codeAt 0 (bodyF Try.f26))) kEq muEq (killA 0 kEq) [0, 1, 12, 13] [4] cEq ((a0, a1), ((a2, a3), (a4, (a5, ()))))
theorem l26l (a0 : List Int) (a1 : Bool) (a2 : List Int) (a3 : Bool) (a4 : Int) (a5 : Int) : l26lL a0 a1 a2 a3 a4 a5 = (bif decide (a5 < a4) then
  guardB (decide (0 ≤ a5) && decide (a5 < (↑a0.length : Int)))
    (bindO a0[0 + a5.toNat]? fun x =>
      guardB (decide (0 ≤ a5) && decide (a5 < (↑a2.length : Int)))
        (bindO a2[0 + a5.toNat]? fun x_1 =>
          bif x != x_1 then
            some
              (Xt.ret, [PV.sc (Value.bool false)],
                [Blk.row false (Kd.int IntKind.i64) a0, Blk.row false (Kd.int IntKind.i64) a2])
          else
            guardB
              (decide
                (muEq
                    ((List.take a0.length a0, a1), (List.take a2.length a2, a3), a4, IntKind.i64.wrap (a5 + 1),
                      PUnit.unit) <
                  muEq ((a0, a1), (a2, a3), a4, a5, ())))
              (guardB
                (bif decide (0 + a0.length ≤ a0.length) then
                  bif decide (0 + a2.length ≤ a2.length) then
                    preEq (List.take a0.length a0) (List.take a2.length a2) a4 (IntKind.i64.wrap (a5 + 1))
                  else false
                else false)
                (bif
                    decide
                      (List.drop (IntKind.i64.wrap (a5 + 1)).toNat (List.take a0.length a0) =
                        List.drop (IntKind.i64.wrap (a5 + 1)).toNat (List.take a2.length a2)) then
                  some
                    (Xt.exit 0, [PV.undef],
                      [Blk.row false (Kd.int IntKind.i64) a0, Blk.row false (Kd.int IntKind.i64) a2])
                else
                  some
                    (Xt.ret, [PV.sc (Value.bool false)],
                      [Blk.row false (Kd.int IntKind.i64) a0, Blk.row false (Kd.int IntKind.i64) a2])))))
else some (Xt.exit 0, [PV.undef], [Blk.row false (Kd.int IntKind.i64) a0, Blk.row false (Kd.int IntKind.i64) a2])) := by kernel_rfl
noncomputable abbrev l26L (a0 : List Int) (a1 : Bool) (a2 : List Int) (a3 : Bool) := evFuncV Try.prog T0 (addCut 0 [0, 1, 12, 13] [4] (entC kEq cEq) noCuts) Try.f26 (killA 0 kE2) (showA 0 kE2 ((a0, a1), ((a2, a3), ()))).1 (showA 0 kE2 ((a0, a1), ((a2, a3), ()))).2
theorem l26 (a0 : List Int) (a1 : Bool) (a2 : List Int) (a3 : Bool) : l26L a0 a1 a2 a3 = (bif (↑a0.length : Int) != (↑a2.length : Int) then
  some (PV.sc (Value.bool false), [Blk.row false (Kd.int IntKind.i64) a0, Blk.row false (Kd.int IntKind.i64) a2])
else
  guardB
    (bif decide (0 + a0.length ≤ a0.length) then
      bif decide (0 + a2.length ≤ a2.length) then
        preEq (List.take a0.length a0) (List.take a2.length a2) (↑a0.length : Int) 0
      else false
    else false)
    (bif
        decide
          (List.drop (Int.toNat 0) (List.take a0.length a0) = List.drop (Int.toNat 0) (List.take a2.length a2)) then
      some (PV.sc (Value.bool true), [Blk.row false (Kd.int IntKind.i64) a0, Blk.row false (Kd.int IntKind.i64) a2])
    else
      some (PV.sc (Value.bool false), [Blk.row false (Kd.int IntKind.i64) a0, Blk.row false (Kd.int IntKind.i64) a2]))) := by kernel_rfl
noncomputable abbrev l23L (a0 : List (Int × Int × Int × Int)) (a1 : Bool) := evFuncV Try.prog T0 noCuts Try.f23 (killA 0 k23) (showA 0 k23 ((a0, a1), ())).1 (showA 0 k23 ((a0, a1), ())).2
theorem l23 (a0 : List (Int × Int × Int × Int)) (a1 : Bool) : l23L a0 a1 = (bif a1 then
  some
    (PV.sc (Value.slice none 0 0),
      [Blk.row false
          ((Kd.int IntKind.i64).pair ((Kd.int IntKind.i64).pair ((Kd.int IntKind.i64).pair (Kd.int IntKind.i64)))) a0])
else
  guardB
    (decide (0 + a0.length ≤ a0.length) && decide ((0 + a0.length) * 32 ≤ 140737488355328) &&
      decide (0 + a0.length ≤ 4611686018427387904))
    (bif decide (1 ≤ a0.length) then
      some
        (PV.sl 1 0 4 (0 + a0.length) (0 + a0.length) false false,
          [Blk.row false
              ((Kd.int IntKind.i64).pair ((Kd.int IntKind.i64).pair ((Kd.int IntKind.i64).pair (Kd.int IntKind.i64))))
              a0,
            Blk.row true
              ((Kd.int IntKind.i64).pair ((Kd.int IntKind.i64).pair ((Kd.int IntKind.i64).pair (Kd.int IntKind.i64))))
              (List.take a0.length a0)])
    else
      some
        (PV.sl 1 0 4 (0 + a0.length) (0 + a0.length) false (a0.length.beq 0 && false),
          [Blk.row false
              ((Kd.int IntKind.i64).pair ((Kd.int IntKind.i64).pair ((Kd.int IntKind.i64).pair (Kd.int IntKind.i64))))
              a0,
            Blk.row true
              ((Kd.int IntKind.i64).pair ((Kd.int IntKind.i64).pair ((Kd.int IntKind.i64).pair (Kd.int IntKind.i64))))
              (List.take a0.length a0)]))) := by kernel_rfl
noncomputable abbrev l14L (a0 : Int) (a1 : Int) (a2 : Int) := evFuncV Try.prog T0 noCuts Try.f14 (killA 0 [sI, sI, sI]) (showA 0 [sI, sI, sI] (a0, (a1, (a2, ())))).1 (showA 0 [sI, sI, sI] (a0, (a1, (a2, ())))).2
theorem l14 (a0 : Int) (a1 : Int) (a2 : Int) : l14L a0 a1 a2 = (guardB (!decide (IntKind.i64.wrap (IntKind.i64.wrap (a2 - a1) + 1) = 0))
  (bif decide (a0.tmod (IntKind.i64.wrap (IntKind.i64.wrap (a2 - a1) + 1)) < 0) then
    some
      (PV.sc
          (Value.int IntKind.i64
            (IntKind.i64.wrap
              (a1 +
                IntKind.i64.wrap
                  (a0.tmod (IntKind.i64.wrap (IntKind.i64.wrap (a2 - a1) + 1)) +
                    IntKind.i64.wrap (IntKind.i64.wrap (a2 - a1) + 1))))),
        [])
  else
    some
      (PV.sc
          (Value.int IntKind.i64 (IntKind.i64.wrap (a1 + a0.tmod (IntKind.i64.wrap (IntKind.i64.wrap (a2 - a1) + 1))))),
        []))) := by kernel_rfl
noncomputable abbrev l5aL (a0 : List (Int × Int × Int × Int)) (a1 : Bool) (a2 : Int) (a3 : Int) := evRound Try.prog TL noCuts 125 (loopOf (codeAt 0 (bodyF Try.f5))) kLa muLa (killA 0 kLa) [0, 36, 37] [] cLa ((a0, a1), (a2, (a3, ())))
theorem l5a (a0 : List (Int × Int × Int × Int)) (a1 : Bool) (a2 : Int) (a3 : Int) : l5aL a0 a1 a2 a3 = (bif decide (a3 < a2) then
  guardB (decide (0 ≤ a3) && decide (a3 < (↑a0.length : Int)))
    (bindO a0[0 + a3.toNat]? fun x =>
      guardB (decide (0 ≤ a3) && decide (a3 < (↑a0.length : Int)))
        (bindO a0[0 + a3.toNat]? fun x_1 =>
          guardB (decide (0 ≤ a3) && decide (a3 < (↑a0.length : Int)))
            (bindO a0[0 + a3.toNat]? fun x_2 =>
              guardB (decide (0 ≤ a3) && decide (a3 < (↑a0.length : Int)))
                (bindO
                  (a0.set (0 + a3.toNat) (x_2.fst, x_2.snd.fst, cutS x.snd.snd.fst 1 6, x_2.snd.snd.snd))[0 + a3.toNat]?
                  fun x_3 =>
                  guardB
                    (decide
                      (muLa
                          (((a0.set (0 + a3.toNat) (x_2.fst, x_2.snd.fst, cutS x.snd.snd.fst 1 6, x_2.snd.snd.snd)).set
                                (0 + a3.toNat) (x_3.fst, x_3.snd.fst, x_3.snd.snd.fst, cutS x_1.snd.snd.snd 1 6),
                              a1),
                            a2, IntKind.i64.wrap (a3 + 1), PUnit.unit) <
                        muLa ((a0, a1), a2, a3, ())))
                    (guardB
                      (bif
                          decide
                            (a0.length =
                              ((a0.set (0 + a3.toNat)
                                      (x_2.fst, x_2.snd.fst, cutS x.snd.snd.fst 1 6, x_2.snd.snd.snd)).set
                                  (0 + a3.toNat)
                                  (x_3.fst, x_3.snd.fst, x_3.snd.snd.fst, cutS x_1.snd.snd.snd 1 6)).length) then
                        preFi
                          ((a0.set (0 + a3.toNat) (x_2.fst, x_2.snd.fst, cutS x.snd.snd.fst 1 6, x_2.snd.snd.snd)).set
                            (0 + a3.toNat) (x_3.fst, x_3.snd.fst, x_3.snd.snd.fst, cutS x_1.snd.snd.snd 1 6))
                          a2 (IntKind.i64.wrap (a3 + 1))
                      else false)
                      (some
                        (Xt.exit 0, [],
                          [Blk.row true
                              ((Kd.int IntKind.i64).pair
                                ((Kd.int IntKind.i64).pair ((Kd.int IntKind.i64).pair (Kd.int IntKind.i64))))
                              (cutL
                                ((a0.set (0 + a3.toNat)
                                      (x_2.fst, x_2.snd.fst, cutS x.snd.snd.fst 1 6, x_2.snd.snd.snd)).set
                                  (0 + a3.toNat) (x_3.fst, x_3.snd.fst, x_3.snd.snd.fst, cutS x_1.snd.snd.snd 1 6))
                                (IntKind.i64.wrap (a3 + 1)).toNat)])))))))
else
  some
    (Xt.exit 0, [],
      [Blk.row true
          ((Kd.int IntKind.i64).pair ((Kd.int IntKind.i64).pair ((Kd.int IntKind.i64).pair (Kd.int IntKind.i64)))) a0])) := by kernel_rfl
noncomputable abbrev l5bL (a0 : Int) (a1 : Int) (a2 : Int) := evRound Try.prog TL noCuts 125 (loopOf (codeAt 2 (bodyF Try.f5))) kLb muLb (killA 0 kLb) [9, 79, 80] [9] cLb (a0, (a1, (a2, ())))
theorem l5b (a0 : Int) (a1 : Int) (a2 : Int) : l5bL a0 a1 a2 = (bif decide (a2 < a1) then
  guardB (decide (muLb (IntKind.i64.wrap (a0 * 8), a1, IntKind.i64.wrap (a2 + 1), PUnit.unit) < muLb (a0, a1, a2, ())))
    (guardB (preLb (IntKind.i64.wrap (a0 * 8)) a1 (IntKind.i64.wrap (a2 + 1)))
      (some (Xt.exit 2, [PV.sc (Value.int IntKind.i64 (8 ^ a1.toNat))], [])))
else some (Xt.exit 2, [PV.sc (Value.int IntKind.i64 a0)], [])) := by kernel_rfl
noncomputable abbrev l5dL (a0 : List Int) (a1 : Bool) (a2 : Int) (a3 : Int) := evRound Try.prog TL noCuts 125 (loopOf (codeAt 6 (bodyF Try.f5))) kLd muLd (killA 0 kLd) [11, 12, 13] [] cLd ((a0, a1), (a2, (a3, ())))
theorem l5d (a0 : List Int) (a1 : Bool) (a2 : Int) (a3 : Int) : l5dL a0 a1 a2 a3 = (bif decide (a2 ≥ 0) then
  guardB (decide (0 ≤ a2) && decide (a2 < (↑a0.length : Int)))
    (bindO a0[0 + a2.toNat]? fun x =>
      guardB
        (decide
          (muLd
              ((a0.set (0 + a2.toNat) (a3.tmod 8), a1), IntKind.i64.wrap (a2 - 1), IntKind.i64.wrap (a3.tdiv 8),
                PUnit.unit) <
            muLd ((a0, a1), a2, a3, ())))
        (guardB
          (bif decide (a0.length = (a0.set (0 + a2.toNat) (a3.tmod 8)).length) then
            preLd (a0.set (0 + a2.toNat) (a3.tmod 8)) (IntKind.i64.wrap (a2 - 1)) (IntKind.i64.wrap (a3.tdiv 8))
          else false)
          (some
            (Xt.exit 6, [],
              [Blk.row true (Kd.int IntKind.i64)
                  (setD (Int.toNat (IntKind.i64.wrap (a2 - 1) + 1)) (a0.set (0 + a2.toNat) (a3.tmod 8))
                    (IntKind.i64.wrap (a3.tdiv 8)))]))))
else some (Xt.exit 6, [], [Blk.row true (Kd.int IntKind.i64) a0])) := by kernel_rfl
noncomputable abbrev l5eL (a0 : List (Int × Int × Int × Int)) (a1 : Bool) (a2 : List Int) (a3 : Bool) (a4 : Int) (a5 : Int) (a6 : Int) := evRound Try.prog TL (addCut 6 [11, 12, 13] [] (entC kLd cLd) noCuts) 125 (loopOf (codeAt 4 (bodyF Try.f5))) kLe muLe (killA 0 kLe) [0, 6, 7, 85, 86] [2] cLe ((a0, a1), ((a2, a3), (a4, (a5, (a6, ())))))
theorem l5e (a0 : List (Int × Int × Int × Int)) (a1 : Bool) (a2 : List Int) (a3 : Bool) (a4 : Int) (a5 : Int) (a6 : Int) : l5eL a0 a1 a2 a3 a4 a5 a6 = (bif decide (a6 < a5) then
  guardB
    (decide (0 ≤ (↑a0.length : Int)) && decide ((↑a0.length : Int) ≤ (↑a0.length : Int)) &&
        decide ((↑a0.length : Int) * 8 ≤ 140737488355328) &&
      decide ((↑a0.length : Int) ≤ 9223372036854775807))
    (guardB
      (bif decide ((↑a0.length : Int).toNat = (List.replicate (↑a0.length : Int).toNat (0 : Int)).length) then
        preLd (List.replicate (↑a0.length : Int).toNat (0 : Int)) (IntKind.i64.wrap ((↑a0.length : Int) - 1)) a6
      else false)
      (guardB
        (bif decide (0 + a0.length ≤ a0.length) then
          bif
              decide
                (0 + (↑a0.length : Int).toNat ≤
                  (setD (Int.toNat (IntKind.i64.wrap ((↑a0.length : Int) - 1) + 1))
                      (List.replicate (↑a0.length : Int).toNat (0 : Int)) a6).length) then
            okAll (List.take a0.length a0)
              (List.take (↑a0.length : Int).toNat
                (setD (Int.toNat (IntKind.i64.wrap ((↑a0.length : Int) - 1) + 1))
                  (List.replicate (↑a0.length : Int).toNat (0 : Int)) a6))
          else false
        else false)
        (bif
            fitV (List.take a0.length a0)
              (List.take (↑a0.length : Int).toNat
                (setD (Int.toNat (IntKind.i64.wrap ((↑a0.length : Int) - 1) + 1))
                  (List.replicate (↑a0.length : Int).toNat (0 : Int)) a6))
              0 then
          bif a4 == 0 then
            guardB
              (bif decide (0 + a2.length ≤ a2.length) then
                bif
                    decide
                      (0 + (↑a0.length : Int).toNat ≤
                        (setD (Int.toNat (IntKind.i64.wrap ((↑a0.length : Int) - 1) + 1))
                            (List.replicate (↑a0.length : Int).toNat (0 : Int)) a6).length) then
                  decide ((List.take a2.length a2).length ≤ 1000)
                else false
              else false)
              (some
                (Xt.ret,
                  [PV.sc
                      (Value.bool
                        (decide
                          (List.take a2.length a2 =
                            List.take (↑a0.length : Int).toNat
                              (setD (Int.toNat (IntKind.i64.wrap ((↑a0.length : Int) - 1) + 1))
                                (List.replicate (↑a0.length : Int).toNat (0 : Int)) a6))))],
                  [Blk.row false
                      ((Kd.int IntKind.i64).pair
                        ((Kd.int IntKind.i64).pair ((Kd.int IntKind.i64).pair (Kd.int IntKind.i64))))
                      a0,
                    Blk.row false (Kd.int IntKind.i64) a2]))
          else
            some
              (Xt.ret, [PV.sc (Value.bool false)],
                [Blk.row false
                    ((Kd.int IntKind.i64).pair
                      ((Kd.int IntKind.i64).pair ((Kd.int IntKind.i64).pair (Kd.int IntKind.i64))))
                    a0,
                  Blk.row false (Kd.int IntKind.i64) a2])
        else
          guardB
            (decide
              (muLe
                  ((List.take a0.length a0, a1), (List.take a2.length a2, a3), a4, a5, IntKind.i64.wrap (a6 + 1),
                    PUnit.unit) <
                muLe ((a0, a1), (a2, a3), a4, a5, a6, ())))
            (guardB
              (bif decide (0 + a0.length ≤ a0.length) then
                bif decide (0 + a2.length ≤ a2.length) then
                  preLe (List.take a0.length a0) (List.take a2.length a2) a5 (IntKind.i64.wrap (a6 + 1))
                else false
              else false)
              (bif (fstV (List.take a0.length a0) a5 (IntKind.i64.wrap (a6 + 1))).isNone then
                some
                  (Xt.exit 4, [PV.undef],
                    [Blk.row false
                        ((Kd.int IntKind.i64).pair
                          ((Kd.int IntKind.i64).pair ((Kd.int IntKind.i64).pair (Kd.int IntKind.i64))))
                        a0,
                      Blk.row false (Kd.int IntKind.i64) a2])
              else
                some
                  (Xt.ret,
                    [PV.sc
                        (Value.bool
                          (decide (a4 = 0) &&
                            decide
                              (List.take a2.length a2 =
                                (fstV (List.take a0.length a0) a5 (IntKind.i64.wrap (a6 + 1))).getD [])))],
                    [Blk.row false
                        ((Kd.int IntKind.i64).pair
                          ((Kd.int IntKind.i64).pair ((Kd.int IntKind.i64).pair (Kd.int IntKind.i64))))
                        a0,
                      Blk.row false (Kd.int IntKind.i64) a2]))))))
else
  some
    (Xt.exit 4, [PV.undef],
      [Blk.row false
          ((Kd.int IntKind.i64).pair ((Kd.int IntKind.i64).pair ((Kd.int IntKind.i64).pair (Kd.int IntKind.i64)))) a0,
        Blk.row false (Kd.int IntKind.i64) a2])) := by kernel_rfl
noncomputable abbrev l5L (a0 : List (Int × Int × Int × Int)) (a1 : Bool) := evFuncV Try.prog TL (addCut 0 [0, 36, 37] [] (entC kLa cLa)
  (addCut 2 [9, 79, 80] [9] (entC kLb cLb) (addCut 4 [0, 6, 7, 85, 86] [2] (entC kLe cLe) noCuts))) Try.f5 (killA 0 [rIt]) (showA 0 [rIt] ((a0, a1), ())).1 (showA 0 [rIt] ((a0, a1), ())).2
theorem l5 (a0 : List (Int × Int × Int × Int)) (a1 : Bool) : l5L a0 a1 = (guardB (decide (0 ≤ min (↑a0.length : Int) 3) && decide (min (↑a0.length : Int) 3 ≤ (↑a0.length : Int)))
  (guardB
    (bif decide (0 + ((min (↑a0.length : Int) 3).toNat - 0) ≤ a0.length) then
      decide ((List.take ((min (↑a0.length : Int) 3).toNat - 0) a0).length ≤ 1000)
    else false)
    (bif a1 then
      guardB (preLe [] [] 1 0)
        (some
          (PV.sc (Value.bool true),
            [Blk.row false
                ((Kd.int IntKind.i64).pair ((Kd.int IntKind.i64).pair ((Kd.int IntKind.i64).pair (Kd.int IntKind.i64))))
                a0]))
    else
      guardB
        (bif
            decide
              ((List.take ((min (↑a0.length : Int) 3).toNat - 0) a0).length =
                (List.take ((min (↑a0.length : Int) 3).toNat - 0) a0).length) then
          preFi (List.take ((min (↑a0.length : Int) 3).toNat - 0) a0)
            (↑(List.take ((min (↑a0.length : Int) 3).toNat - 0) a0).length : Int) 0
        else false)
        (guardB
          (bif
              decide
                (0 + (List.take ((min (↑a0.length : Int) 3).toNat - 0) a0).length ≤
                  (cutL (List.take ((min (↑a0.length : Int) 3).toNat - 0) a0) (Int.toNat 0)).length) then
            true
          else false)
          (bif
              (plV
                  (List.take (List.take ((min (↑a0.length : Int) 3).toNat - 0) a0).length
                    (cutL (List.take ((min (↑a0.length : Int) 3).toNat - 0) a0) (Int.toNat 0)))).isSome then
            guardB
              (bif
                  decide
                    (0 + (List.take ((min (↑a0.length : Int) 3).toNat - 0) a0).length ≤
                      (cutL (List.take ((min (↑a0.length : Int) 3).toNat - 0) a0) (Int.toNat 0)).length) then
                true
              else false)
              (bif
                  chkL
                      (List.take (List.take ((min (↑a0.length : Int) 3).toNat - 0) a0).length
                        (cutL (List.take ((min (↑a0.length : Int) 3).toNat - 0) a0) (Int.toNat 0))) !=
                    0 then
                bif
                    0 ==
                      chkL
                        (List.take (List.take ((min (↑a0.length : Int) 3).toNat - 0) a0).length
                          (cutL (List.take ((min (↑a0.length : Int) 3).toNat - 0) a0) (Int.toNat 0))) then
                  some
                    (PV.sc
                        (Value.bool
                          ((↑((plV
                                        (List.take (List.take ((min (↑a0.length : Int) 3).toNat - 0) a0).length
                                          (cutL (List.take ((min (↑a0.length : Int) 3).toNat - 0) a0)
                                            (Int.toNat 0)))).getD
                                    []).length :
                              Int) ==
                            0)),
                      [Blk.row false
                          ((Kd.int IntKind.i64).pair
                            ((Kd.int IntKind.i64).pair ((Kd.int IntKind.i64).pair (Kd.int IntKind.i64))))
                          a0])
                else
                  some
                    (PV.sc (Value.bool false),
                      [Blk.row false
                          ((Kd.int IntKind.i64).pair
                            ((Kd.int IntKind.i64).pair ((Kd.int IntKind.i64).pair (Kd.int IntKind.i64))))
                          a0])
              else
                guardB (preLb 1 (↑(List.take ((min (↑a0.length : Int) 3).toNat - 0) a0).length : Int) 0)
                  (guardB
                    (bif
                        decide
                          (0 + (List.take ((min (↑a0.length : Int) 3).toNat - 0) a0).length ≤
                            (cutL (List.take ((min (↑a0.length : Int) 3).toNat - 0) a0) (Int.toNat 0)).length) then
                      bif
                          decide
                            (0 +
                                ((plV
                                        (List.take (List.take ((min (↑a0.length : Int) 3).toNat - 0) a0).length
                                          (cutL (List.take ((min (↑a0.length : Int) 3).toNat - 0) a0)
                                            (Int.toNat 0)))).getD
                                    []).length ≤
                              ((plV
                                      (List.take (List.take ((min (↑a0.length : Int) 3).toNat - 0) a0).length
                                        (cutL (List.take ((min (↑a0.length : Int) 3).toNat - 0) a0)
                                          (Int.toNat 0)))).getD
                                  []).length) then
                        preLe
                          (List.take (List.take ((min (↑a0.length : Int) 3).toNat - 0) a0).length
                            (cutL (List.take ((min (↑a0.length : Int) 3).toNat - 0) a0) (Int.toNat 0)))
                          (List.take
                            ((plV
                                    (List.take (List.take ((min (↑a0.length : Int) 3).toNat - 0) a0).length
                                      (cutL (List.take ((min (↑a0.length : Int) 3).toNat - 0) a0) (Int.toNat 0)))).getD
                                []).length
                            ((plV
                                  (List.take (List.take ((min (↑a0.length : Int) 3).toNat - 0) a0).length
                                    (cutL (List.take ((min (↑a0.length : Int) 3).toNat - 0) a0) (Int.toNat 0)))).getD
                              []))
                          (8 ^ (↑(List.take ((min (↑a0.length : Int) 3).toNat - 0) a0).length : Int).toNat) 0
                      else false
                    else false)
                    (bif
                        (fstV
                            (List.take (List.take ((min (↑a0.length : Int) 3).toNat - 0) a0).length
                              (cutL (List.take ((min (↑a0.length : Int) 3).toNat - 0) a0) (Int.toNat 0)))
                            (8 ^ (↑(List.take ((min (↑a0.length : Int) 3).toNat - 0) a0).length : Int).toNat)
                            0).isNone then
                      some
                        (PV.sc (Value.bool false),
                          [Blk.row false
                              ((Kd.int IntKind.i64).pair
                                ((Kd.int IntKind.i64).pair ((Kd.int IntKind.i64).pair (Kd.int IntKind.i64))))
                              a0])
                    else
                      some
                        (PV.sc
                            (Value.bool
                              (decide
                                (List.take
                                    ((plV
                                            (List.take (List.take ((min (↑a0.length : Int) 3).toNat - 0) a0).length
                                              (cutL (List.take ((min (↑a0.length : Int) 3).toNat - 0) a0)
                                                (Int.toNat 0)))).getD
                                        []).length
                                    ((plV
                                          (List.take (List.take ((min (↑a0.length : Int) 3).toNat - 0) a0).length
                                            (cutL (List.take ((min (↑a0.length : Int) 3).toNat - 0) a0)
                                              (Int.toNat 0)))).getD
                                      []) =
                                  (fstV
                                        (List.take (List.take ((min (↑a0.length : Int) 3).toNat - 0) a0).length
                                          (cutL (List.take ((min (↑a0.length : Int) 3).toNat - 0) a0) (Int.toNat 0)))
                                        (8 ^
                                          (↑(List.take ((min (↑a0.length : Int) 3).toNat - 0) a0).length : Int).toNat)
                                        0).getD
                                    []))),
                          [Blk.row false
                              ((Kd.int IntKind.i64).pair
                                ((Kd.int IntKind.i64).pair ((Kd.int IntKind.i64).pair (Kd.int IntKind.i64))))
                              a0]))))
          else
            guardB
              (bif
                  decide
                    (0 + (List.take ((min (↑a0.length : Int) 3).toNat - 0) a0).length ≤
                      (cutL (List.take ((min (↑a0.length : Int) 3).toNat - 0) a0) (Int.toNat 0)).length) then
                true
              else false)
              (bif
                  chkL
                      (List.take (List.take ((min (↑a0.length : Int) 3).toNat - 0) a0).length
                        (cutL (List.take ((min (↑a0.length : Int) 3).toNat - 0) a0) (Int.toNat 0))) !=
                    0 then
                bif
                    plE
                        (List.take (List.take ((min (↑a0.length : Int) 3).toNat - 0) a0).length
                          (cutL (List.take ((min (↑a0.length : Int) 3).toNat - 0) a0) (Int.toNat 0))) ==
                      chkL
                        (List.take (List.take ((min (↑a0.length : Int) 3).toNat - 0) a0).length
                          (cutL (List.take ((min (↑a0.length : Int) 3).toNat - 0) a0) (Int.toNat 0))) then
                  some
                    (PV.sc (Value.bool true),
                      [Blk.row false
                          ((Kd.int IntKind.i64).pair
                            ((Kd.int IntKind.i64).pair ((Kd.int IntKind.i64).pair (Kd.int IntKind.i64))))
                          a0])
                else
                  some
                    (PV.sc (Value.bool false),
                      [Blk.row false
                          ((Kd.int IntKind.i64).pair
                            ((Kd.int IntKind.i64).pair ((Kd.int IntKind.i64).pair (Kd.int IntKind.i64))))
                          a0])
              else
                guardB (preLb 1 (↑(List.take ((min (↑a0.length : Int) 3).toNat - 0) a0).length : Int) 0)
                  (guardB
                    (bif
                        decide
                          (0 + (List.take ((min (↑a0.length : Int) 3).toNat - 0) a0).length ≤
                            (cutL (List.take ((min (↑a0.length : Int) 3).toNat - 0) a0) (Int.toNat 0)).length) then
                      preLe
                        (List.take (List.take ((min (↑a0.length : Int) 3).toNat - 0) a0).length
                          (cutL (List.take ((min (↑a0.length : Int) 3).toNat - 0) a0) (Int.toNat 0)))
                        [] (8 ^ (↑(List.take ((min (↑a0.length : Int) 3).toNat - 0) a0).length : Int).toNat) 0
                    else false)
                    (bif
                        (fstV
                            (List.take (List.take ((min (↑a0.length : Int) 3).toNat - 0) a0).length
                              (cutL (List.take ((min (↑a0.length : Int) 3).toNat - 0) a0) (Int.toNat 0)))
                            (8 ^ (↑(List.take ((min (↑a0.length : Int) 3).toNat - 0) a0).length : Int).toNat)
                            0).isNone then
                      bif
                          plE
                              (List.take (List.take ((min (↑a0.length : Int) 3).toNat - 0) a0).length
                                (cutL (List.take ((min (↑a0.length : Int) 3).toNat - 0) a0) (Int.toNat 0))) ==
                            8 then
                        some
                          (PV.sc (Value.bool true),
                            [Blk.row false
                                ((Kd.int IntKind.i64).pair
                                  ((Kd.int IntKind.i64).pair ((Kd.int IntKind.i64).pair (Kd.int IntKind.i64))))
                                a0])
                      else
                        some
                          (PV.sc (Value.bool false),
                            [Blk.row false
                                ((Kd.int IntKind.i64).pair
                                  ((Kd.int IntKind.i64).pair ((Kd.int IntKind.i64).pair (Kd.int IntKind.i64))))
                                a0])
                    else
                      some
                        (PV.sc
                            (Value.bool
                              (decide
                                  (plE
                                      (List.take (List.take ((min (↑a0.length : Int) 3).toNat - 0) a0).length
                                        (cutL (List.take ((min (↑a0.length : Int) 3).toNat - 0) a0) (Int.toNat 0))) =
                                    0) &&
                                decide
                                  ([] =
                                    (fstV
                                          (List.take (List.take ((min (↑a0.length : Int) 3).toNat - 0) a0).length
                                            (cutL (List.take ((min (↑a0.length : Int) 3).toNat - 0) a0) (Int.toNat 0)))
                                          (8 ^
                                            (↑(List.take ((min (↑a0.length : Int) 3).toNat - 0) a0).length : Int).toNat)
                                          0).getD
                                      []))),
                          [Blk.row false
                              ((Kd.int IntKind.i64).pair
                                ((Kd.int IntKind.i64).pair ((Kd.int IntKind.i64).pair (Kd.int IntKind.i64))))
                              a0]))))))))) := by kernel_rfl
theorem dT (i : Decidable True) : @decide True i = true := @decide_eq_true True i trivial
theorem drop_consI {l : List Int} {k : Nat} {x : Int} (h : l[k]? = some x) : l.drop k = x :: l.drop (k + 1) := drop_cons h
theorem p16l (a : List Int) (an : Bool) (b : List Int) (bn : Bool) (n k : Int) (h : preEq a b n k = true) : l16lL a an b bn n k = cond (decide (a.drop k.toNat = b.drop k.toNat)) (some (.exit 0, [.undef], [.row false I a, .row false I b])) (some (.ret, [.sc (.bool false)], [.row false I a, .row false I b])) := by
  obtain ⟨h1, h2, h3, h4, h5⟩ := of_decide_eq_true h
  rw [l16l]
  simp only [List.take_length, Nat.zero_add, len_true, cond_true]
  refine cond_split (fun hk => ?_) (fun hk => ?_)
  · have hk := of_decide_eq_true hk
    obtain ⟨x, hx⟩ := get_ex (l := a) (k := k.toNat) (by omega)
    obtain ⟨y, hy⟩ := get_ex (l := b) (k := k.toNat) (by omega)
    have hw : IntKind.i64.wrap (k + 1) = k + 1 := W_id _ (by omega) (by omega)
    rw [hx, hy, hw, drop_cons hx, drop_cons hy]
    refine guard_split (by simp; omega) ?_
    simp only [bindO]
    refine guard_split (by simp; omega) ?_
    refine cond_split (fun hc => ?_) (fun hc => ?_)
    · have hc : x ≠ y := by simpa using hc
      rw [decide_eq_false (fun h => hc (List.cons.inj h).1)]; rfl
    · have hc : x = y := by simpa using hc
      subst hc
      rw [show decide (x :: a.drop (k.toNat + 1) = x :: b.drop (k.toNat + 1)) = decide (a.drop (k.toNat + 1) = b.drop (k.toNat + 1)) from decide_eq_decide.mpr (by simp), show (k + 1).toNat = k.toNat + 1 by omega]
      refine guard_split (decide_eq_true ?_) (guard_split (decide_eq_true ⟨h1, h2, h3, by omega, by omega⟩) rfl)
      show (n - (k + 1)).toNat < (n - k).toNat
      omega
  · have hk := of_decide_eq_false hk
    rw [List.drop_eq_nil_of_le (by omega), List.drop_eq_nil_of_le (by omega)]; rfl
theorem p26l (a : List Int) (an : Bool) (b : List Int) (bn : Bool) (n k : Int) (h : preEq a b n k = true) : l26lL a an b bn n k = cond (decide (a.drop k.toNat = b.drop k.toNat)) (some (.exit 0, [.undef], [.row false I a, .row false I b])) (some (.ret, [.sc (.bool false)], [.row false I a, .row false I b])) := by
  obtain ⟨h1, h2, h3, h4, h5⟩ := of_decide_eq_true h
  rw [l26l]
  simp only [List.take_length, Nat.zero_add, len_true, cond_true]
  refine cond_split (fun hk => ?_) (fun hk => ?_)
  · have hk := of_decide_eq_true hk
    obtain ⟨x, hx⟩ := get_ex (l := a) (k := k.toNat) (by omega)
    obtain ⟨y, hy⟩ := get_ex (l := b) (k := k.toNat) (by omega)
    have hw : IntKind.i64.wrap (k + 1) = k + 1 := W_id _ (by omega) (by omega)
    rw [hx, hy, hw, drop_cons hx, drop_cons hy]
    refine guard_split (by simp; omega) ?_
    simp only [bindO]
    refine guard_split (by simp; omega) ?_
    refine cond_split (fun hc => ?_) (fun hc => ?_)
    · have hc : x ≠ y := by simpa using hc
      rw [decide_eq_false (fun h => hc (List.cons.inj h).1)]; rfl
    · have hc : x = y := by simpa using hc
      subst hc
      rw [show decide (x :: a.drop (k.toNat + 1) = x :: b.drop (k.toNat + 1)) = decide (a.drop (k.toNat + 1) = b.drop (k.toNat + 1)) from decide_eq_decide.mpr (by simp), show (k + 1).toNat = k.toNat + 1 by omega]
      refine guard_split (decide_eq_true ?_) (guard_split (decide_eq_true ⟨h1, h2, h3, by omega, by omega⟩) rfl)
      show (n - (k + 1)).toNat < (n - k).toNat
      omega
  · have hk := of_decide_eq_false hk
    rw [List.drop_eq_nil_of_le (by omega), List.drop_eq_nil_of_le (by omega)]; rfl
theorem p16 (a : List Int) (an : Bool) (b : List Int) (bn : Bool) (h : a.length ≤ 1000) : l16L a an b bn = some (.sc (.bool (decide (a = b))), [.row false I a, .row false I b]) := by
  rw [l16]
  simp only [List.take_length, Nat.zero_add, len_true, cond_true]
  refine cond_split (fun hc => ?_) (fun hc => ?_)
  · have hc : ¬ ((a.length : Nat) : Int) = (b.length : Nat) := by simpa using hc
    rw [decide_eq_false (fun h => hc (by rw [h]))]
  · have hc : ((a.length : Nat) : Int) = (b.length : Nat) := by simpa using hc
    refine guard_split (decide_eq_true ⟨by omega, rfl, h, by omega, by omega⟩) ?_
    rw [show a.drop (Int.toNat 0) = a from rfl, show b.drop (Int.toNat 0) = b from rfl]
    cases decide (a = b) <;> rfl
theorem p26 (a : List Int) (an : Bool) (b : List Int) (bn : Bool) (h : a.length ≤ 1000) : l26L a an b bn = some (.sc (.bool (decide (a = b))), [.row false I a, .row false I b]) := by
  rw [l26]
  simp only [List.take_length, Nat.zero_add, len_true, cond_true]
  refine cond_split (fun hc => ?_) (fun hc => ?_)
  · have hc : ¬ ((a.length : Nat) : Int) = (b.length : Nat) := by simpa using hc
    rw [decide_eq_false (fun h => hc (by rw [h]))]
  · have hc : ((a.length : Nat) : Int) = (b.length : Nat) := by simpa using hc
    refine guard_split (decide_eq_true ⟨by omega, rfl, h, by omega, by omega⟩) ?_
    rw [show a.drop (Int.toNat 0) = a from rfl, show b.drop (Int.toNat 0) = b from rfl]
    cases decide (a = b) <;> rfl
theorem p23 (l : List It) (nl : Bool) (h : l.length ≤ 1000) : l23L l nl = pickA (spec23 ((l, nl), ())).2 := by
  have key : ∀ (x : Option (PV × List Blk)), x = cond nl (some (.sc (.slice none 0 0), [.row false kIt l])) (some (slV 1 kIt (l, false), [.row false kIt l, .row true kIt l])) → x = pickA (spec23 ((l, nl), ())).2 := fun x h => h
  refine key _ ?_
  rw [l23]
  simp only [List.take_length, Nat.zero_add, len_true, cond_true]
  cases nl with
  | true => rfl
  | false =>
    refine guard_split (by simp; omega) ?_
    rw [Bool.and_false]
    cases decide (1 ≤ l.length) <;> rfl
theorem p14 (n lo hi : Int) (h : W (W (hi - lo) + 1) ≠ 0) : l14L n lo hi = some (.sc (.int .i64 (cutS n lo hi)), []) := by
  rw [l14]; unfold cutS
  refine guard_split (by rw [decide_eq_false h]; rfl) ?_
  change cond (decide (n.tmod (W (W (hi - lo) + 1)) < 0)) _ _ = _
  cases decide (n.tmod (W (W (hi - lo) + 1)) < 0) <;> rfl
theorem TL_ok : TableOK Try.prog TL := by
  have in16 : CutOK Try.prog Try.f16.ntmps (codeAt 0 (bodyF Try.f16)) [0, 1, 12, 13] [4] (entC kEq cEq) := loop_cutW (kill := killA 0 kEq) (T0_ok _) mixed muEq (by kernel_rfl) (noCuts_ok _) fun v h => p16l v.1.1 v.1.2 v.2.1.1 v.2.1.2 v.2.2.1 v.2.2.2.1 h
  have in26 : CutOK Try.prog Try.f26.ntmps (codeAt 0 (bodyF Try.f26)) [0, 1, 12, 13] [4] (entC kEq cEq) := loop_cutW (kill := killA 0 kEq) (T0_ok _) mixed muEq (by kernel_rfl) (noCuts_ok _) fun v h => p26l v.1.1 v.1.2 v.2.1.1 v.2.1.2 v.2.2.1 v.2.2.2.1 h
  exact ext_ok (entV_ok Try.call16 (liftV (T0_ok _) mixed Try.func16 (show Try.f16.body = some (bodyF Try.f16) from rfl) (cut_cons (by kernel_rfl) in16 (noCuts_ok _)) (by decide) fun v h => p16 v.1.1 v.1.2 v.2.1.1 v.2.1.2 (of_decide_eq_true h)))
    (ext_ok (entV_ok Try.call26 (liftV (T0_ok _) mixed Try.func26 (show Try.f26.body = some (bodyF Try.f26) from rfl) (cut_cons (by kernel_rfl) in26 (noCuts_ok _)) (by decide) fun v h => p26 v.1.1 v.1.2 v.2.1.1 v.2.1.2 (of_decide_eq_true h)))
    (ext_ok (entV_ok Try.call23 (liftV (T0_ok _) mixed Try.func23 (show Try.f23.body = some (bodyF Try.f23) from rfl) (kill := killA 0 k23) (noCuts_ok _) (by decide) fun v h => p23 v.1.1 v.1.2 (of_decide_eq_true h)))
    (ext_ok (entV_ok Try.call14 (liftV (T0_ok _) mixed Try.func14 (show Try.f14.body = some (bodyF Try.f14) from rfl) (noCuts_ok _) (by decide) fun v h => p14 v.1 v.2.1 v.2.2.1 (of_decide_eq_true h)))
    (ext_ok e24 (ext_ok e25 T15_ok)))))
theorem cut_step {l : List It} {k : Nat} {x : It} (hx : l[k]? = some x) : cutL (l.set k (cutI x)) (k + 1) = cutL l k := by
  have hk := (List.getElem?_eq_some_iff.1 hx).1
  unfold cutL
  rw [drop_cons hx, List.map_cons, List.drop_set_of_lt (by omega), List.take_add_one, List.take_set_of_le (by omega), List.getElem?_set_self hk]
  simp
theorem p5a (l : List It) (nl : Bool) (n k : Int) (h : preFi l n k = true) : l5aL l nl n k = some (.exit 0, [], [.row true kIt (cutL l k.toNat)]) := by
  obtain ⟨h1, h2, h3, h4⟩ := of_decide_eq_true h
  rw [l5a]
  simp only [Nat.zero_add]
  refine cond_split (fun hk => ?_) (fun hk => ?_)
  · have hk := of_decide_eq_true hk
    have hkl : k.toNat < l.length := by omega
    obtain ⟨x, hx⟩ := get_ex hkl
    have hw : IntKind.i64.wrap (k + 1) = k + 1 := W_id _ (by omega) (by omega)
    have hg : (decide (0 ≤ k) && decide (k < (l.length : Int))) = true := by simp; omega
    rw [hx]
    refine guard_split hg ?_
    simp only [bindO]
    refine guard_split hg (guard_split hg (guard_split hg ?_))
    rw [List.getElem?_set_self hkl]
    simp only [List.set_set, List.length_set]
    rw [hw, show (k + 1).toNat = k.toNat + 1 by omega]
    have hc := cut_step hx
    refine guard_split (decide_eq_true ?_) (guard_split ?_ ?_)
    · show (n - (k + 1)).toNat < (n - k).toNat
      omega
    · rw [dT]
      exact decide_eq_true ⟨by rw [List.length_set]; exact h1, by rw [List.length_set]; exact h2, by omega, by omega⟩
    · rw [← hc]; rfl
  · have hk := of_decide_eq_false hk
    unfold cutL
    rw [List.drop_eq_nil_of_le (by omega), List.take_of_length_le (by omega)]
    simp
theorem p5b (a n k : Int) (h : preLb a n k = true) : l5bL a n k = some (.exit 2, [.sc (.int .i64 (8 ^ n.toNat))], []) := by
  obtain ⟨h1, h2, h3, h4⟩ := of_decide_eq_true h
  rw [l5b]
  refine cond_split (fun hk => ?_) (fun hk => ?_)
  · have hk := of_decide_eq_true hk
    have hw : IntKind.i64.wrap (k + 1) = k + 1 := W_id _ (by omega) (by omega)
    have hc : k = 0 ∨ k = 1 ∨ k = 2 := by omega
    have ha : IntKind.i64.wrap (a * 8) = 8 ^ (k + 1).toNat := by
      rw [h4]
      rcases hc with rfl | rfl | rfl <;> decide
    rw [hw]
    refine guard_split (decide_eq_true ?_) (guard_split (decide_eq_true ⟨by omega, by omega, h3, ha⟩) rfl)
    show (n - (k + 1)).toNat < (n - k).toNat
    omega
  · have hk := of_decide_eq_false hk
    rw [h4, show k = n by omega]
theorem p5d (xs : List Int) (xn : Bool) (k n : Int) (h : preLd xs k n = true) : l5dL xs xn k n = some (.exit 6, [], [.row true I (setD (k + 1).toNat xs n)]) := by
  obtain ⟨h1, h2, h3, h4, h5⟩ := of_decide_eq_true h
  rw [l5d]
  simp only [Nat.zero_add]
  refine cond_split (fun hk => ?_) (fun hk => ?_)
  · have hk := of_decide_eq_true hk
    obtain ⟨x, hx⟩ := get_ex (l := xs) (k := k.toNat) (by omega)
    have hw : IntKind.i64.wrap (k - 1) = k - 1 := W_id _ (by omega) (by omega)
    have hq : n.tdiv 8 = n / 8 := Int.tdiv_eq_ediv_of_nonneg h4
    have hw2 : IntKind.i64.wrap (n.tdiv 8) = n.tdiv 8 := W_id _ (by omega) (by omega)
    rw [hx, hw, hw2]
    refine guard_split (by simp; omega) ?_
    simp only [bindO, List.length_set]
    refine guard_split (decide_eq_true ?_) (guard_split ?_ ?_)
    · show (k - 1 + 1).toNat < (k + 1).toNat
      omega
    · rw [dT]
      exact decide_eq_true ⟨by rw [List.length_set]; exact h1, by omega, by rw [List.length_set]; omega, by omega, by omega⟩
    · rw [show (k - 1 + 1).toNat = k.toNat by omega, show (k + 1).toNat = k.toNat + 1 by omega]; rfl
  · have hk := of_decide_eq_false hk
    rw [show (k + 1).toNat = 0 by omega]; rfl
theorem setD_at : ∀ (d : Nat) (xs : List Int) (n : Int), 0 ≤ n → (∀ s ∈ xs, spN s) → (setD d xs n).length = xs.length ∧ ∀ s ∈ setD d xs n, spN s
  | 0, xs, n, h0, h => ⟨rfl, h⟩
  | d + 1, xs, n, h0, h => by
    have hm : 0 ≤ n.tmod 8 ∧ n.tmod 8 ≤ 7 := by rw [Int.tmod_eq_emod_of_nonneg h0]; omega
    have hq : 0 ≤ n.tdiv 8 := by rw [Int.tdiv_eq_ediv_of_nonneg h0]; omega
    have := setD_at d (xs.set d (n.tmod 8)) (n.tdiv 8) hq (fun s hs => by
      rcases List.mem_or_eq_of_mem_set hs with hs | rfl
      · exact h s hs
      · exact hm)
    rw [List.length_set] at this
    exact this
theorem digs_at (len : Nat) {n : Int} (h : 0 ≤ n) : (digs len n).length = len ∧ ∀ s ∈ digs len n, spN s := by
  have := setD_at len (List.replicate len 0) n h (fun s hs => by rw [(List.mem_replicate.1 hs).2]; exact ⟨by decide, by decide⟩)
  rw [List.length_replicate] at this
  exact this
theorem fst_step {l : List It} {all n : Int} (h : n < all) : fstV l all n = bif fitV l (digs l.length n) 0 then some (digs l.length n) else fstV l all (n + 1) := by
  unfold fstV
  rw [show (all - n).toNat = (all - (n + 1)).toNat + 1 by omega]
  rfl
theorem fst_end {l : List It} {all n : Int} (h : ¬ n < all) : fstV l all n = none := by
  unfold fstV; rw [show (all - n).toNat = 0 by omega]; rfl
theorem p5e (l : List It) (nl : Bool) (p : List Int) (pn : Bool) (e all n : Int) (h : preLe l p all n = true) :
    l5eL l nl p pn e all n = cond (fstV l all n).isNone (some (.exit 4, [.undef], [.row false kIt l, .row false I p])) (some (.ret, [.sc (.bool (decide (e = 0) && decide (p = (fstV l all n).getD [])))], [.row false kIt l, .row false I p])) := by
  obtain ⟨h1, h2, h3, h4, h5, h6⟩ := bp_true.1 h
  rw [l5e]
  simp only [List.take_length, Nat.zero_add, len_true, cond_true, Int.toNat_natCast]
  refine cond_split (fun hk => ?_) (fun hk => ?_)
  · have hk := of_decide_eq_true hk
    have hall : all ≤ 512 := by
      have hc : l.length = 0 ∨ l.length = 1 ∨ l.length = 2 ∨ l.length = 3 := by omega
      rw [h3]
      rcases hc with h | h | h | h <;> rw [h] <;> decide
    have hwl : IntKind.i64.wrap ((l.length : Int) - 1) = (l.length : Int) - 1 := W_id _ (by omega) (by omega)
    have hw : IntKind.i64.wrap (n + 1) = n + 1 := W_id _ (by omega) (by omega)
    have hd : setD l.length (List.replicate l.length 0) n = digs l.length n := rfl
    obtain ⟨d1, d2⟩ := digs_at l.length h4
    rw [hwl, show ((l.length : Int) - 1 + 1).toNat = l.length by omega, hd, hw, fst_step hk]
    have ht : List.take l.length (digs l.length n) = digs l.length n := List.take_of_length_le (by omega)
    rw [ht]
    refine guard_split (by simp; omega) (guard_split ?_ (guard_split ?_ ?_))
    · rw [decide_eq_true (by simp)]
      exact decide_eq_true ⟨by rw [List.length_replicate]; exact h1, by omega, by rw [List.length_replicate]; omega, h4, by omega⟩
    · rw [decide_eq_true (by omega)]
      exact bp_mk ⟨by omega, d1, h2, d2⟩
    · cases fitV l (digs l.length n) 0 with
      | true =>
        simp only [cond_true, Option.isNone_some, cond_false, Option.getD_some]
        refine cond_split (fun hc => ?_) (fun hc => ?_)
        · rw [decide_eq_true (show e = 0 by simpa using hc)]
          refine guard_split ?_ rfl
          rw [decide_eq_true (show l.length ≤ (digs l.length n).length by omega)]
          exact decide_eq_true h6
        · rw [decide_eq_false (show ¬ e = 0 by simpa using hc)]; rfl
      | false =>
        refine guard_split (decide_eq_true ?_) (guard_split (bp_mk ⟨h1, h2, h3, by omega, by omega, h6⟩) rfl)
        show (all - (n + 1)).toNat < (all - n).toNat
        omega
  · have hk := of_decide_eq_false hk
    rw [fst_end hk]; rfl
theorem chk_ok {l : List It} (h : chkL l = 0) : l.length ≤ 32 ∧ ∀ x ∈ l, okIt x := by
  unfold chkL at h
  by_cases h1 : 32 < l.length
  · rw [decide_eq_true h1] at h; exact absurd (show (2 : Int) = 0 from h) (by decide)
  rw [decide_eq_false h1] at h
  simp only [cond_false] at h
  cases hb : badL l with
  | true => rw [hb] at h; exact absurd h (by decide)
  | false =>
    refine ⟨by omega, fun x hx => ?_⟩
    unfold badL at hb
    have := List.any_eq_false.1 hb x hx
    simpa using this
theorem p5 (l : List It) (nl : Bool) : l5L l nl = some (.sc (.bool true), [.row false kIt l]) := by
  rw [l5]
  have hm : (min (l.length : Int) 3).toNat - 0 = min l.length 3 := by omega
  simp only [hm, Nat.zero_add]
  refine guard_split (by simp; omega) (guard_split ?_ ?_)
  · rw [decide_eq_true (show min l.length 3 ≤ l.length by omega)]
    exact decide_eq_true (by rw [List.length_take]; omega)
  generalize hM : List.take (min l.length 3) l = m
  have hm3 : m.length ≤ 3 := by rw [← hM, List.length_take]; omega
  cases nl with
  | true => exact guard_split (bp_mk ⟨by decide, fun x hx => (by cases hx), by decide, by decide, by decide, by decide⟩) rfl
  | false =>
    have hcl : (cutL m (Int.toNat 0)).length = m.length := by unfold cutL; simp
    rw [show List.take m.length (cutL m (Int.toNat 0)) = cutL m (Int.toNat 0) from List.take_of_length_le (by omega)]
    rw [hcl]
    generalize hC : cutL m (Int.toNat 0) = c at hcl
    rw [← hcl] at hm3 ⊢
    simp only [cond_false, len_true, cond_true, List.take_length, Int.toNat_natCast]
    rw [dT]
    refine guard_split (decide_eq_true ⟨by omega, by omega, by omega, by omega⟩) (guard_split rfl ?_)
    have hlb : preLb 1 (c.length : Nat) 0 = true := decide_eq_true ⟨by omega, by omega, by omega, rfl⟩
    by_cases hk : chkL c = 0
    · obtain ⟨_, hok⟩ := chk_ok hk
      by_cases h0 : c.length = 0
      · obtain rfl : c = [] := List.length_eq_zero_iff.1 h0
        have e1 : plV [] = none := rfl
        have e2 : plE [] = 0 := rfl
        simp only [e1, hk, e2, Option.isSome_none, cond_false, show ((0 : Int) != 0) = false from rfl]
        refine guard_split rfl (guard_split hlb (guard_split (bp_mk ⟨by decide, fun x hx => (by cases hx), by decide, by decide, by decide, by decide⟩) rfl))
      · have hp : plV c = fstV c (8 ^ c.length) 0 := by
          unfold plV
          rw [decide_eq_true hk, decide_eq_true (show c.length ≤ 6 by omega), decide_eq_true (show c.length ≠ 0 from h0)]
          exact first_of_all h0 hm3 hok
        have hpe : plE c = 8 := by
          unfold plE
          rw [decide_eq_true hk, decide_eq_true (show c.length ≤ 6 by omega), decide_eq_false h0]; rfl
        rw [hp, hpe, hk]
        have hpos : (0 : Int) ≤ 8 ^ c.length := Int.pow_nonneg (by decide)
        have hor : fstV c (8 ^ c.length) 0 = none ∨ ∃ o, fstV c (8 ^ c.length) 0 = some o := by cases fstV c (8 ^ c.length) 0 <;> simp
        rcases hor with hf | ⟨o, hf⟩
        · simp only [hf, Option.isSome_none, Option.isNone_none, cond_false, cond_true, show ((0 : Int) != 0) = false from rfl]
          exact guard_split rfl (guard_split hlb (guard_split (bp_mk ⟨hm3, hok, rfl, by decide, hpos, by decide⟩) rfl))
        · have hlen : o.length ≤ 1000 := by
            have := first_of_all h0 hm3 hok
            rw [hf] at this
            have e1 := srch_eq (l := c) c.length 7 [] (by simp) (by omega)
            rw [show bxs c 0 [] = [] from rfl, this] at e1
            have e2 : (fun t : List Int => ([] : List Int) ++ t) = id := rfl
            rw [e2, Option.map_id] at e1
            have := ext_mem (List.mem_of_find?_eq_some e1.symm)
            omega
          simp only [hf, Option.isSome_some, Option.isNone_some, Option.getD_some, cond_false, cond_true, show ((0 : Int) != 0) = false from rfl, decide_true]
          exact guard_split rfl (guard_split hlb (guard_split (bp_mk ⟨hm3, hok, rfl, by decide, hpos, hlen⟩) rfl))
    · have hp : plV c = none := by unfold plV; rw [decide_eq_false hk]; rfl
      have hpe : plE c = chkL c := by unfold plE; rw [decide_eq_false hk]; rfl
      rw [hp, hpe]
      refine guard_split rfl ?_
      rw [show (chkL c != 0) = true by simpa using hk, beq_self_eq_true]
      rfl
theorem in5a : CutOK Try.prog Try.f5.ntmps (codeAt 0 (bodyF Try.f5)) [0, 36, 37] [] (entC kLa cLa) := loop_cutW (kill := killA 0 kLa) TL_ok mixed muLa (by kernel_rfl) (noCuts_ok _) fun v h => p5a v.1.1 v.1.2 v.2.1 v.2.2.1 h
theorem in5b : CutOK Try.prog Try.f5.ntmps (codeAt 2 (bodyF Try.f5)) [9, 79, 80] [9] (entC kLb cLb) := loop_cutW (kill := killA 0 kLb) TL_ok mixed muLb (by kernel_rfl) (noCuts_ok _) fun v h => p5b v.1 v.2.1 v.2.2.1 h
theorem in5d : CutOK Try.prog Try.f5.ntmps (codeAt 6 (bodyF Try.f5)) [11, 12, 13] [] (entC kLd cLd) := loop_cutW (kill := killA 0 kLd) TL_ok mixed muLd (by kernel_rfl) (noCuts_ok _) fun v h => p5d v.1.1 v.1.2 v.2.1 v.2.2.1 h
theorem in5e : CutOK Try.prog Try.f5.ntmps (codeAt 4 (bodyF Try.f5)) [0, 6, 7, 85, 86] [2] (entC kLe cLe) := loop_cutW (kill := killA 0 kLe) TL_ok mixed muLe (by kernel_rfl) (cut_at (by kernel_rfl) (by kernel_rfl) in5d (noCuts_ok _)) fun v h => p5e v.1.1 v.1.2 v.2.1.1 v.2.1.2 v.2.2.1 v.2.2.2.1 v.2.2.2.2.1 h
theorem lawOK (v : denA [(.s (.ro (Kd.pair (Kd.int .i64) (Kd.pair (Kd.int .i64) (Kd.pair (Kd.int .i64) (Kd.int .i64))))))]) (h : (gSlice (k := (Kd.pair (Kd.int .i64) (Kd.pair (Kd.int .i64) (Kd.pair (Kd.int .i64) (Kd.int .i64))))) 32 (both (gInt .i64) (both (gInt .i64) (both (gInt .i64) (gInt .i64))))) v.1 ∧ True) : ∃ H', CallOK Try.prog 5 (showA 0 [(.s (.ro (Kd.pair (Kd.int .i64) (Kd.pair (Kd.int .i64) (Kd.pair (Kd.int .i64) (Kd.int .i64))))))] v).1 (showA 0 [(.s (.ro (Kd.pair (Kd.int .i64) (Kd.pair (Kd.int .i64) (Kd.pair (Kd.int .i64) (Kd.int .i64))))))] v).2 (.sc (.bool true)) H' := by
  exact ⟨_, evFuncV_sound TL_ok mixed Try.func5 (show Try.f5.body = some (bodyF Try.f5) from rfl) (cut_cons (by kernel_rfl) in5a (cut_cons (by kernel_rfl) in5b (cut_cons (by kernel_rfl) in5e (noCuts_ok _)))) (p5 v.1.1 v.1.2) (by rw [showA_len]; decide)⟩
end Go.Proofs.YtacdahpjmeianaaLb
