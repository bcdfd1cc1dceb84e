/- What is proved: what the bytes of numbers, the checksums and the errors of frames answer. No condition. -/
import Derived.Test.YtacdahpjmeianaaTwi3
namespace Go.Proofs.YtacdahpjmeianaaWi
open Go Go.Proofs Go.Proofs.YtacdahpjmeianaaEv Go.Proofs.YtacdahpjmeianaaFl
set_option maxRecDepth 100000
set_option maxHeartbeats 4000000
set_option linter.unusedVariables false
set_option linter.unusedSimpArgs false
noncomputable abbrev r93L (v : Int) := (evFuncV Try.prog F5 noCuts Try.f93 [] (st93 v).1 (st93 v).2)
theorem r93 (v : Int) : r93L v = (some
  (PV.sl 1 0 1 3 3 false false,
    [Blk.row false (Kd.int IntKind.u8) [83, 87],
      Blk.row true (Kd.int IntKind.u8) [83, 87, IntKind.u8.wrap (v.fdiv (2 ^ min (Int.toNat 0) IntKind.u64.bits))]])) := by kernel_rfl
noncomputable abbrev w93aL (a0 : List Int) (a1 : Bool) (a2 : Int) (a3 : Int) := evRound Try.prog F5 noCuts 23 (loopOf (codeAt 0 (bodyF Try.f93))) kPu muPu (killA 0 kPu) [0, 1, 7] [0] cPu ((a0, a1), (a2, (a3, ())))
theorem w93a (a0 : List Int) (a1 : Bool) (a2 : Int) (a3 : Int) : w93aL a0 a1 a2 a3 = (bif decide (a3 ≥ 0) then
  guardB (decide (0 ≤ IntKind.i64.wrap (8 * a3)))
    (guardB
      (decide (0 + a0.length ≤ a0.length) && true && decide ((a0.length + 1) * 1 ≤ 140737488355328) &&
        decide (a0.length + 1 ≤ 4611686018427387904))
      (guardB
        (decide
          (muPu
              ((List.take a0.length a0 ++
                    [IntKind.u8.wrap (a2.fdiv (2 ^ min (IntKind.i64.wrap (8 * a3)).toNat IntKind.u64.bits))],
                  false),
                a2, IntKind.i64.wrap (a3 - 1), ()) <
            muPu ((a0, a1), a2, a3, ())))
        (guardB
          (bif
              decide
                (a0.length + 1 =
                  (List.take a0.length a0 ++
                      [IntKind.u8.wrap
                          (a2.fdiv (2 ^ min (IntKind.i64.wrap (8 * a3)).toNat IntKind.u64.bits))]).length) then
            decide
              (0 ≤ a2 ∧
                -1 ≤ IntKind.i64.wrap (a3 - 1) ∧
                  IntKind.i64.wrap (a3 - 1) ≤ 7 ∧
                    (↑(List.take a0.length a0 ++
                                [IntKind.u8.wrap
                                    (a2.fdiv (2 ^ min (IntKind.i64.wrap (8 * a3)).toNat IntKind.u64.bits))]).length :
                          Int) +
                        IntKind.i64.wrap (a3 - 1) ≤
                      100007)
          else false)
          (some
            (Xt.exit 0,
              [PV.sl 1 0 1
                  (List.take a0.length a0 ++
                        [IntKind.u8.wrap (a2.fdiv (2 ^ min (IntKind.i64.wrap (8 * a3)).toNat IntKind.u64.bits))] ++
                      putL a2 (Int.toNat (IntKind.i64.wrap (a3 - 1) + 1))).length
                  (List.take a0.length a0 ++
                        [IntKind.u8.wrap (a2.fdiv (2 ^ min (IntKind.i64.wrap (8 * a3)).toNat IntKind.u64.bits))] ++
                      putL a2 (Int.toNat (IntKind.i64.wrap (a3 - 1) + 1))).length
                  false (bif decide (0 ≤ IntKind.i64.wrap (a3 - 1)) then false else false)],
              [Blk.dead,
                Blk.row true (Kd.int IntKind.u8)
                  (List.take a0.length a0 ++
                      [IntKind.u8.wrap (a2.fdiv (2 ^ min (IntKind.i64.wrap (8 * a3)).toNat IntKind.u64.bits))] ++
                    putL a2 (Int.toNat (IntKind.i64.wrap (a3 - 1) + 1)))])))))
else some (Xt.exit 0, [PV.sl 1 0 1 a0.length a0.length false a1], [Blk.dead, Blk.row true (Kd.int IntKind.u8) a0])) := by kernel_rfl
noncomputable abbrev w93L (a0 : List Int) (a1 : Bool) (a2 : Int) (a3 : Int) := evFuncV Try.prog F5 (addCut 0 [0, 1, 7] [0] (entC kPu cPu) noCuts) Try.f93 (killA 0 kPu) (showA 0 kPu ((a0, a1), (a2, (a3, ())))).1 (showA 0 kPu ((a0, a1), (a2, (a3, ())))).2
theorem w93 (a0 : List Int) (a1 : Bool) (a2 : Int) (a3 : Int) : w93L a0 a1 a2 a3 = (guardB
  (bif decide (a0.length = a0.length) then
    decide
      (0 ≤ a2 ∧
        -1 ≤ IntKind.i64.wrap (a3 - 1) ∧
          IntKind.i64.wrap (a3 - 1) ≤ 7 ∧ (↑a0.length : Int) + IntKind.i64.wrap (a3 - 1) ≤ 100007)
  else false)
  (some
    (PV.sl 1 0 1 (a0 ++ putL a2 (Int.toNat (IntKind.i64.wrap (a3 - 1) + 1))).length
        (a0 ++ putL a2 (Int.toNat (IntKind.i64.wrap (a3 - 1) + 1))).length false
        (bif decide (0 ≤ IntKind.i64.wrap (a3 - 1)) then false else a1),
      [Blk.dead, Blk.row true (Kd.int IntKind.u8) (a0 ++ putL a2 (Int.toNat (IntKind.i64.wrap (a3 - 1) + 1)))]))) := by kernel_rfl
noncomputable abbrev w52aL (a0 : ByteArray) (a1 : Int) (a2 : Int) (a3 : Int) (a4 : Int) := evRound Try.prog F5 noCuts 27 (loopOf (codeAt 0 (bodyF Try.f52))) kSu muSu (killA 0 kSu) [0, 3, 4, 7, 8] [3, 4] cSu (a0, (a1, (a2, (a3, (a4, ())))))
theorem w52a (a0 : ByteArray) (a1 : Int) (a2 : Int) (a3 : Int) (a4 : Int) : w52aL a0 a1 a2 a3 a4 = (bif decide (a4 < a3) then
  guardB (decide (0 ≤ a4))
    (bindO a0[a4.toNat]? fun x =>
      guardB
        (decide
          (muSu
              (a0, (IntKind.i64.wrap (a1 + IntKind.i64.wrap (↑x.toNat : Int))).tmod 255,
                (IntKind.i64.wrap (a2 + (IntKind.i64.wrap (a1 + IntKind.i64.wrap (↑x.toNat : Int))).tmod 255)).tmod 255,
                a3, IntKind.i64.wrap (a4 + 1), ()) <
            muSu (a0, a1, a2, a3, a4, ())))
        (guardB
          (preSu a0 a3 (IntKind.i64.wrap (a4 + 1)) &&
            decide
              (0 ≤ (IntKind.i64.wrap (a1 + IntKind.i64.wrap (↑x.toNat : Int))).tmod 255 ∧
                (IntKind.i64.wrap (a1 + IntKind.i64.wrap (↑x.toNat : Int))).tmod (255 : Int) < 255 ∧
                  0 ≤
                      (IntKind.i64.wrap
                            (a2 + (IntKind.i64.wrap (a1 + IntKind.i64.wrap (↑x.toNat : Int))).tmod 255)).tmod
                        255 ∧
                    (IntKind.i64.wrap (a2 + (IntKind.i64.wrap (a1 + IntKind.i64.wrap (↑x.toNat : Int))).tmod 255)).tmod
                        255 <
                      255))
          (some
            (Xt.exit 0,
              [PV.sc
                  (Value.int IntKind.i64
                    (sumR ((IntKind.i64.wrap (a1 + IntKind.i64.wrap (↑x.toNat : Int))).tmod 255)
                        ((IntKind.i64.wrap
                              (a2 + (IntKind.i64.wrap (a1 + IntKind.i64.wrap (↑x.toNat : Int))).tmod 255)).tmod
                          255)
                        (List.drop (IntKind.i64.wrap (a4 + 1)).toNat (bytesI a0))).fst),
                PV.sc
                  (Value.int IntKind.i64
                    (sumR ((IntKind.i64.wrap (a1 + IntKind.i64.wrap (↑x.toNat : Int))).tmod 255)
                        ((IntKind.i64.wrap
                              (a2 + (IntKind.i64.wrap (a1 + IntKind.i64.wrap (↑x.toNat : Int))).tmod 255)).tmod
                          255)
                        (List.drop (IntKind.i64.wrap (a4 + 1)).toNat (bytesI a0))).snd)],
              []))))
else some (Xt.exit 0, [PV.sc (Value.int IntKind.i64 a1), PV.sc (Value.int IntKind.i64 a2)], [])) := by kernel_rfl
noncomputable abbrev w52L (a0 : ByteArray) := evFuncV Try.prog F5 (addCut 0 [0, 3, 4, 7, 8] [3, 4] (entC kSu cSu) noCuts) Try.f52 (killA 0 [sS]) (showA 0 [sS] (a0, ())).1 (showA 0 [sS] (a0, ())).2
theorem w52 (a0 : ByteArray) : w52L a0 = (guardB (preSu a0 (↑a0.size : Int) 0 && decide ((0 : Int) ≤ 0 ∧ (0 : Int) < 255 ∧ (0 : Int) ≤ 0 ∧ (0 : Int) < 255))
  (some
    (PV.sc
        (Value.int IntKind.i64
          (IntKind.i64.wrap
            (↑(BitVec.ofInt IntKind.i64.bits
                      (IntKind.i64.wrap ((sumR 0 0 (List.drop (Int.toNat 0) (bytesI a0))).snd * 256)) |||
                    BitVec.ofInt IntKind.i64.bits (sumR 0 0 (List.drop (Int.toNat 0) (bytesI a0))).fst).toNat :
              Int))),
      []))) := by kernel_rfl
noncomputable abbrev w55aL (a0 : ByteArray) (a1 : Int) (a2 : Int) (a3 : Int) (a4 : Int) := evRound Try.prog F5 noCuts 35 (loopOf (codeAt 0 (bodyF Try.f55))) kSu muSu (killA 0 kSu) [0, 3, 4, 7, 8] [3, 4] cCk (a0, (a1, (a2, (a3, (a4, ())))))
theorem w55a (a0 : ByteArray) (a1 : Int) (a2 : Int) (a3 : Int) (a4 : Int) : w55aL a0 a1 a2 a3 a4 = (bif decide (a4 < a3) then
  guardB (decide (0 ≤ a4))
    (bindO a0[a4.toNat]? fun x =>
      guardB (decide (0 ≤ a4))
        (bindO a0[a4.toNat]? fun x_1 =>
          guardB
            (decide
              (muSu
                  (a0, IntKind.i64.wrap (a1 + IntKind.i64.wrap (↑x.toNat : Int)),
                    IntKind.i64.wrap
                      (a2 +
                        IntKind.i64.wrap
                          (IntKind.i64.wrap (↑x_1.toNat : Int) * IntKind.i64.wrap ((↑a0.size : Int) - a4))),
                    a3, IntKind.i64.wrap (a4 + 1), ()) <
                muSu (a0, a1, a2, a3, a4, ())))
            (guardB
              (preSu a0 a3 (IntKind.i64.wrap (a4 + 1)) &&
                decide
                  (0 ≤ IntKind.i64.wrap (a1 + IntKind.i64.wrap (↑x.toNat : Int)) ∧
                    IntKind.i64.wrap (a1 + IntKind.i64.wrap (↑x.toNat : Int)) ≤ 255 * IntKind.i64.wrap (a4 + 1) ∧
                      0 ≤
                          IntKind.i64.wrap
                            (a2 +
                              IntKind.i64.wrap
                                (IntKind.i64.wrap (↑x_1.toNat : Int) * IntKind.i64.wrap ((↑a0.size : Int) - a4))) ∧
                        IntKind.i64.wrap
                            (a2 +
                              IntKind.i64.wrap
                                (IntKind.i64.wrap (↑x_1.toNat : Int) * IntKind.i64.wrap ((↑a0.size : Int) - a4))) ≤
                          1020000 * IntKind.i64.wrap (a4 + 1)))
              (some
                (Xt.exit 0,
                  [PV.sc
                      (Value.int IntKind.i64
                        (chkR (IntKind.i64.wrap (a1 + IntKind.i64.wrap (↑x.toNat : Int)))
                            (IntKind.i64.wrap
                              (a2 +
                                IntKind.i64.wrap
                                  (IntKind.i64.wrap (↑x_1.toNat : Int) * IntKind.i64.wrap ((↑a0.size : Int) - a4))))
                            (List.drop (IntKind.i64.wrap (a4 + 1)).toNat (bytesI a0))).fst),
                    PV.sc
                      (Value.int IntKind.i64
                        (chkR (IntKind.i64.wrap (a1 + IntKind.i64.wrap (↑x.toNat : Int)))
                            (IntKind.i64.wrap
                              (a2 +
                                IntKind.i64.wrap
                                  (IntKind.i64.wrap (↑x_1.toNat : Int) * IntKind.i64.wrap ((↑a0.size : Int) - a4))))
                            (List.drop (IntKind.i64.wrap (a4 + 1)).toNat (bytesI a0))).snd)],
                  [])))))
else some (Xt.exit 0, [PV.sc (Value.int IntKind.i64 a1), PV.sc (Value.int IntKind.i64 a2)], [])) := by kernel_rfl
noncomputable abbrev w55L (a0 : ByteArray) := evFuncV Try.prog F5 (addCut 0 [0, 3, 4, 7, 8] [3, 4] (entC kSu cCk) noCuts) Try.f55 (killA 0 [sS]) (showA 0 [sS] (a0, ())).1 (showA 0 [sS] (a0, ())).2
theorem w55 (a0 : ByteArray) : w55L a0 = (guardB (preSu a0 (↑a0.size : Int) 0 && decide ((0 : Int) ≤ 0 ∧ (0 : Int) ≤ 255 * 0 ∧ (0 : Int) ≤ 0 ∧ (0 : Int) ≤ 1020000 * 0))
  (some
    (PV.sc
        (Value.int IntKind.i64
          (IntKind.i64.wrap
            (IntKind.i64.wrap ((chkR 0 0 (List.drop (Int.toNat 0) (bytesI a0))).snd.tmod 255 * 256) +
              (chkR 0 0 (List.drop (Int.toNat 0) (bytesI a0))).fst.tmod 255))),
      []))) := by kernel_rfl
noncomputable abbrev w97L (a0 : Int) (a1 : Int) (a2 : List (Int × Int × Int × Int × Int × Int)) (a3 : Bool) (a4 : Int) (a5 : Int) (a6 : Int) (a7 : Int) (a8 : Int) (a9 : Int) := evFuncV Try.prog F5 noCuts Try.f97 (killA 0 [aF, sP]) (showA 0 [aF, sP] ((a0, (a1, ((a2, a3), ()))), ((a4, (a5, (a6, (a7, (a8, a9))))), ()))).1 (showA 0 [aF, sP] ((a0, (a1, ((a2, a3), ()))), ((a4, (a5, (a6, (a7, (a8, a9))))), ()))).2
theorem w97 (a0 : Int) (a1 : Int) (a2 : List (Int × Int × Int × Int × Int × Int)) (a3 : Bool) (a4 : Int) (a5 : Int) (a6 : Int) (a7 : Int) (a8 : Int) (a9 : Int) : w97L a0 a1 a2 a3 a4 a5 a6 a7 a8 a9 = (bif a4 != a0 then
  some
    (PV.sc (Value.int IntKind.i64 3),
      [Blk.row false
          ((Kd.int IntKind.i64).pair
            ((Kd.int IntKind.i64).pair
              ((Kd.int IntKind.i64).pair ((Kd.int IntKind.i64).pair ((Kd.int IntKind.i64).pair (Kd.int IntKind.i64))))))
          a2])
else
  bif a5 != a1 then
    some
      (PV.sc (Value.int IntKind.i64 3),
        [Blk.row false
            ((Kd.int IntKind.i64).pair
              ((Kd.int IntKind.i64).pair
                ((Kd.int IntKind.i64).pair
                  ((Kd.int IntKind.i64).pair ((Kd.int IntKind.i64).pair (Kd.int IntKind.i64))))))
            a2])
  else
    bif decide (a6 < 0) then
      some
        (PV.sc (Value.int IntKind.i64 4),
          [Blk.row false
              ((Kd.int IntKind.i64).pair
                ((Kd.int IntKind.i64).pair
                  ((Kd.int IntKind.i64).pair
                    ((Kd.int IntKind.i64).pair ((Kd.int IntKind.i64).pair (Kd.int IntKind.i64))))))
              a2])
    else
      bif decide (a6 > 2000000) then
        some
          (PV.sc (Value.int IntKind.i64 4),
            [Blk.row false
                ((Kd.int IntKind.i64).pair
                  ((Kd.int IntKind.i64).pair
                    ((Kd.int IntKind.i64).pair
                      ((Kd.int IntKind.i64).pair ((Kd.int IntKind.i64).pair (Kd.int IntKind.i64))))))
                a2])
      else
        bif decide (a7 < 0) then
          some
            (PV.sc (Value.int IntKind.i64 4),
              [Blk.row false
                  ((Kd.int IntKind.i64).pair
                    ((Kd.int IntKind.i64).pair
                      ((Kd.int IntKind.i64).pair
                        ((Kd.int IntKind.i64).pair ((Kd.int IntKind.i64).pair (Kd.int IntKind.i64))))))
                  a2])
        else
          bif decide (a7 > 4095) then
            some
              (PV.sc (Value.int IntKind.i64 4),
                [Blk.row false
                    ((Kd.int IntKind.i64).pair
                      ((Kd.int IntKind.i64).pair
                        ((Kd.int IntKind.i64).pair
                          ((Kd.int IntKind.i64).pair ((Kd.int IntKind.i64).pair (Kd.int IntKind.i64))))))
                    a2])
          else
            bif decide (a8 < 0) then
              some
                (PV.sc (Value.int IntKind.i64 4),
                  [Blk.row false
                      ((Kd.int IntKind.i64).pair
                        ((Kd.int IntKind.i64).pair
                          ((Kd.int IntKind.i64).pair
                            ((Kd.int IntKind.i64).pair ((Kd.int IntKind.i64).pair (Kd.int IntKind.i64))))))
                      a2])
            else
              bif decide (a8 > 60000) then
                some
                  (PV.sc (Value.int IntKind.i64 4),
                    [Blk.row false
                        ((Kd.int IntKind.i64).pair
                          ((Kd.int IntKind.i64).pair
                            ((Kd.int IntKind.i64).pair
                              ((Kd.int IntKind.i64).pair ((Kd.int IntKind.i64).pair (Kd.int IntKind.i64))))))
                        a2])
              else
                bif decide (a9 < -1) then
                  some
                    (PV.sc (Value.int IntKind.i64 4),
                      [Blk.row false
                          ((Kd.int IntKind.i64).pair
                            ((Kd.int IntKind.i64).pair
                              ((Kd.int IntKind.i64).pair
                                ((Kd.int IntKind.i64).pair ((Kd.int IntKind.i64).pair (Kd.int IntKind.i64))))))
                          a2])
                else
                  bif decide (a9 > 4095) then
                    some
                      (PV.sc (Value.int IntKind.i64 4),
                        [Blk.row false
                            ((Kd.int IntKind.i64).pair
                              ((Kd.int IntKind.i64).pair
                                ((Kd.int IntKind.i64).pair
                                  ((Kd.int IntKind.i64).pair ((Kd.int IntKind.i64).pair (Kd.int IntKind.i64))))))
                            a2])
                  else
                    some
                      (PV.sc (Value.int IntKind.i64 0),
                        [Blk.row false
                            ((Kd.int IntKind.i64).pair
                              ((Kd.int IntKind.i64).pair
                                ((Kd.int IntKind.i64).pair
                                  ((Kd.int IntKind.i64).pair ((Kd.int IntKind.i64).pair (Kd.int IntKind.i64))))))
                            a2])) := by kernel_rfl
noncomputable abbrev w95L (a0 : Int) (a1 : Int) (a2 : Int) := evFuncV Try.prog F5 noCuts Try.f95 (killA 0 [sI, sI, sI]) (showA 0 [sI, sI, sI] (a0, (a1, (a2, ())))).1 (showA 0 [sI, sI, sI] (a0, (a1, (a2, ())))).2
theorem w95 (a0 : Int) (a1 : Int) (a2 : Int) : w95L a0 a1 a2 = (bif decide (a0 ≥ a1) then some (PV.sc (Value.bool (decide (a0 ≤ a2))), []) else some (PV.sc (Value.bool false), [])) := by kernel_rfl
noncomputable abbrev w96L (a0 : Int) (a1 : Int) (a2 : Int) (a3 : Int) (a4 : Int) (a5 : Int) := evFuncV Try.prog W1 noCuts Try.f96 (killA 0 [sP]) (showA 0 [sP] ((a0, (a1, (a2, (a3, (a4, a5))))), ())).1 (showA 0 [sP] ((a0, (a1, (a2, (a3, (a4, a5))))), ())).2
theorem w96 (a0 : Int) (a1 : Int) (a2 : Int) (a3 : Int) (a4 : Int) (a5 : Int) : w96L a0 a1 a2 a3 a4 a5 = (bif inS a0 0 255 then
  bif inS a1 0 200000 then
    bif inS a2 0 2000000 then
      bif inS a3 0 4095 then
        bif inS a4 0 60000 then
          bif inS a5 (-1) 4095 then some (PV.sc (Value.int IntKind.i64 0), [])
          else some (PV.sc (Value.int IntKind.i64 4), [])
        else some (PV.sc (Value.int IntKind.i64 4), [])
      else some (PV.sc (Value.int IntKind.i64 4), [])
    else some (PV.sc (Value.int IntKind.i64 4), [])
  else some (PV.sc (Value.int IntKind.i64 4), [])
else some (PV.sc (Value.int IntKind.i64 4), [])) := by kernel_rfl
noncomputable abbrev w67zL (a0 : Int) (a1 : Int) := evFuncV Try.prog F5 noCuts Try.f67 (killA 0 [sU, sI]) (showA 0 [sU, sI] (a0, (a1, ()))).1 (showA 0 [sU, sI] (a0, (a1, ()))).2
theorem w67z (a0 : Int) (a1 : Int) : w67zL a0 a1 = (bif a1 == 0 then some (PV.sc (Value.string (ByteArray.mk #[])), []) else none) := by kernel_rfl
noncomputable abbrev w67L (d : Nat) (a0 : Int) (a1 : Int) := evFuncV Try.prog (B d) noCuts Try.f67 (killA 0 [sU, sI]) (showA 0 [sU, sI] (a0, (a1, ()))).1 (showA 0 [sU, sI] (a0, (a1, ()))).2
theorem w67 (d : Nat) (a0 : Int) (a1 : Int) : w67L d a0 a1 = (bif a1 == 0 then some (PV.sc (Value.string (ByteArray.mk #[])), [])
else
  guardB
    (bp
      (0 ≤ IntKind.u64.wrap (a0.tdiv 256) ∧
        IntKind.u64.wrap (a0.tdiv 256) < 18446744073709551616 ∧
          0 ≤ IntKind.i64.wrap (a1 - 1) ∧ IntKind.i64.wrap (a1 - 1) ≤ (↑d : Int) ∧ d ≤ 8))
    (guardB
      (((bytS (IntKind.u64.wrap (a0.tdiv 256)) (IntKind.i64.wrap (a1 - 1))).size +
            (strOfNums (List.take 1 (List.drop 0 [IntKind.u8.wrap (a0.tmod 256)]))).size).ble
        9223372036854775807)
      (some
        (PV.sc
            (Value.string
              (bytS (IntKind.u64.wrap (a0.tdiv 256)) (IntKind.i64.wrap (a1 - 1)) ++
                strOfNums (List.take 1 (List.drop 0 [IntKind.u8.wrap (a0.tmod 256)])))),
          [])))) := by kernel_rfl
theorem drop_cons {α : Type} {l : List α} {k : Nat} {x : α} (h : l[k]? = some x) : l.drop k = x :: l.drop (k + 1) := by
  obtain ⟨hk, rfl⟩ := List.getElem?_eq_some_iff.1 h
  exact List.drop_eq_getElem_cons hk
theorem get_ex {α : Type} {l : List α} {k : Nat} (h : k < l.length) : ∃ x, l[k]? = some x := ⟨l[k], List.getElem?_eq_getElem h⟩
theorem len_true {α : Type} (l : List α) : decide (l.length ≤ l.length) = true := by simp
theorem bytes_get (s : ByteArray) (k : Nat) (h : k < s.size) : ∃ x : UInt8, s[k]? = some x ∧ (bytesI s)[k]? = some (x.toNat : Int) := by
  have h2 : k < s.data.size := h
  refine ⟨s[k], getElem?_pos s k h, ?_⟩
  unfold bytesI
  rw [List.getElem?_map, Array.getElem?_toList, Array.getElem?_eq_getElem h2]; rfl
theorem uB (x : UInt8) : (0 : Int) ≤ (x.toNat : Int) ∧ (x.toNat : Int) ≤ 255 := by
  have : x.toNat < 256 := x.toNat_lt
  omega
theorem q93a (l : List Int) (nl : Bool) (n k : Int) (h : 0 ≤ n ∧ -1 ≤ k ∧ k ≤ 7 ∧ (l.length : Int) + k ≤ 100007) : w93aL l nl n k = pickA (cPu ((l, nl), n, k, ())).2 := by
  obtain ⟨h1, h2, h3, h4⟩ := h
  show _ = some (Xt.exit 0, [PV.sl 1 0 1 (l ++ putL n (k + 1).toNat).length (l ++ putL n (k + 1).toNat).length false (bif decide (0 ≤ k) then false else nl)], [Blk.dead, Blk.row true (.int .u8) (l ++ putL n (k + 1).toNat)])
  rw [w93a]
  refine cond_split (fun h => ?_) (fun h => ?_)
  · have h := of_decide_eq_true h
    rw [IntWalk.i64_in (8 * k) (by omega), IntWalk.i64_in (k - 1) (by omega), List.take_length, show IntKind.u64.bits = 64 from rfl]
    have e : l ++ [IntKind.u8.wrap (n.fdiv (2 ^ min (8 * k).toNat 64))] ++ putL n (k - 1 + 1).toNat = l ++ putL n (k + 1).toNat := by
      rw [show (k + 1).toNat = k.toNat + 1 by omega, putL, show (k - 1 + 1).toNat = k.toNat by omega, show ((k.toNat : Nat) : Int) = k by omega]
      simp [byteAt]
    rw [e]
    refine guard_split (decide_eq_true (by omega)) (guard_split (by simp; omega) (guard_split (decide_eq_true (show (k - 1 + 1).toNat < (k + 1).toNat by omega)) (guard_split ?_ ?_)))
    · rw [decide_eq_true (show l.length + 1 = (l ++ [IntKind.u8.wrap (n.fdiv (2 ^ min (8 * k).toNat 64))]).length by simp)]
      exact decide_eq_true ⟨h1, by omega, by omega, by rw [List.length_append]; show ((l.length + 1 : Nat) : Int) + _ ≤ _; omega⟩
    · rw [decide_eq_true (show (0 : Int) ≤ k by omega)]
      cases decide (0 ≤ k - 1) <;> rfl
  · have h := of_decide_eq_false h
    have e : k = -1 := by omega
    subst e
    rw [show (-1 + 1 : Int).toNat = 0 from rfl, putL, List.append_nil]; rfl
theorem in93 : CutOK Try.prog Try.f93.ntmps (codeAt 0 (bodyF Try.f93)) [0, 1, 7] [0] (entC kPu cPu) :=
  loop_cutW (kill := killA 0 kPu) F5_ok mixed muPu (by kernel_rfl) (noCuts_ok _) fun v h => q93a v.1.1 v.1.2 v.2.1 v.2.2.1 (of_decide_eq_true h)
theorem q93 (l : List Int) (nl : Bool) (n k : Int) (h : 0 ≤ n ∧ 1 ≤ k ∧ k ≤ 8 ∧ l.length ≤ 100000) : w93L l nl n k = some (PV.sl 1 0 1 (l ++ putB n k).length (l ++ putB n k).length false false, [Blk.dead, Blk.row true (.int .u8) (l ++ putB n k)]) := by
  obtain ⟨h1, h2, h3, h4⟩ := h
  rw [w93, IntWalk.i64_in (k - 1) (by omega), putB_eq, show (k - 1 + 1).toNat = k.toNat by omega, decide_eq_true (show (0 : Int) ≤ k - 1 by omega)]
  refine guard_split ?_ rfl
  rw [decide_eq_true (show l.length = l.length from rfl)]
  exact decide_eq_true ⟨h1, by omega, by omega, by omega⟩
theorem cond_some {α : Type} {b : Bool} {x : Option α} {v : α} (h : (bif b then x else none) = some v) : b = true ∧ x = some v := by
  cases b with
  | false => cases h
  | true => exact ⟨rfl, h⟩
theorem eqN_cons {a b : Nat} {r : List (Nat × Nat)} (h : eqN ((a, b) :: r) = true) : a = b ∧ eqN r = true := by
  unfold eqN at h
  rw [Bool.and_eq_true] at h
  exact ⟨Nat.eq_of_beq_eq_true h.1, h.2⟩
theorem p93_st : ∀ xs H v, p93 xs H = some v → (xs, H) = st93 v := by
  intro xs H v h
  unfold p93 at h
  split at h
  · obtain ⟨k0, h⟩ := cond_some h
    simp only [Bool.and_eq_true, Bool.not_eq_true', decide_eq_true_eq] at k0
    obtain ⟨k0, rfl, rfl, rfl, rfl, rfl⟩ := k0
    obtain ⟨rfl, k1⟩ := eqN_cons k0; obtain ⟨rfl, k2⟩ := eqN_cons k1; obtain ⟨rfl, k3⟩ := eqN_cons k2; obtain ⟨rfl, k4⟩ := eqN_cons k3
    obtain ⟨rfl, k5⟩ := eqN_cons k4
    cases h
    rfl
  · cases h
theorem q52a (s : ByteArray) (a b n k : Int) (h : preSu s n k = true ∧ 0 ≤ a ∧ a < 255 ∧ 0 ≤ b ∧ b < 255) : w52aL s a b n k = pickA (cSu (s, a, b, n, k, ())).2 := by
  obtain ⟨hp, h1, h2, h3, h4⟩ := h
  obtain ⟨g1, g2, g3, g4⟩ := of_decide_eq_true hp
  show _ = some (Xt.exit 0, [PV.sc (.int .i64 (sumR a b ((bytesI s).drop k.toNat)).1), PV.sc (.int .i64 (sumR a b ((bytesI s).drop k.toNat)).2)], [])
  rw [w52a]
  refine cond_split (fun h => ?_) (fun h => ?_)
  · have h := of_decide_eq_true h
    obtain ⟨x, hx, hc⟩ := bytes_get s k.toNat (by omega)
    have hu := uB x
    rw [drop_cons hc, hx]
    simp only [bindO]
    rw [IntWalk.i64_in (x.toNat : Int) (by omega), IntWalk.i64_in (a + (x.toNat : Int)) (by omega), IntWalk.i64_in (k + 1) (by omega), show (k + 1).toNat = k.toNat + 1 by omega]
    have t1 : (a + (x.toNat : Int)).tmod 255 = (a + (x.toNat : Int)) % 255 := tm (by omega)
    have w : IntKind.i64.wrap (b + (a + (x.toNat : Int)).tmod 255) = b + (a + (x.toNat : Int)).tmod 255 := IntWalk.i64_in _ (by omega)
    have t2 : (b + (a + (x.toNat : Int)).tmod 255).tmod 255 = (b + (a + (x.toNat : Int)).tmod 255) % 255 := tm (by omega)
    rw [w]
    refine guard_split (decide_eq_true g2) (guard_split (decide_eq_true (show (n - (k + 1)).toNat < (n - k).toNat by omega)) (guard_split ?_ rfl))
    rw [show preSu s n (k + 1) = true from decide_eq_true (by omega), Bool.true_and]
    exact decide_eq_true (by omega)
  · have h := of_decide_eq_false h
    have hl := bytes_len s
    rw [List.drop_eq_nil_of_le (by omega)]; rfl
theorem in52 : CutOK Try.prog Try.f52.ntmps (codeAt 0 (bodyF Try.f52)) [0, 3, 4, 7, 8] [3, 4] (entC kSu cSu) :=
  loop_cutW (kill := killA 0 kSu) F5_ok mixed muSu (by kernel_rfl) (noCuts_ok _) fun v h => q52a v.1 v.2.1 v.2.2.1 v.2.2.2.1 v.2.2.2.2.1 (by
    obtain ⟨h1, h2⟩ := Bool.and_eq_true_iff.1 h
    exact ⟨h1, of_decide_eq_true h2⟩)
theorem or8 {a b : Int} (h1 : 0 ≤ a) (h2 : a < 255) (h3 : 0 ≤ b) (h4 : b < 255) : IntKind.i64.wrap (((BitVec.ofInt 64 (IntKind.i64.wrap (b * 256)) ||| BitVec.ofInt 64 a).toNat : Nat) : Int) = b * 256 + a := by
  obtain ⟨a, rfl⟩ := Int.eq_ofNat_of_zero_le h1
  obtain ⟨b, rfl⟩ := Int.eq_ofNat_of_zero_le h3
  rw [IntWalk.i64_in ((b : Int) * 256) (by omega), show (b : Int) * 256 = ((b * 256 : Nat) : Int) by omega, BitVec.toNat_or, bv_nat (by omega), bv_nat (by omega)]
  have e := Nat.two_pow_add_eq_or_of_lt (i := 8) (b := a) (by omega) b
  rw [show (2 : Nat) ^ 8 = 256 by decide, Nat.mul_comm] at e
  rw [← e, IntWalk.i64_in _ (by omega)]
  omega
theorem q52 (s : ByteArray) (h : s.size ≤ 4000) : w52L s = some (PV.sc (.int .i64 ((sumR 0 0 (bytesI s)).2 * 256 + (sumR 0 0 (bytesI s)).1)), []) := by
  obtain ⟨⟨h1, h2⟩, h3, h4⟩ := sumR_in (bytesI s) 0 0 (fun x hx => (bytes_in s x hx).1) (by omega) (by omega) (by omega) (by omega)
  rw [w52, show Int.toNat 0 = 0 from rfl, List.drop_zero, show IntKind.i64.bits = 64 from rfl, or8 h1 h2 h3 h4]
  refine guard_split ?_ rfl
  rw [show preSu s (s.size : Int) 0 = true from decide_eq_true (by omega)]; rfl
theorem q55a (s : ByteArray) (a b n k : Int) (h : preSu s n k = true ∧ 0 ≤ a ∧ a ≤ 255 * k ∧ 0 ≤ b ∧ b ≤ 1020000 * k) : w55aL s a b n k = pickA (cCk (s, a, b, n, k, ())).2 := by
  obtain ⟨hp, h1, h2, h3, h4⟩ := h
  obtain ⟨g1, g2, g3, g4⟩ := of_decide_eq_true hp
  show _ = some (Xt.exit 0, [PV.sc (.int .i64 (chkR a b ((bytesI s).drop k.toNat)).1), PV.sc (.int .i64 (chkR a b ((bytesI s).drop k.toNat)).2)], [])
  have hl := bytes_len s
  rw [w55a]
  refine cond_split (fun h => ?_) (fun h => ?_)
  · have h := of_decide_eq_true h
    obtain ⟨x, hx, hc⟩ := bytes_get s k.toNat (by omega)
    have hu := uB x
    rw [drop_cons hc, hx]
    simp only [bindO]
    have hm : 0 ≤ (x.toNat : Int) * ((s.size : Int) - k) := Int.mul_nonneg hu.1 (by omega)
    have hm2 : (x.toNat : Int) * ((s.size : Int) - k) ≤ 255 * 4000 := Int.mul_le_mul hu.2 (by omega) (by omega) (by omega)
    rw [IntWalk.i64_in (x.toNat : Int) (by omega), IntWalk.i64_in (a + (x.toNat : Int)) (by omega), IntWalk.i64_in (k + 1) (by omega), show (k + 1).toNat = k.toNat + 1 by omega, IntWalk.i64_in ((s.size : Int) - k) (by omega), IntWalk.i64_in ((x.toNat : Int) * ((s.size : Int) - k)) (by omega), IntWalk.i64_in (b + (x.toNat : Int) * ((s.size : Int) - k)) (by omega)]
    have e : ((List.drop (k.toNat + 1) (bytesI s)).length : Int) + 1 = (s.size : Int) - k := by rw [List.length_drop]; omega
    rw [chkR, e]
    refine guard_split (decide_eq_true g2) (guard_split (decide_eq_true g2) (guard_split (decide_eq_true (show (n - (k + 1)).toNat < (n - k).toNat by omega)) (guard_split ?_ rfl)))
    rw [show preSu s n (k + 1) = true from decide_eq_true (by omega), Bool.true_and]
    exact decide_eq_true (by omega)
  · have h := of_decide_eq_false h
    rw [List.drop_eq_nil_of_le (by omega)]; rfl
theorem in55 : CutOK Try.prog Try.f55.ntmps (codeAt 0 (bodyF Try.f55)) [0, 3, 4, 7, 8] [3, 4] (entC kSu cCk) :=
  loop_cutW (kill := killA 0 kSu) F5_ok mixed muSu (by kernel_rfl) (noCuts_ok _) fun v h => q55a v.1 v.2.1 v.2.2.1 v.2.2.2.1 v.2.2.2.2.1 (by
    obtain ⟨h1, h2⟩ := Bool.and_eq_true_iff.1 h
    exact ⟨h1, of_decide_eq_true h2⟩)
theorem q55 (s : ByteArray) (h : s.size ≤ 4000) : w55L s = some (PV.sc (.int .i64 ((chkR 0 0 (bytesI s)).2.tmod 255 * 256 + (chkR 0 0 (bytesI s)).1.tmod 255)), []) := by
  have hl := bytes_len s
  obtain ⟨⟨h1, h2⟩, h3, h4⟩ := chkR_in (bytesI s) 0 0 (fun x hx => bytes_in s x hx) (by omega) (by omega) (by omega)
  have t1 := tm h1
  have t2 := tm h3
  rw [w55, show Int.toNat 0 = 0 from rfl, List.drop_zero, IntWalk.i64_in ((chkR 0 0 (bytesI s)).2.tmod 255 * 256) (by omega), IntWalk.i64_in _ (by omega)]
  refine guard_split ?_ rfl
  rw [show preSu s (s.size : Int) 0 = true from decide_eq_true (by omega)]; rfl
theorem not_in {n a b : Int} : (!inS n a b) = (decide (n < a) || decide (n > b)) := by
  unfold inS
  rw [Bool.eq_iff_iff]; simp
theorem q97 (r t : Int) (l : List P6) (nl : Bool) (p1 p2 p3 p4 p5 p6 : Int) : w97L r t l nl p1 p2 p3 p4 p5 p6 = some (PV.sc (.int .i64 (pltE r t (p1, p2, p3, p4, p5, p6))), [Blk.row false kP l]) := by
  rw [w97]
  unfold pltE
  simp only [not_in]
  generalize (p1 != r) = b1, (p2 != t) = b2, decide (p3 < 0) = b3, decide (p3 > 2000000) = b4, decide (p4 < 0) = b5, decide (p4 > 4095) = b6, decide (p5 < 0) = b7, decide (p5 > 60000) = b8, decide (p6 < -1) = b9, decide (p6 > 4095) = b10
  cases b1 with
  | true => rfl
  | false =>
  cases b2 with
  | true => rfl
  | false =>
  cases b3 with
  | true => rfl
  | false =>
  cases b4 with
  | true => rfl
  | false =>
  cases b5 with
  | true => rfl
  | false =>
  cases b6 with
  | true => rfl
  | false =>
  cases b7 with
  | true => rfl
  | false =>
  cases b8 with
  | true => rfl
  | false =>
  cases b9 with
  | true => rfl
  | false =>
  cases b10 <;> rfl
theorem q95 (n a b : Int) : w95L n a b = some (PV.sc (.bool (inS n a b)), []) := by
  rw [w95]; unfold inS
  cases decide (n ≥ a) <;> rfl
theorem q67 (d : Nat) (n k : Int) (h : 0 ≤ n ∧ n < 18446744073709551616 ∧ 0 ≤ k ∧ k ≤ ((d + 1 : Nat) : Int) ∧ d + 1 ≤ 8) : w67L d n k = some (PV.sc (.string (bytS n k)), []) := by
  obtain ⟨h1, h2, h3, h4, h5⟩ := h
  rw [w67]
  refine cond_split (fun h => ?_) (fun h => ?_)
  · have h := eq_of_beq h
    subst h; rfl
  · have h : k ≠ 0 := fun e => by rw [e] at h; cases h
    have e1 : n.tdiv 256 = n / 256 := Int.tdiv_eq_ediv_of_nonneg h1
    have e2 : n.tmod 256 = n % 256 := Int.tmod_eq_emod_of_nonneg h1
    obtain ⟨j, rfl⟩ : ∃ j : Nat, k = (j : Int) + 1 := ⟨(k - 1).toNat, by omega⟩
    rw [e1, e2, u64_in (n := n / 256) (by omega) (by omega), IntWalk.i64_in ((j : Int) + 1 - 1) (by omega), show (j : Int) + 1 - 1 = (j : Int) by omega, bytS_succ h1 (by omega)]
    refine guard_split (bp_mk ⟨by omega, by omega, by omega, by omega, by omega⟩) (guard_split ?_ ?_)
    · refine Nat.ble_eq_true_of_le ?_
      have s1 : (bytS (n / 256) (j : Int)).size = j := by unfold bytS; rw [str_size, putL_len, Int.toNat_natCast]
      rw [s1, str_size]
      show j + 1 ≤ _
      omega
    · rw [wrap8, show n % 256 % 256 = n % 256 by omega]; rfl
theorem q67z (n k : Int) (h : 0 ≤ n ∧ n < 18446744073709551616 ∧ 0 ≤ k ∧ k ≤ ((0 : Nat) : Int) ∧ 0 ≤ 8) : w67zL n k = some (PV.sc (.string (bytS n k)), []) := by
  obtain ⟨h1, h2, h3, h4, h5⟩ := h
  obtain rfl : k = 0 := by omega
  rw [w67z]; rfl
end Go.Proofs.YtacdahpjmeianaaWi
