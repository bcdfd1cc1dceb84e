/- What is proved: what a radio's calls lean on (find, sorts, Insert, Delete, Equal) answers what its plain functions say. No condition. -/
import Derived.Test.YtokephobkllfgaaTcn0
import Derived.Test.YtokephobkllfgaaStrC
import Derived.Test.YtokephobkllfgaaTsf
namespace Go.Proofs.YtokephobkllfgaaCn
open Go Go.Proofs Go.Shelf Go.Sort Go.RowKit Go.Proofs.YtokephobkllfgaaEv Go.Proofs.YtokephobkllfgaaSs
set_option maxRecDepth 100000
set_option maxHeartbeats 4000000
set_option linter.unusedVariables false
set_option linter.unusedSimpArgs false
noncomputable abbrev n49aL (a0 : List Int) (a1 : Bool) (a2 : Int) (a3 : Int) := evRound Try.prog U0 noCuts 40 (loopOf (codeAt 0 (bodyF Try.f49))) kNm muNm (killA 0 kNm) [6, 7, 8] [2] cNm ((a0, a1), (a2, (a3, ())))
theorem n49a (a0 : List Int) (a1 : Bool) (a2 : Int) (a3 : Int) : n49aL a0 a1 a2 a3 = (bif decide (a3 < a2) then
  guardB (decide (0 ≤ a3) && decide (a3 < (↑a0.length : Int)))
    (bindO a0[0 + a3.toNat]? fun x =>
      bif decide (x ≥ 65) then
        bif decide (x ≤ 90) then
          guardB
            (decide
              (muNm ((List.take a0.length a0, a1), a2, IntKind.i64.wrap (a3 + 1), PUnit.unit) <
                muNm ((a0, a1), a2, a3, ())))
            (guardB
              (bif decide (0 + a0.length ≤ a0.length) then preNm (List.take a0.length a0) a2 (IntKind.i64.wrap (a3 + 1))
              else false)
              (bif
                  okL (IntKind.i64.wrap (a3 + 1))
                    (List.drop (IntKind.i64.wrap (a3 + 1)).toNat (List.take a0.length a0)) then
                some (Xt.exit 0, [PV.undef], [Blk.row false (Kd.int IntKind.u8) a0])
              else some (Xt.ret, [PV.sc (Value.bool false)], [Blk.row false (Kd.int IntKind.u8) a0])))
        else
          bif decide (a3 > 0) then
            bif decide (x ≥ 48) then
              bif !decide (x ≤ 57) then
                some (Xt.ret, [PV.sc (Value.bool false)], [Blk.row false (Kd.int IntKind.u8) a0])
              else
                guardB
                  (decide
                    (muNm ((List.take a0.length a0, a1), a2, IntKind.i64.wrap (a3 + 1), PUnit.unit) <
                      muNm ((a0, a1), a2, a3, ())))
                  (guardB
                    (bif decide (0 + a0.length ≤ a0.length) then
                      preNm (List.take a0.length a0) a2 (IntKind.i64.wrap (a3 + 1))
                    else false)
                    (bif
                        okL (IntKind.i64.wrap (a3 + 1))
                          (List.drop (IntKind.i64.wrap (a3 + 1)).toNat (List.take a0.length a0)) then
                      some (Xt.exit 0, [PV.undef], [Blk.row false (Kd.int IntKind.u8) a0])
                    else some (Xt.ret, [PV.sc (Value.bool false)], [Blk.row false (Kd.int IntKind.u8) a0])))
            else some (Xt.ret, [PV.sc (Value.bool false)], [Blk.row false (Kd.int IntKind.u8) a0])
          else some (Xt.ret, [PV.sc (Value.bool false)], [Blk.row false (Kd.int IntKind.u8) a0])
      else
        bif decide (a3 > 0) then
          bif decide (x ≥ 48) then
            bif !decide (x ≤ 57) then some (Xt.ret, [PV.sc (Value.bool false)], [Blk.row false (Kd.int IntKind.u8) a0])
            else
              guardB
                (decide
                  (muNm ((List.take a0.length a0, a1), a2, IntKind.i64.wrap (a3 + 1), PUnit.unit) <
                    muNm ((a0, a1), a2, a3, ())))
                (guardB
                  (bif decide (0 + a0.length ≤ a0.length) then
                    preNm (List.take a0.length a0) a2 (IntKind.i64.wrap (a3 + 1))
                  else false)
                  (bif
                      okL (IntKind.i64.wrap (a3 + 1))
                        (List.drop (IntKind.i64.wrap (a3 + 1)).toNat (List.take a0.length a0)) then
                    some (Xt.exit 0, [PV.undef], [Blk.row false (Kd.int IntKind.u8) a0])
                  else some (Xt.ret, [PV.sc (Value.bool false)], [Blk.row false (Kd.int IntKind.u8) a0])))
          else some (Xt.ret, [PV.sc (Value.bool false)], [Blk.row false (Kd.int IntKind.u8) a0])
        else some (Xt.ret, [PV.sc (Value.bool false)], [Blk.row false (Kd.int IntKind.u8) a0]))
else some (Xt.exit 0, [PV.undef], [Blk.row false (Kd.int IntKind.u8) a0])) := by kernel_rfl
noncomputable abbrev n49L (a0 : ByteArray) := evFuncV Try.prog U0 (addCut 0 [6, 7, 8] [2] (entC kNm cNm) noCuts) Try.f49 (killA 0 [sS]) (showA 0 [sS] (a0, ())).1 (showA 0 [sS] (a0, ())).2
theorem n49 (a0 : ByteArray) : n49L a0 = (guardB (decide (a0.size ≤ 9223372036854775807))
  (guardB
    (bif decide (0 + a0.size ≤ (bytesI a0).length) then preNm (List.take a0.size (bytesI a0)) (↑a0.size : Int) 0
    else false)
    (bif okL 0 (List.drop (Int.toNat 0) (List.take a0.size (bytesI a0))) then
      bif !decide (a0 = ByteArray.mk #[]) then some (PV.sc (Value.bool (decide ((↑a0.size : Int) ≤ 8))), [])
      else some (PV.sc (Value.bool false), [])
    else some (PV.sc (Value.bool false), [])))) := by kernel_rfl
noncomputable abbrev n22L (a0 : Int) := evFuncV Try.prog T0 noCuts Try.f22 (killA 0 [sI]) (showA 0 [sI] (a0, ())).1 (showA 0 [sI] (a0, ())).2
theorem n22 (a0 : Int) : n22L a0 = (bif decide (a0 ≥ 118000) then
  bif decide (a0 ≤ 136975) then some (PV.sc (Value.bool (a0.tmod 25 == 0)), []) else some (PV.sc (Value.bool false), [])
else some (PV.sc (Value.bool false), [])) := by kernel_rfl
noncomputable abbrev n24L (a0 : Int) := evFuncV Try.prog T0 noCuts Try.f24 (killA 0 [sI]) (showA 0 [sI] (a0, ())).1 (showA 0 [sI] (a0, ())).2
theorem n24 (a0 : Int) : n24L a0 = (bif decide (a0 ≥ 118000) then
  bif decide (a0 ≤ 136975) then some (PV.sc (Value.bool (a0.tmod 25 == 0)), []) else some (PV.sc (Value.bool false), [])
else some (PV.sc (Value.bool false), [])) := by kernel_rfl
noncomputable abbrev n26L (a0 : ByteArray) (a1 : Int) (a2 : Int) (a3 : Int) (a4 : Int) (a5 : Int) (a6 : ByteArray) := evFuncV Try.prog U3 noCuts Try.f26 (killA 0 [sT, .s xL]) (showA 0 [sT, .s xL] ((a0, (a1, a2)), ((a3, (a4, (a5, a6))), ()))).1 (showA 0 [sT, .s xL] ((a0, (a1, a2)), ((a3, (a4, (a5, a6))), ()))).2
theorem n26 (a0 : ByteArray) (a1 : Int) (a2 : Int) (a3 : Int) (a4 : Int) (a5 : Int) (a6 : ByteArray) : n26L a0 a1 a2 a3 a4 a5 a6 = (some
  (PV.sc (Value.bool (decide (a0 = a6))),
    [Blk.fix false
        [PV.sc (Value.int IntKind.i64 a3), PV.sc (Value.int IntKind.i64 a4), PV.sc (Value.int IntKind.i64 a5),
          PV.sc (Value.string a6)]])) := by kernel_rfl
noncomputable abbrev n63L (a0 : ByteArray) (a1 : Int) (a2 : Int) (a3 : ByteArray) := evFuncV Try.prog U3 noCuts Try.f63 (killA 0 [sT, sS]) (showA 0 [sT, sS] ((a0, (a1, a2)), (a3, ()))).1 (showA 0 [sT, sS] ((a0, (a1, a2)), (a3, ()))).2
theorem n63 (a0 : ByteArray) (a1 : Int) (a2 : Int) (a3 : ByteArray) : n63L a0 a1 a2 a3 = (some (PV.sc (Value.int IntKind.i64 (strC a0 a3)), [])) := by kernel_rfl
noncomputable abbrev n32L (a0 : ByteArray) (a1 : Int) (a2 : Int) (a3 : ByteArray) (a4 : Int) (a5 : Int) := evFuncV Try.prog U3 noCuts Try.f32 (killA 0 [sT, sT]) (showA 0 [sT, sT] ((a0, (a1, a2)), ((a3, (a4, a5)), ()))).1 (showA 0 [sT, sT] ((a0, (a1, a2)), ((a3, (a4, a5)), ()))).2
theorem n32 (a0 : ByteArray) (a1 : Int) (a2 : Int) (a3 : ByteArray) (a4 : Int) (a5 : Int) : n32L a0 a1 a2 a3 a4 a5 = (some (PV.sc (Value.int IntKind.i64 (strC a0 a3)), [])) := by kernel_rfl
noncomputable abbrev n56L (a0 : ByteArray) (a1 : Int) (a2 : Int) (a3 : ByteArray) (a4 : Int) (a5 : Int) := evFuncV Try.prog U3 noCuts Try.f56 (killA 0 [sT, sT]) (showA 0 [sT, sT] ((a0, (a1, a2)), ((a3, (a4, a5)), ()))).1 (showA 0 [sT, sT] ((a0, (a1, a2)), ((a3, (a4, a5)), ()))).2
theorem n56 (a0 : ByteArray) (a1 : Int) (a2 : Int) (a3 : ByteArray) (a4 : Int) (a5 : Int) : n56L a0 a1 a2 a3 a4 a5 = (some (PV.sc (Value.int IntKind.i64 (IntKind.i64.wrap (a2 - a5))), [])) := by kernel_rfl
noncomputable abbrev n25aL (a0 : List (ByteArray × Int × Int)) (a1 : Bool) (a2 : Int) (a3 : Int) (a4 : Int) (a5 : ByteArray) (a6 : Int) (a7 : Int) := evRound Try.prog C1 noCuts 19 (loopOf (codeAt 0 (bodyF Try.f25))) kXc muXc (killA 0 kXc) [0, 1, 7, 8] [4] cXc ((a0, a1), (((a2, (a3, (a4, a5))), ()), (a6, (a7, ()))))
theorem n25a (a0 : List (ByteArray × Int × Int)) (a1 : Bool) (a2 : Int) (a3 : Int) (a4 : Int) (a5 : ByteArray) (a6 : Int) (a7 : Int) : n25aL a0 a1 a2 a3 a4 a5 a6 a7 = (bif decide (a7 < a6) then
  guardB (decide (0 ≤ a7) && decide (a7 < (↑a0.length : Int)))
    (bindO a0[0 + a7.toNat]? fun x =>
      bif isT a5 x then
        some
          (Xt.ret, [PV.sc (Value.int IntKind.i64 a7)],
            [Blk.row false (Kd.str.pair ((Kd.int IntKind.i64).pair (Kd.int IntKind.i64))) a0,
              Blk.fix false
                [PV.sc (Value.int IntKind.i64 a2), PV.sc (Value.int IntKind.i64 a3), PV.sc (Value.int IntKind.i64 a4),
                  PV.sc (Value.string a5)]])
      else
        guardB
          (decide
            (muXc
                ((List.take a0.length a0, a1), ((a2, a3, a4, a5), PUnit.unit), a6, IntKind.i64.wrap (a7 + 1),
                  PUnit.unit) <
              muXc ((a0, a1), ((a2, a3, a4, a5), ()), a6, a7, ())))
          (guardB
            (bif decide (0 + a0.length ≤ a0.length) then preXc (List.take a0.length a0) a6 (IntKind.i64.wrap (a7 + 1))
            else false)
            (bif decide (0 ≤ iXc (List.take a0.length a0) a5 (IntKind.i64.wrap (a7 + 1))) then
              some
                (Xt.ret, [PV.sc (Value.int IntKind.i64 (iXc (List.take a0.length a0) a5 (IntKind.i64.wrap (a7 + 1))))],
                  [Blk.row false (Kd.str.pair ((Kd.int IntKind.i64).pair (Kd.int IntKind.i64))) a0,
                    Blk.fix false
                      [PV.sc (Value.int IntKind.i64 a2), PV.sc (Value.int IntKind.i64 a3),
                        PV.sc (Value.int IntKind.i64 a4), PV.sc (Value.string a5)]])
            else
              some
                (Xt.exit 0, [PV.undef],
                  [Blk.row false (Kd.str.pair ((Kd.int IntKind.i64).pair (Kd.int IntKind.i64))) a0,
                    Blk.fix false
                      [PV.sc (Value.int IntKind.i64 a2), PV.sc (Value.int IntKind.i64 a3),
                        PV.sc (Value.int IntKind.i64 a4), PV.sc (Value.string a5)]]))))
else
  some
    (Xt.exit 0, [PV.undef],
      [Blk.row false (Kd.str.pair ((Kd.int IntKind.i64).pair (Kd.int IntKind.i64))) a0,
        Blk.fix false
          [PV.sc (Value.int IntKind.i64 a2), PV.sc (Value.int IntKind.i64 a3), PV.sc (Value.int IntKind.i64 a4),
            PV.sc (Value.string a5)]])) := by kernel_rfl
noncomputable abbrev n25L (a0 : List (ByteArray × Int × Int)) (a1 : Bool) (a2 : Int) (a3 : Int) (a4 : Int) (a5 : ByteArray) := evFuncV Try.prog C1 (addCut 0 [0, 1, 7, 8] [4] (entC kXc cXc) noCuts) Try.f25 (killA 0 kFc) (showA 0 kFc ((a0, a1), (((a2, (a3, (a4, a5))), ()), ()))).1 (showA 0 kFc ((a0, a1), (((a2, (a3, (a4, a5))), ()), ()))).2
theorem n25 (a0 : List (ByteArray × Int × Int)) (a1 : Bool) (a2 : Int) (a3 : Int) (a4 : Int) (a5 : ByteArray) : n25L a0 a1 a2 a3 a4 a5 = (guardB (bif decide (0 + a0.length ≤ a0.length) then preXc (List.take a0.length a0) (↑a0.length : Int) 0 else false)
  (bif decide (0 ≤ iXc (List.take a0.length a0) a5 0) then
    some
      (PV.sc (Value.int IntKind.i64 (iXc (List.take a0.length a0) a5 0)),
        [Blk.row false (Kd.str.pair ((Kd.int IntKind.i64).pair (Kd.int IntKind.i64))) a0,
          Blk.fix false
            [PV.sc (Value.int IntKind.i64 a2), PV.sc (Value.int IntKind.i64 a3), PV.sc (Value.int IntKind.i64 a4),
              PV.sc (Value.string a5)]])
  else
    some
      (PV.sc (Value.int IntKind.i64 (-1)),
        [Blk.row false (Kd.str.pair ((Kd.int IntKind.i64).pair (Kd.int IntKind.i64))) a0,
          Blk.fix false
            [PV.sc (Value.int IntKind.i64 a2), PV.sc (Value.int IntKind.i64 a3), PV.sc (Value.int IntKind.i64 a4),
              PV.sc (Value.string a5)]]))) := by kernel_rfl
noncomputable abbrev n62aL (a0 : List (ByteArray × Int × Int)) (a1 : Bool) (a2 : ByteArray) (a3 : Int) (a4 : Int) := evRound Try.prog C1 noCuts 49 (loopOf (codeAt 0 (bodyF Try.f62))) kBl muBl (killA 0 kBl) [0, 1, 2, 9, 10] [9] cBl ((a0, a1), (a2, ((), (a3, (a4, ())))))
theorem n62a (a0 : List (ByteArray × Int × Int)) (a1 : Bool) (a2 : ByteArray) (a3 : Int) (a4 : Int) : n62aL a0 a1 a2 a3 a4 = (bif decide (a3 < a4) then
  guardB
    (decide
        (0 ≤
          IntKind.i64.wrap
            ((IntKind.u64.wrap (IntKind.i64.wrap (a3 + a4))).fdiv (2 ^ min (Int.toNat 1) IntKind.u64.bits))) &&
      decide
        (IntKind.i64.wrap
            ((IntKind.u64.wrap (IntKind.i64.wrap (a3 + a4))).fdiv (2 ^ min (Int.toNat 1) IntKind.u64.bits)) <
          (↑a0.length : Int)))
    (bindO
      a0[0 +
          (IntKind.i64.wrap
              ((IntKind.u64.wrap (IntKind.i64.wrap (a3 + a4))).fdiv (2 ^ min (Int.toNat 1) IntKind.u64.bits))).toNat]?
      fun x =>
      bif decide (strC x.fst a2 < 0) then
        guardB
          (decide
            (muBl
                ((List.take a0.length a0, a1), a2, PUnit.unit,
                  IntKind.i64.wrap
                    (IntKind.i64.wrap
                        ((IntKind.u64.wrap (IntKind.i64.wrap (a3 + a4))).fdiv
                          (2 ^ min (Int.toNat 1) IntKind.u64.bits)) +
                      1),
                  a4, PUnit.unit) <
              muBl ((a0, a1), a2, (), a3, a4, ())))
          (guardB
            (bif decide (0 + a0.length ≤ a0.length) then
              bp
                (srtd (List.take a0.length a0) ∧
                  0 ≤
                      IntKind.i64.wrap
                        (IntKind.i64.wrap
                            ((IntKind.u64.wrap (IntKind.i64.wrap (a3 + a4))).fdiv
                              (2 ^ min (Int.toNat 1) IntKind.u64.bits)) +
                          1) ∧
                    IntKind.i64.wrap
                          (IntKind.i64.wrap
                              ((IntKind.u64.wrap (IntKind.i64.wrap (a3 + a4))).fdiv
                                (2 ^ min (Int.toNat 1) IntKind.u64.bits)) +
                            1) ≤
                        lowI a2 (List.take a0.length a0) ∧
                      lowI a2 (List.take a0.length a0) ≤ a4 ∧
                        a4 ≤ (↑(List.take a0.length a0).length : Int) ∧ (List.take a0.length a0).length ≤ 1000)
            else false)
            (some
              (Xt.exit 0, [PV.sc (Value.int IntKind.i64 (lowI a2 (List.take a0.length a0)))],
                [Blk.row false (Kd.str.pair ((Kd.int IntKind.i64).pair (Kd.int IntKind.i64))) a0])))
      else
        guardB
          (decide
            (muBl
                ((List.take a0.length a0, a1), a2, PUnit.unit, a3,
                  IntKind.i64.wrap
                    ((IntKind.u64.wrap (IntKind.i64.wrap (a3 + a4))).fdiv (2 ^ min (Int.toNat 1) IntKind.u64.bits)),
                  PUnit.unit) <
              muBl ((a0, a1), a2, (), a3, a4, ())))
          (guardB
            (bif decide (0 + a0.length ≤ a0.length) then
              bp
                (srtd (List.take a0.length a0) ∧
                  0 ≤ a3 ∧
                    a3 ≤ lowI a2 (List.take a0.length a0) ∧
                      lowI a2 (List.take a0.length a0) ≤
                          IntKind.i64.wrap
                            ((IntKind.u64.wrap (IntKind.i64.wrap (a3 + a4))).fdiv
                              (2 ^ min (Int.toNat 1) IntKind.u64.bits)) ∧
                        IntKind.i64.wrap
                              ((IntKind.u64.wrap (IntKind.i64.wrap (a3 + a4))).fdiv
                                (2 ^ min (Int.toNat 1) IntKind.u64.bits)) ≤
                            (↑(List.take a0.length a0).length : Int) ∧
                          (List.take a0.length a0).length ≤ 1000)
            else false)
            (some
              (Xt.exit 0, [PV.sc (Value.int IntKind.i64 (lowI a2 (List.take a0.length a0)))],
                [Blk.row false (Kd.str.pair ((Kd.int IntKind.i64).pair (Kd.int IntKind.i64))) a0]))))
else
  some
    (Xt.exit 0, [PV.sc (Value.int IntKind.i64 a3)],
      [Blk.row false (Kd.str.pair ((Kd.int IntKind.i64).pair (Kd.int IntKind.i64))) a0])) := by kernel_rfl
noncomputable abbrev n62L (a0 : List (ByteArray × Int × Int)) (a1 : Bool) (a2 : ByteArray) := evFuncV Try.prog C1 (addCut 0 [0, 1, 2, 9, 10] [9] (entC kBl cBl) noCuts) Try.f62 (killA 0 kBs) (showA 0 kBs ((a0, a1), (a2, ((), ())))).1 (showA 0 kBs ((a0, a1), (a2, ((), ())))).2
theorem n62 (a0 : List (ByteArray × Int × Int)) (a1 : Bool) (a2 : ByteArray) : n62L a0 a1 a2 = (guardB
  (bif decide (0 + a0.length ≤ a0.length) then
    bp
      (srtd (List.take a0.length a0) ∧
        (0 : Int) ≤ 0 ∧
          0 ≤ lowI a2 (List.take a0.length a0) ∧
            lowI a2 (List.take a0.length a0) ≤ (↑a0.length : Int) ∧
              (↑a0.length : Int) ≤ (↑(List.take a0.length a0).length : Int) ∧ (List.take a0.length a0).length ≤ 1000)
  else false)
  (bif decide (lowI a2 (List.take a0.length a0) < (↑a0.length : Int)) then
    guardB
      (decide (0 ≤ lowI a2 (List.take a0.length a0)) && decide (lowI a2 (List.take a0.length a0) < (↑a0.length : Int)))
      (bindO a0[0 + (lowI a2 (List.take a0.length a0)).toNat]? fun x =>
        some
          (PV.tup
              [PV.sc (Value.int IntKind.i64 (lowI a2 (List.take a0.length a0))),
                PV.sc (Value.bool (strC x.fst a2 == 0))],
            [Blk.row false (Kd.str.pair ((Kd.int IntKind.i64).pair (Kd.int IntKind.i64))) a0]))
  else
    some
      (PV.tup [PV.sc (Value.int IntKind.i64 (lowI a2 (List.take a0.length a0))), PV.sc (Value.bool false)],
        [Blk.row false (Kd.str.pair ((Kd.int IntKind.i64).pair (Kd.int IntKind.i64))) a0]))) := by kernel_rfl
noncomputable abbrev n34aL (a0 : List (ByteArray × Int × Int)) (a1 : Bool) (a2 : List (ByteArray × Int × Int)) (a3 : Bool) (a4 : Int) (a5 : Int) := evRound Try.prog C1 noCuts 26 (loopOf (codeAt 0 (bodyF Try.f34))) kEt muEt (killA 0 kEt) [0, 1, 12, 13] [4] cEt ((a0, a1), ((a2, a3), (a4, (a5, ()))))
theorem n34a (a0 : List (ByteArray × Int × Int)) (a1 : Bool) (a2 : List (ByteArray × Int × Int)) (a3 : Bool) (a4 : Int) (a5 : Int) : n34aL a0 a1 a2 a3 a4 a5 = (bif decide (a5 < a4) then
  guardB (decide (0 ≤ a5) && decide (a5 < (↑a0.length : Int)))
    (bindO a0[0 + a5.toNat]? fun x =>
      guardB (decide (0 ≤ a5) && decide (a5 < (↑a2.length : Int)))
        (bindO a2[0 + a5.toNat]? fun x_1 =>
          bif !(decide (x.fst = x_1.fst) && (x.snd.fst == x_1.snd.fst && (x.snd.snd == x_1.snd.snd && true))) then
            some
              (Xt.ret, [PV.sc (Value.bool false)],
                [Blk.row false (Kd.str.pair ((Kd.int IntKind.i64).pair (Kd.int IntKind.i64))) a0,
                  Blk.row false (Kd.str.pair ((Kd.int IntKind.i64).pair (Kd.int IntKind.i64))) a2])
          else
            guardB
              (decide
                (muEt
                    ((List.take a0.length a0, a1), (List.take a2.length a2, a3), a4, IntKind.i64.wrap (a5 + 1),
                      PUnit.unit) <
                  muEt ((a0, a1), (a2, a3), a4, a5, ())))
              (guardB
                (bif decide (0 + a0.length ≤ a0.length) then
                  bif decide (0 + a2.length ≤ a2.length) then
                    preE (List.take a0.length a0) (List.take a2.length a2) a4 (IntKind.i64.wrap (a5 + 1))
                  else false
                else false)
                (bif
                    eqTs (List.drop (IntKind.i64.wrap (a5 + 1)).toNat (List.take a0.length a0))
                      (List.drop (IntKind.i64.wrap (a5 + 1)).toNat (List.take a2.length a2)) then
                  some
                    (Xt.exit 0, [PV.undef],
                      [Blk.row false (Kd.str.pair ((Kd.int IntKind.i64).pair (Kd.int IntKind.i64))) a0,
                        Blk.row false (Kd.str.pair ((Kd.int IntKind.i64).pair (Kd.int IntKind.i64))) a2])
                else
                  some
                    (Xt.ret, [PV.sc (Value.bool false)],
                      [Blk.row false (Kd.str.pair ((Kd.int IntKind.i64).pair (Kd.int IntKind.i64))) a0,
                        Blk.row false (Kd.str.pair ((Kd.int IntKind.i64).pair (Kd.int IntKind.i64))) a2])))))
else
  some
    (Xt.exit 0, [PV.undef],
      [Blk.row false (Kd.str.pair ((Kd.int IntKind.i64).pair (Kd.int IntKind.i64))) a0,
        Blk.row false (Kd.str.pair ((Kd.int IntKind.i64).pair (Kd.int IntKind.i64))) a2])) := by kernel_rfl
noncomputable abbrev n34L (a0 : List (ByteArray × Int × Int)) (a1 : Bool) (a2 : List (ByteArray × Int × Int)) (a3 : Bool) := evFuncV Try.prog C1 (addCut 0 [0, 1, 12, 13] [4] (entC kEt cEt) noCuts) Try.f34 (killA 0 [rT, rT]) (showA 0 [rT, rT] ((a0, a1), ((a2, a3), ()))).1 (showA 0 [rT, rT] ((a0, a1), ((a2, a3), ()))).2
theorem n34 (a0 : List (ByteArray × Int × Int)) (a1 : Bool) (a2 : List (ByteArray × Int × Int)) (a3 : Bool) : n34L a0 a1 a2 a3 = (bif (↑a0.length : Int) != (↑a2.length : Int) then
  some
    (PV.sc (Value.bool false),
      [Blk.row false (Kd.str.pair ((Kd.int IntKind.i64).pair (Kd.int IntKind.i64))) a0,
        Blk.row false (Kd.str.pair ((Kd.int IntKind.i64).pair (Kd.int IntKind.i64))) a2])
else
  guardB
    (bif decide (0 + a0.length ≤ a0.length) then
      bif decide (0 + a2.length ≤ a2.length) then
        preE (List.take a0.length a0) (List.take a2.length a2) (↑a0.length : Int) 0
      else false
    else false)
    (bif eqTs (List.drop (Int.toNat 0) (List.take a0.length a0)) (List.drop (Int.toNat 0) (List.take a2.length a2)) then
      some
        (PV.sc (Value.bool true),
          [Blk.row false (Kd.str.pair ((Kd.int IntKind.i64).pair (Kd.int IntKind.i64))) a0,
            Blk.row false (Kd.str.pair ((Kd.int IntKind.i64).pair (Kd.int IntKind.i64))) a2])
    else
      some
        (PV.sc (Value.bool false),
          [Blk.row false (Kd.str.pair ((Kd.int IntKind.i64).pair (Kd.int IntKind.i64))) a0,
            Blk.row false (Kd.str.pair ((Kd.int IntKind.i64).pair (Kd.int IntKind.i64))) a2]))) := by kernel_rfl
noncomputable abbrev n36aL (a0 : List ByteArray) (a1 : Bool) (a2 : List ByteArray) (a3 : Bool) (a4 : Int) (a5 : Int) := evRound Try.prog C1 noCuts 26 (loopOf (codeAt 0 (bodyF Try.f36))) kEw muEw (killA 0 kEw) [0, 1, 12, 13] [4] cEw ((a0, a1), ((a2, a3), (a4, (a5, ()))))
theorem n36a (a0 : List ByteArray) (a1 : Bool) (a2 : List ByteArray) (a3 : Bool) (a4 : Int) (a5 : Int) : n36aL a0 a1 a2 a3 a4 a5 = (bif decide (a5 < a4) then
  guardB (decide (0 ≤ a5) && decide (a5 < (↑a0.length : Int)))
    (bindO a0[0 + a5.toNat]? fun x =>
      guardB (decide (0 ≤ a5) && decide (a5 < (↑a2.length : Int)))
        (bindO a2[0 + a5.toNat]? fun x_1 =>
          bif !decide (x = x_1) then
            some (Xt.ret, [PV.sc (Value.bool false)], [Blk.row false Kd.str a0, Blk.row false Kd.str a2])
          else
            guardB
              (decide
                (muEw
                    ((List.take a0.length a0, a1), (List.take a2.length a2, a3), a4, IntKind.i64.wrap (a5 + 1),
                      PUnit.unit) <
                  muEw ((a0, a1), (a2, a3), a4, a5, ())))
              (guardB
                (bif decide (0 + a0.length ≤ a0.length) then
                  bif decide (0 + a2.length ≤ a2.length) then
                    preE (List.take a0.length a0) (List.take a2.length a2) a4 (IntKind.i64.wrap (a5 + 1))
                  else false
                else false)
                (bif
                    eqWs (List.drop (IntKind.i64.wrap (a5 + 1)).toNat (List.take a0.length a0))
                      (List.drop (IntKind.i64.wrap (a5 + 1)).toNat (List.take a2.length a2)) then
                  some (Xt.exit 0, [PV.undef], [Blk.row false Kd.str a0, Blk.row false Kd.str a2])
                else some (Xt.ret, [PV.sc (Value.bool false)], [Blk.row false Kd.str a0, Blk.row false Kd.str a2])))))
else some (Xt.exit 0, [PV.undef], [Blk.row false Kd.str a0, Blk.row false Kd.str a2])) := by kernel_rfl
noncomputable abbrev n36L (a0 : List ByteArray) (a1 : Bool) (a2 : List ByteArray) (a3 : Bool) := evFuncV Try.prog C1 (addCut 0 [0, 1, 12, 13] [4] (entC kEw cEw) noCuts) Try.f36 (killA 0 [rW, rW]) (showA 0 [rW, rW] ((a0, a1), ((a2, a3), ()))).1 (showA 0 [rW, rW] ((a0, a1), ((a2, a3), ()))).2
theorem n36 (a0 : List ByteArray) (a1 : Bool) (a2 : List ByteArray) (a3 : Bool) : n36L a0 a1 a2 a3 = (bif (↑a0.length : Int) != (↑a2.length : Int) then
  some (PV.sc (Value.bool false), [Blk.row false Kd.str a0, Blk.row false Kd.str a2])
else
  guardB
    (bif decide (0 + a0.length ≤ a0.length) then
      bif decide (0 + a2.length ≤ a2.length) then
        preE (List.take a0.length a0) (List.take a2.length a2) (↑a0.length : Int) 0
      else false
    else false)
    (bif eqWs (List.drop (Int.toNat 0) (List.take a0.length a0)) (List.drop (Int.toNat 0) (List.take a2.length a2)) then
      some (PV.sc (Value.bool true), [Blk.row false Kd.str a0, Blk.row false Kd.str a2])
    else some (PV.sc (Value.bool false), [Blk.row false Kd.str a0, Blk.row false Kd.str a2]))) := by kernel_rfl
noncomputable abbrev n30L (a0 : List (ByteArray × Int × Int)) (a1 : Bool) (a2 : Int) (a3 : Int) := evFuncV Try.prog C1 noCuts Try.f30 (killA 0 kDc) (showA 0 kDc ((a0, a1), (a2, (a3, ())))).1 (showA 0 kDc ((a0, a1), (a2, (a3, ())))).2
theorem n30 (a0 : List (ByteArray × Int × Int)) (a1 : Bool) (a2 : Int) (a3 : Int) : n30L a0 a1 a2 a3 = (guardB
  (decide (0 ≤ a2) && decide (a2 ≤ a3) && decide (a3 ≤ (↑a0.length : Int)) &&
    decide ((↑a0.length : Int) ≤ (↑a0.length : Int)))
  (bif a2 == a3 then
    some
      (PV.sl 1 0 3 a0.length a0.length false a1,
        [Blk.dead, Blk.row true (Kd.str.pair ((Kd.int IntKind.i64).pair (Kd.int IntKind.i64))) a0])
  else
    guardB (decide (0 ≤ a2) && decide (a2 ≤ (↑a0.length : Int)))
      (guardB (decide (0 ≤ a3) && decide (a3 ≤ (↑a0.length : Int)) && decide ((↑a0.length : Int) ≤ (↑a0.length : Int)))
        (guardB
          (decide (0 + (a2.toNat - 0) + ((↑a0.length : Int).toNat - a3.toNat) ≤ a0.length) &&
              decide (0 + a3.toNat + ((↑a0.length : Int).toNat - a3.toNat) ≤ a0.length) &&
            decide (a2.toNat - 0 + ((↑a0.length : Int).toNat - a3.toNat) ≤ a0.length - 0))
          (guardB
            (decide (0 ≤ (↑(a2.toNat - 0 + ((↑a0.length : Int).toNat - a3.toNat)) : Int)) &&
                decide ((↑(a2.toNat - 0 + ((↑a0.length : Int).toNat - a3.toNat)) : Int) ≤ (↑a0.length : Int)) &&
              decide ((↑a0.length : Int) ≤ (↑(a0.length - 0) : Int)))
            (guardB
              (decide
                (0 + (↑(a2.toNat - 0 + ((↑a0.length : Int).toNat - a3.toNat)) : Int).toNat +
                    ((↑a0.length : Int).toNat - (↑(a2.toNat - 0 + ((↑a0.length : Int).toNat - a3.toNat)) : Int).toNat) ≤
                  (splice a0 (0 + (a2.toNat - 0))
                      (List.take ((↑a0.length : Int).toNat - a3.toNat) (List.drop (0 + a3.toNat) a0))).length))
              (some
                (PV.sl 1 0 3 (a2.toNat - 0 + ((↑a0.length : Int).toNat - a3.toNat))
                    (a2.toNat - 0 + ((↑a0.length : Int).toNat - a3.toNat)) false a1,
                  [Blk.dead,
                    Blk.row true (Kd.str.pair ((Kd.int IntKind.i64).pair (Kd.int IntKind.i64)))
                      (splice
                        (splice a0 (0 + (a2.toNat - 0))
                          (List.take ((↑a0.length : Int).toNat - a3.toNat) (List.drop (0 + a3.toNat) a0)))
                        (0 + (↑(a2.toNat - 0 + ((↑a0.length : Int).toNat - a3.toNat)) : Int).toNat)
                        (List.replicate
                          ((↑a0.length : Int).toNat -
                            (↑(a2.toNat - 0 + ((↑a0.length : Int).toNat - a3.toNat)) : Int).toNat)
                          (ByteArray.mk #[], 0, 0)))])))))))) := by kernel_rfl
noncomputable abbrev n66aL (a0 : List (ByteArray × Int × Int)) (a1 : Bool) (a2 : Int) (a3 : Int) := evRound Try.prog C1 noCuts 53 (loopOf (codeAt 2 (bodyF Try.f66))) kSk muSk (killA 0 kSk) [0, 1, 3, 9] [] cSk ((a0, a1), (a2, ((), (a3, ()))))
theorem n66a (a0 : List (ByteArray × Int × Int)) (a1 : Bool) (a2 : Int) (a3 : Int) : n66aL a0 a1 a2 a3 = (bif decide (a3 > a2) then
  guardB (decide (0 ≤ a3) && decide (a3 < (↑a0.length : Int)))
    (bindO a0[0 + a3.toNat]? fun x =>
      guardB (decide (0 ≤ IntKind.i64.wrap (a3 - 1)) && decide (IntKind.i64.wrap (a3 - 1) < (↑a0.length : Int)))
        (bindO a0[0 + (IntKind.i64.wrap (a3 - 1)).toNat]? fun x_1 =>
          guardB (inS x.snd.snd 0 200000 && inS x_1.snd.snd 0 200000)
            (bif decide (x.snd.snd - x_1.snd.snd < 0) then
              guardB (decide (0 ≤ IntKind.i64.wrap (a3 - 1)) && decide (IntKind.i64.wrap (a3 - 1) < (↑a0.length : Int)))
                (bindO a0[0 + (IntKind.i64.wrap (a3 - 1)).toNat]? fun x =>
                  guardB (decide (0 ≤ a3) && decide (a3 < (↑a0.length : Int)))
                    (bindO a0[0 + a3.toNat]? fun x_2 =>
                      guardB (decide (0 ≤ a3) && decide (a3 < (↑a0.length : Int)))
                        (bindO a0[0 + a3.toNat]? fun x_3 =>
                          guardB
                            (decide (0 ≤ IntKind.i64.wrap (a3 - 1)) &&
                              decide (IntKind.i64.wrap (a3 - 1) < (↑a0.length : Int)))
                            (bindO (a0.set (0 + a3.toNat) x)[0 + (IntKind.i64.wrap (a3 - 1)).toNat]? fun x_4 =>
                              guardB
                                (decide
                                  (muSk
                                      (((a0.set (0 + a3.toNat) x).set (0 + (IntKind.i64.wrap (a3 - 1)).toNat) x_2, a1),
                                        a2, PUnit.unit, IntKind.i64.wrap (a3 - 1), PUnit.unit) <
                                    muSk ((a0, a1), a2, (), a3, ())))
                                (guardB
                                  (bif
                                      decide
                                        (a0.length =
                                          ((a0.set (0 + a3.toNat) x).set (0 + (IntKind.i64.wrap (a3 - 1)).toNat)
                                              x_2).length) then
                                    preSk ((a0.set (0 + a3.toNat) x).set (0 + (IntKind.i64.wrap (a3 - 1)).toNat) x_2) a2
                                      (IntKind.i64.wrap (a3 - 1))
                                  else false)
                                  (some
                                    (Xt.exit 2, [],
                                      [Blk.row true (Kd.str.pair ((Kd.int IntKind.i64).pair (Kd.int IntKind.i64)))
                                          (sinkT
                                            ((a0.set (0 + a3.toNat) x).set (0 + (IntKind.i64.wrap (a3 - 1)).toNat) x_2)
                                            (IntKind.i64.wrap (a3 - 1)).toNat)])))))))
            else
              some (Xt.exit 2, [], [Blk.row true (Kd.str.pair ((Kd.int IntKind.i64).pair (Kd.int IntKind.i64))) a0]))))
else some (Xt.exit 2, [], [Blk.row true (Kd.str.pair ((Kd.int IntKind.i64).pair (Kd.int IntKind.i64))) a0])) := by kernel_rfl
noncomputable abbrev n66bL (a0 : List (ByteArray × Int × Int)) (a1 : Bool) (a2 : Int) (a3 : Int) (a4 : Int) := evRound Try.prog C1 (addCut 2 [0, 1, 3, 9] [] (entC kSk cSk) noCuts) 53 (loopOf (codeAt 0 (bodyF Try.f66))) kIo muIo (killA 0 kIo) [0, 1, 2, 3, 8] [] cIo ((a0, a1), (a2, (a3, ((), (a4, ())))))
theorem n66b (a0 : List (ByteArray × Int × Int)) (a1 : Bool) (a2 : Int) (a3 : Int) (a4 : Int) : n66bL a0 a1 a2 a3 a4 = (bif decide (a4 < a3) then
  guardB (bif decide (a0.length = a0.length) then preSk a0 a2 a4 else false)
    (guardB
      (decide
        (muIo ((sinkT a0 a4.toNat, a1), a2, a3, PUnit.unit, IntKind.i64.wrap (a4 + 1), PUnit.unit) <
          muIo ((a0, a1), a2, a3, (), a4, ())))
      (guardB
        (bif decide (a0.length = (sinkT a0 a4.toNat).length) then
          preIo (sinkT a0 a4.toNat) a2 a3 (IntKind.i64.wrap (a4 + 1))
        else false)
        (some
          (Xt.exit 0, [],
            [Blk.row true (Kd.str.pair ((Kd.int IntKind.i64).pair (Kd.int IntKind.i64)))
                (isoT (Int.toNat (a3 - IntKind.i64.wrap (a4 + 1))) (IntKind.i64.wrap (a4 + 1)).toNat
                  (sinkT a0 a4.toNat))]))))
else some (Xt.exit 0, [], [Blk.row true (Kd.str.pair ((Kd.int IntKind.i64).pair (Kd.int IntKind.i64))) a0])) := by kernel_rfl
noncomputable abbrev n66L (a0 : List (ByteArray × Int × Int)) (a1 : Bool) (a2 : Int) (a3 : Int) := evFuncV Try.prog C1 (addCut 0 [0, 1, 2, 3, 8] [] (entC kIo cIo) noCuts) Try.f66 (killA 0 k66) (showA 0 k66 ((a0, a1), (a2, (a3, ((), ()))))).1 (showA 0 k66 ((a0, a1), (a2, (a3, ((), ()))))).2
theorem n66 (a0 : List (ByteArray × Int × Int)) (a1 : Bool) (a2 : Int) (a3 : Int) : n66L a0 a1 a2 a3 = (guardB (bif decide (a0.length = a0.length) then preIo a0 a2 a3 (IntKind.i64.wrap (a2 + 1)) else false)
  (some
    (PV.tup [],
      [Blk.row true (Kd.str.pair ((Kd.int IntKind.i64).pair (Kd.int IntKind.i64)))
          (isoT (Int.toNat (a3 - IntKind.i64.wrap (a2 + 1))) (IntKind.i64.wrap (a2 + 1)).toNat a0)]))) := by kernel_rfl
noncomputable abbrev n48L (a0 : List (ByteArray × Int × Int)) (a1 : Bool) (a2 : ByteArray) := evFuncV Try.prog C2 noCuts Try.f48 (killA 0 [bR, sS]) (showA 0 [bR, sS] (((a0, a1), ()), (a2, ()))).1 (showA 0 [bR, sS] (((a0, a1), ()), (a2, ()))).2
theorem n48 (a0 : List (ByteArray × Int × Int)) (a1 : Bool) (a2 : ByteArray) : n48L a0 a1 a2 = (guardB
  (bif decide (0 + a0.length ≤ a0.length) then
    bp (srtd (List.take a0.length a0) ∧ (List.take a0.length a0).length ≤ 1000)
  else false)
  (some
    (PV.tup
        [PV.sc (Value.int IntKind.i64 (lowI a2 (List.take a0.length a0))),
          PV.sc (Value.bool (hasT a2 (List.take a0.length a0)))],
      [Blk.fix true [PV.sl 1 0 3 a0.length a0.length false a1],
        Blk.row false (Kd.str.pair ((Kd.int IntKind.i64).pair (Kd.int IntKind.i64))) a0]))) := by kernel_rfl
noncomputable abbrev n54L (a0 : List (ByteArray × Int × Int)) (a1 : Bool) := evFuncV Try.prog C2 noCuts Try.f54 (killA 0 [rT]) (showA 0 [rT] ((a0, a1), ())).1 (showA 0 [rT] ((a0, a1), ())).2
theorem n54 (a0 : List (ByteArray × Int × Int)) (a1 : Bool) : n54L a0 a1 = (bif a1 then
  some (PV.sc (Value.slice none 0 0), [Blk.row false (Kd.str.pair ((Kd.int IntKind.i64).pair (Kd.int IntKind.i64))) a0])
else
  guardB
    (decide (0 + a0.length ≤ a0.length) && decide ((0 + a0.length) * 32 ≤ 140737488355328) &&
      decide (0 + a0.length ≤ 4611686018427387904))
    (bif decide (1 ≤ a0.length) then
      some
        (PV.sl 1 0 3 (0 + a0.length) (0 + a0.length) false false,
          [Blk.row false (Kd.str.pair ((Kd.int IntKind.i64).pair (Kd.int IntKind.i64))) a0,
            Blk.row true (Kd.str.pair ((Kd.int IntKind.i64).pair (Kd.int IntKind.i64))) (List.take a0.length a0)])
    else
      some
        (PV.sl 1 0 3 (0 + a0.length) (0 + a0.length) false (a0.length.beq 0 && false),
          [Blk.row false (Kd.str.pair ((Kd.int IntKind.i64).pair (Kd.int IntKind.i64))) a0,
            Blk.row true (Kd.str.pair ((Kd.int IntKind.i64).pair (Kd.int IntKind.i64))) (List.take a0.length a0)]))) := by kernel_rfl
noncomputable abbrev n77aL (a0 : List (ByteArray × Int × Int)) (a1 : Bool) (a2 : Int) (a3 : Int) (a4 : Int) (a5 : Int) := evRound Try.prog C2 noCuts 63 (loopOf (codeAt 0 (bodyF Try.f77))) kSb muSb (killA 0 kSb) [0, 1, 2, 6, 7, 8] [7, 8] cSb ((a0, a1), (a2, ((), (a3, (a4, (a5, ()))))))
theorem n77a (a0 : List (ByteArray × Int × Int)) (a1 : Bool) (a2 : Int) (a3 : Int) (a4 : Int) (a5 : Int) : n77aL a0 a1 a2 a3 a4 a5 = (bif decide (a5 ≤ a2) then
  guardB
    (bif decide (a0.length = a0.length) then
      decide ((a4 = 0 ∨ a5 ≤ a4) ∧ 0 ≤ a4 ∧ a4 ≤ 100 ∧ a5 ≤ (↑a0.length : Int) ∧ a0.length ≤ 100) && okT a0
    else false)
    (guardB
      (decide
        (muSb
            ((isoT (Int.toNat (a5 - (a4 + 1))) (Int.toNat (a4 + 1)) a0, a1), a2, PUnit.unit, a3, a5,
              IntKind.i64.wrap (a5 + a3), PUnit.unit) <
          muSb ((a0, a1), a2, (), a3, a4, a5, ())))
      (guardB
        (bif decide (a0.length = (isoT (Int.toNat (a5 - (a4 + 1))) (Int.toNat (a4 + 1)) a0).length) then
          preSb (isoT (Int.toNat (a5 - (a4 + 1))) (Int.toNat (a4 + 1)) a0) a2 a3 a5 (IntKind.i64.wrap (a5 + a3))
        else false)
        (some
          (Xt.exit 0,
            [PV.sc (Value.int IntKind.i64 (bif decide (IntKind.i64.wrap (a5 + a3) ≤ a2) then 20 else a5)),
              PV.sc
                (Value.int IntKind.i64
                  (bif decide (IntKind.i64.wrap (a5 + a3) ≤ a2) then 40 else IntKind.i64.wrap (a5 + a3)))],
            [Blk.row true (Kd.str.pair ((Kd.int IntKind.i64).pair (Kd.int IntKind.i64)))
                (bif decide (IntKind.i64.wrap (a5 + a3) ≤ a2) then
                  isoT 19 1 (isoT (Int.toNat (a5 - (a4 + 1))) (Int.toNat (a4 + 1)) a0)
                else isoT (Int.toNat (a5 - (a4 + 1))) (Int.toNat (a4 + 1)) a0)]))))
else
  some
    (Xt.exit 0, [PV.sc (Value.int IntKind.i64 a4), PV.sc (Value.int IntKind.i64 a5)],
      [Blk.row true (Kd.str.pair ((Kd.int IntKind.i64).pair (Kd.int IntKind.i64))) a0])) := by kernel_rfl
noncomputable abbrev n77bL (a0 : List (ByteArray × Int × Int)) (a1 : Bool) (a2 : Int) (a3 : Int) := evRound Try.prog C2 noCuts 63 (loopOf (codeAt 2 (bodyF Try.f77))) kS2 muS2 (killA 0 kS2) [0, 1, 2, 6] [] cS2 ((a0, a1), (a2, ((), (a3, ()))))
theorem n77b (a0 : List (ByteArray × Int × Int)) (a1 : Bool) (a2 : Int) (a3 : Int) : n77bL a0 a1 a2 a3 = (bif decide (a3 < a2) then
  bif decide (IntKind.i64.wrap (2 * a3) ≤ a2) then none
  else
    bif decide (IntKind.i64.wrap (0 + a3) < a2) then none
    else
      guardB
        (decide
          (muS2 ((a0, a1), a2, PUnit.unit, IntKind.i64.wrap (a3 * 2), PUnit.unit) < muS2 ((a0, a1), a2, (), a3, ())))
        (guardB (bif decide (a0.length = a0.length) then decide (a2 ≤ IntKind.i64.wrap (a3 * 2)) else false)
          (some
            (Xt.exit 2, [],
              [Blk.row true (Kd.str.pair ((Kd.int IntKind.i64).pair (Kd.int IntKind.i64))) (sameShp iT (a0, a1))])))
else some (Xt.exit 2, [], [Blk.row true (Kd.str.pair ((Kd.int IntKind.i64).pair (Kd.int IntKind.i64))) a0])) := by kernel_rfl
noncomputable abbrev n77L (a0 : List (ByteArray × Int × Int)) (a1 : Bool) (a2 : Int) := evFuncV Try.prog C2 (addCut 0 [0, 1, 2, 6, 7, 8] [7, 8] (entC kSb cSb) (addCut 2 [0, 1, 2, 6] [] (entC kS2 cS2) noCuts)) Try.f77 (killA 0 k77) (showA 0 k77 ((a0, a1), (a2, ((), ())))).1 (showA 0 k77 ((a0, a1), (a2, ((), ())))).2
theorem n77 (a0 : List (ByteArray × Int × Int)) (a1 : Bool) (a2 : Int) : n77L a0 a1 a2 = (guardB (bif decide (a0.length = a0.length) then preSb a0 a2 20 0 20 else false)
  (guardB
    (bif decide (a0.length = List.length (bif decide (20 ≤ a2) then isoT 19 1 a0 else a0)) then
      decide
          (((bif decide (20 ≤ a2) then (20 : Int) else 0) = 0 ∨ a2 ≤ bif decide (20 ≤ a2) then (20 : Int) else 0) ∧
            (0 ≤ bif decide (20 ≤ a2) then (20 : Int) else 0) ∧
              (bif decide (20 ≤ a2) then (20 : Int) else 0) ≤ 100 ∧
                a2 ≤ (↑(List.length (bif decide (20 ≤ a2) then isoT 19 1 a0 else a0)) : Int) ∧
                  List.length (bif decide (20 ≤ a2) then isoT 19 1 a0 else a0) ≤ 100) &&
        okT (bif decide (20 ≤ a2) then isoT 19 1 a0 else a0)
    else false)
    (guardB
      (bif
          decide
            (a0.length =
              (isoT (Int.toNat (a2 - ((bif decide (20 ≤ a2) then (20 : Int) else 0) + 1)))
                  (Int.toNat ((bif decide (20 ≤ a2) then (20 : Int) else 0) + 1))
                  (bif decide (20 ≤ a2) then isoT 19 1 a0 else a0)).length) then
        decide (a2 ≤ 20)
      else false)
      (some
        (PV.tup [],
          [Blk.row true (Kd.str.pair ((Kd.int IntKind.i64).pair (Kd.int IntKind.i64)))
              (sameShp iT
                (isoT (Int.toNat (a2 - ((bif decide (20 ≤ a2) then (20 : Int) else 0) + 1)))
                    (Int.toNat ((bif decide (20 ≤ a2) then (20 : Int) else 0) + 1))
                    (bif decide (20 ≤ a2) then isoT 19 1 a0 else a0),
                  a1))]))))) := by kernel_rfl
theorem q49a (l : List Int) (nl : Bool) (n k : Int) (h : preNm l n k = true) : n49aL l nl n k = pickA (cNm ((l, nl), n, k, ())).2 := (n49a l nl n k).trans ((s39a l nl n k).symm.trans (q39a l nl n k h))
theorem q49 (s : ByteArray) (h : s.size ≤ 1000000000000000000) : n49L s = some (PV.sc (.bool (namS s)), []) := (n49 s).trans ((s39 s).symm.trans (q39 s h))
theorem q22 (f : Int) : n22L f = some (PV.sc (.bool (valF f)), []) := by
  rw [n22]; unfold valF
  generalize decide (f ≥ 118000) = b1, decide (f ≤ 136975) = b2
  cases b1 <;> cases b2 <;> rfl
theorem q24 (f : Int) : n24L f = some (PV.sc (.bool (valF f)), []) := by
  rw [n24]; unfold valF
  generalize decide (f ≥ 118000) = b1, decide (f ≤ 136975) = b2
  cases b1 <;> cases b2 <;> rfl
theorem inS_at {n a b : Int} (h : inS n a b = true) : a ≤ n ∧ n ≤ b := by
  unfold inS at h; rw [Bool.and_eq_true] at h
  exact ⟨of_decide_eq_true h.1, of_decide_eq_true h.2⟩
theorem q56 (x y : T3) (h : (inS x.2.2 0 200000 && inS y.2.2 0 200000) = true) : n56L x.1 x.2.1 x.2.2 y.1 y.2.1 y.2.2 = some (PV.sc (.int .i64 (x.2.2 - y.2.2)), []) := by
  rw [Bool.and_eq_true] at h
  have h1 := inS_at h.1
  have h2 := inS_at h.2
  rw [n56, IntWalk.i64_in (x.2.2 - y.2.2) (by omega)]
theorem e49 : EntOK Try.prog 49 (entV [sS] (specP [sS] [sB] (fun v => decide (v.1.size ≤ 1000000000000000000)) fun v => (namS v.1, ()))) :=
  entV_ok Try.call49 (liftV U0_ok mixed Try.func49 (show Try.f49.body = some (bodyF Try.f49) from rfl) (cut_cons (by kernel_rfl) (loop_cutW U0_ok mixed muNm (by kernel_rfl) (noCuts_ok _) fun v h => q49a v.1.1 v.1.2 v.2.1 v.2.2.1 h) (noCuts_ok _)) (by decide) fun v h => q49 v.1 (of_decide_eq_true h))
theorem C1_ok : TableOK Try.prog C1 :=
  ext_ok e49 <|
  ext_ok (entV_ok Try.call22 (liftV (T0_ok _) mixed Try.func22 (show Try.f22.body = some (bodyF Try.f22) from rfl) (noCuts_ok _) (by decide) fun v _ => q22 v.1)) <|
  ext_ok (entV_ok Try.call24 (liftV (T0_ok _) mixed Try.func24 (show Try.f24.body = some (bodyF Try.f24) from rfl) (noCuts_ok _) (by decide) fun v _ => q24 v.1)) <|
  ext_ok (entV_ok Try.call26 (liftV U3_ok mixed Try.func26 (show Try.f26.body = some (bodyF Try.f26) from rfl) (noCuts_ok _) (by decide) fun v _ => n26 v.1.1 v.1.2.1 v.1.2.2 v.2.1.1 v.2.1.2.1 v.2.1.2.2.1 v.2.1.2.2.2)) <|
  ext_ok (entV_ok Try.call63 (liftV U3_ok mixed Try.func63 (show Try.f63.body = some (bodyF Try.f63) from rfl) (noCuts_ok _) (by decide) fun v _ => n63 v.1.1 v.1.2.1 v.1.2.2 v.2.1)) <|
  ext_ok (entV_ok Try.call32 (liftV U3_ok mixed Try.func32 (show Try.f32.body = some (bodyF Try.f32) from rfl) (noCuts_ok _) (by decide) fun v _ => n32 v.1.1 v.1.2.1 v.1.2.2 v.2.1.1 v.2.1.2.1 v.2.1.2.2)) <|
  ext_ok (entV_ok Try.call56 (liftV U3_ok mixed Try.func56 (show Try.f56.body = some (bodyF Try.f56) from rfl) (noCuts_ok _) (by decide) fun v h => q56 v.1 v.2.1 h)) U3_ok
/-! ### IndexFunc -/
theorem at_ex {l : List T3} {k : Int} (h0 : 0 ≤ k) (h : k < (l.length : Int)) : l[0 + k.toNat]? = some (atT l k) := by
  obtain ⟨x, hx⟩ := get_ex (l := l) (k := k.toNat) (by omega)
  unfold atT
  rw [Nat.zero_add, hx, List.getD, hx]; rfl
abbrev pvL (c : L4) : List PV := [.sc (.int .i64 c.1), .sc (.int .i64 c.2.1), .sc (.int .i64 c.2.2.1), .sc (.string c.2.2.2)]
theorem iXc_step {l : List T3} {c : ByteArray} {k : Int} {x : T3} (h0 : 0 ≤ k) (hx : l[k.toNat]? = some x) : iXc l c k = if isT c x then k else iXc l c (k + 1) := by
  unfold iXc
  rw [drop_cons hx, show (k + 1).toNat = k.toNat + 1 by omega]; rfl
theorem iXc_end {l : List T3} {c : ByteArray} {k : Int} (h : (l.length : Int) ≤ k) : iXc l c k = -1 := by
  unfold iXc
  rw [List.drop_eq_nil_of_le (by omega)]; rfl
theorem q25a (l : List T3) (nl : Bool) (c : L4) (n k : Int) (h : preXc l n k = true) : n25aL l nl c.1 c.2.1 c.2.2.1 c.2.2.2 n k =
    cond (decide (0 ≤ iXc l c.2.2.2 k)) (some (Xt.ret, [PV.sc (.int .i64 (iXc l c.2.2.2 k))], [Blk.row false kT l, Blk.fix false (pvL c)])) (some (Xt.exit 0, [PV.undef], [Blk.row false kT l, Blk.fix false (pvL c)])) := by
  obtain ⟨h1, h2, h3, h4⟩ := of_decide_eq_true h
  rw [n25a]
  simp only [List.take_length, Nat.zero_add, len_true, cond_true]
  refine cond_split (fun h => ?_) (fun h => ?_)
  · have h := of_decide_eq_true h
    obtain ⟨x, hx⟩ := get_ex (l := l) (k := k.toNat) (by omega)
    rw [iXc_step h2 hx, hx, IntWalk.i64_in (k + 1) (by omega)]
    refine guard_split (by simp; omega) ?_
    simp only [bindO]
    refine cond_split (fun h5 => ?_) (fun h5 => ?_)
    · rw [if_pos h5, show decide (0 ≤ k) = true from decide_eq_true h2]; rfl
    · rw [if_neg (by rw [h5]; simp)]
      exact guard_split (decide_eq_true (show (n - (k + 1)).toNat < (n - k).toNat by omega)) (guard_split (decide_eq_true (by omega)) rfl)
  · rw [iXc_end (by have := of_decide_eq_false h; omega)]; rfl
theorem q25 (l : List T3) (nl : Bool) (c : L4) (h : l.length ≤ 1000000) : n25L l nl c.1 c.2.1 c.2.2.1 c.2.2.2 = some (PV.sc (.int .i64 (ixT c.2.2.2 l)), [Blk.row false kT l, Blk.fix false (pvL c)]) := by
  rw [n25]
  simp only [List.take_length, Nat.zero_add, len_true, cond_true]
  refine guard_split (decide_eq_true (by omega)) ?_
  have hi : iXc l c.2.2.2 0 = ixT c.2.2.2 l := rfl
  rw [hi]
  refine cond_split (fun _ => rfl) (fun h => ?_)
  have h := of_decide_eq_false h
  rcases ixP_ge (isT c.2.2.2) l 0 (by omega) with h2 | h2
  · unfold ixT; rw [h2]
  · exact absurd h2 h
/-! ### BinarySearchFunc -/
theorem low_le (c : ByteArray) : ∀ l : List T3, lowT c l ≤ l.length
  | [] => Nat.le_refl _
  | x :: r => by
    unfold lowT
    cases decide (strC x.1 c < 0)
    · exact Nat.zero_le _
    · exact Nat.succ_le_succ (low_le c r)
theorem strC_trans {a b c : ByteArray} (h1 : strC a b < 0) (h2 : strC b c ≤ 0) : strC a c < 0 :=
  (YtokephobkllfgaaStr.cB_trans (Int.le_of_lt h1) h2).2 (Or.inl h1)
theorem strC_trans2 {a b c : ByteArray} (h1 : strC a b ≤ 0) (h2 : strC b c < 0) : strC a c < 0 :=
  (YtokephobkllfgaaStr.cB_trans h1 (Int.le_of_lt h2)).2 (Or.inr h2)
theorem strC_flip (a b : ByteArray) : strC b a = -strC a b := YtokephobkllfgaaStr.cB_flip _ _
theorem strC_zero {a b : ByteArray} (h : strC a b = 0) : a = b := by
  have := YtokephobkllfgaaStr.cB_zero h
  obtain ⟨⟨a⟩⟩ := a
  obtain ⟨⟨b⟩⟩ := b
  simp at this; subst this; rfl
theorem strC_self (a : ByteArray) : strC a a = 0 := YtokephobkllfgaaStr.cB_self _
theorem low_iff (c : ByteArray) : ∀ {l : List T3}, srtd l → ∀ (h : Nat) (x : T3), l[h]? = some x → (strC x.1 c < 0 ↔ h < lowT c l)
  | [], _, h, x, hx => by simp at hx
  | y :: r, hs, h, x, hx => by
    unfold srtd at hs
    rw [List.pairwise_cons] at hs
    unfold lowT
    cases h with
    | zero =>
      obtain rfl : y = x := by simpa using hx
      by_cases hy : strC y.1 c < 0
      · rw [decide_eq_true hy]; simp [hy]
      · rw [decide_eq_false hy]; simp [hy]
    | succ h =>
      have hx : r[h]? = some x := by simpa using hx
      have hyx : strC y.1 x.1 < 0 := hs.1 x (List.mem_of_getElem? hx)
      by_cases hy : strC y.1 c < 0
      · rw [decide_eq_true hy, cond_true, low_iff c hs.2 h x hx]; omega
      · rw [decide_eq_false hy, cond_false]
        have : ¬ strC x.1 c < 0 := fun h => hy (strC_trans hyx (by omega))
        simp [this]
theorem u64_in (n : Int) (h0 : 0 ≤ n) (h : n ≤ 1000000) : IntKind.u64.wrap n = n := by
  show n % 18446744073709551616 = n
  exact Int.emod_eq_of_lt h0 (by omega)
theorem half_in (i j : Int) (h0 : 0 ≤ i) (h1 : 0 ≤ j) (h2 : i ≤ 1000) (h3 : j ≤ 1000) : IntKind.i64.wrap ((IntKind.u64.wrap (IntKind.i64.wrap (i + j))).fdiv (2 ^ min (Int.toNat 1) IntKind.u64.bits)) = (i + j) / 2 := by
  rw [IntWalk.i64_in (i + j) (by omega), u64_in (i + j) (by omega) (by omega)]
  have e : (2 : Int) ^ min (Int.toNat 1) IntKind.u64.bits = 2 := rfl
  rw [e, Int.fdiv_eq_ediv_of_nonneg _ (by omega), IntWalk.i64_in _ (by omega)]
theorem q62a (l : List T3) (nl : Bool) (c : ByteArray) (i j : Int) (h : srtd l ∧ 0 ≤ i ∧ i ≤ lowI c l ∧ lowI c l ≤ j ∧ j ≤ (l.length : Int) ∧ l.length ≤ 1000) : n62aL l nl c i j = some (Xt.exit 0, [PV.sc (.int .i64 (lowI c l))], [Blk.row false kT l]) := by
  obtain ⟨h1, h2, h3, h4, h5, h6⟩ := h
  rw [n62a]
  simp only [List.take_length, Nat.zero_add, len_true, cond_true]
  refine cond_split (fun h => ?_) (fun h => ?_)
  · have h := of_decide_eq_true h
    rw [half_in i j h2 (by omega) (by omega) (by omega)]
    have hh : i ≤ (i + j) / 2 ∧ (i + j) / 2 < j := by omega
    generalize (i + j) / 2 = g at *
    obtain ⟨x, hx⟩ := get_ex (l := l) (k := g.toNat) (by omega)
    have hl := low_iff c h1 g.toNat x hx
    rw [hx, IntWalk.i64_in (g + 1) (by omega)]
    refine guard_split (by simp; omega) ?_
    simp only [bindO]
    unfold lowI at *
    refine cond_split (fun hc => ?_) (fun hc => ?_)
    · have hc := hl.1 (of_decide_eq_true hc)
      exact guard_split (decide_eq_true (show (j - (g + 1)).toNat < (j - i).toNat by omega)) (guard_split (bp_mk ⟨h1, by omega, by omega, h4, h5, h6⟩) rfl)
    · have hc := mt hl.2 (of_decide_eq_false hc)
      exact guard_split (decide_eq_true (show (g - i).toNat < (j - i).toNat by omega)) (guard_split (bp_mk ⟨h1, h2, h3, by omega, by omega, h6⟩) rfl)
  · have h := of_decide_eq_false h
    rw [show i = lowI c l by omega]
theorem q62 (l : List T3) (nl : Bool) (c : ByteArray) (h1 : srtd l) (h2 : l.length ≤ 1000) : n62L l nl c = some (PV.tup [.sc (.int .i64 (lowI c l)), .sc (.bool (hasT c l))], [Blk.row false kT l]) := by
  rw [n62]
  simp only [List.take_length, Nat.zero_add, len_true, cond_true]
  have hl := low_le c l
  have hi : 0 ≤ lowI c l ∧ lowI c l ≤ (l.length : Int) := by unfold lowI; omega
  refine guard_split (bp_mk ⟨h1, by omega, hi.1, hi.2, by omega, h2⟩) ?_
  unfold hasT
  refine cond_split (fun h => ?_) (fun h => ?_)
  · have hlt := of_decide_eq_true h
    refine guard_split (by simp; omega) ?_
    have := at_ex hi.1 hlt
    rw [Nat.zero_add] at this
    rw [this, h]
    simp only [bindO, Bool.true_and]
  · rw [h]; rfl
theorem e62 : EntOK Try.prog 62 (entV kBs (specP kBs [sI, sB] (fun v => bp (srtd v.1.1 ∧ v.1.1.length ≤ 1000)) fun v => (lowI v.2.1 v.1.1, hasT v.2.1 v.1.1, ()))) :=
  entV_ok Try.call62 (liftV C1_ok mixed Try.func62 (show Try.f62.body = some (bodyF Try.f62) from rfl) (cut_cons (by kernel_rfl) (loop_cutW C1_ok mixed muBl (by kernel_rfl) (noCuts_ok _) fun v h => q62a v.1.1 v.1.2 v.2.1 v.2.2.2.1 v.2.2.2.2.1 (bp_true.1 h)) (noCuts_ok _)) (by decide) fun v h => q62 v.1.1 v.1.2 v.2.1 (bp_true.1 h).1 (bp_true.1 h).2)
/-! ### Equal -/
theorem eqTs_cons (x y : T3) (r s : List T3) : eqTs (x :: r) (y :: s) = (eqT x y && eqTs r s) := rfl
theorem eqWs_cons (x y : ByteArray) (r s : List ByteArray) : eqWs (x :: r) (y :: s) = (decide (x = y) && eqWs r s) := rfl
theorem q34a (l m : List T3) (nl nm : Bool) (n k : Int) (h : preE l m n k = true) :
    n34aL l nl m nm n k = pickA (cEt ((l, nl), (m, nm), n, k, ())).2 := by
  obtain ⟨h1, h2, h3, h4, h5⟩ := of_decide_eq_true h
  rw [n34a]
  show _ = cond (eqTs (l.drop k.toNat) (m.drop k.toNat)) (some (Xt.exit 0, [PV.undef], [Blk.row false kT l, Blk.row false kT m])) (some (Xt.ret, [PV.sc (.bool false)], [Blk.row false kT l, Blk.row false kT m]))
  simp only [List.take_length, Nat.zero_add, len_true, cond_true]
  refine cond_split (fun hk => ?_) (fun hk => ?_)
  · have hk := of_decide_eq_true hk
    obtain ⟨x, hx⟩ := get_ex (l := l) (k := k.toNat) (by omega)
    obtain ⟨y, hy⟩ := get_ex (l := m) (k := k.toNat) (by omega)
    rw [hx, hy, drop_cons hx, drop_cons hy, IntWalk.i64_in (k + 1) (by omega), show (k + 1).toNat = k.toNat + 1 by omega]
    refine guard_split (by simp; omega) ?_
    simp only [bindO]
    refine guard_split (by simp; omega) ?_
    rw [eqTs_cons]
    change cond (!eqT x y) _ _ = _
    cases eqT x y with
    | false => rfl
    | true =>
      simp only [Bool.not_true, cond_false, Bool.true_and]
      refine guard_split (decide_eq_true (show (n - (k + 1)).toNat < (n - k).toNat by omega)) (guard_split (decide_eq_true (by omega)) rfl)
  · have hk := of_decide_eq_false hk
    rw [List.drop_eq_nil_of_le (by omega), List.drop_eq_nil_of_le (by omega)]
    rfl
theorem eqTs_len : ∀ {l m : List T3}, eqTs l m = true → l.length = m.length
  | [], [], _ => rfl
  | [], _ :: _, h => by simp [eqTs] at h
  | _ :: _, [], h => by simp [eqTs] at h
  | x :: l, y :: m, h => by
    unfold eqTs at h
    rw [Bool.and_eq_true] at h
    simp [eqTs_len h.2]
theorem q34 (l m : List T3) (nl nm : Bool) (h : decide (l.length ≤ 100 ∧ m.length ≤ 100) = true) :
    n34L l nl m nm = some (PV.sc (.bool (eqTs l m)), [Blk.row false kT l, Blk.row false kT m]) := by
  obtain ⟨h1, h2⟩ := of_decide_eq_true h
  rw [n34]
  simp only [List.take_length, Nat.zero_add, len_true, cond_true, show Int.toNat 0 = 0 from rfl, List.drop_zero]
  refine cond_split (fun hk => ?_) (fun hk => ?_)
  · cases he : eqTs l m with
    | false => rfl
    | true => rw [eqTs_len he] at hk; simp at hk
  · have hk : (l.length : Int) = (m.length : Int) := by simpa using hk
    refine guard_split (decide_eq_true (by omega)) ?_
    cases eqTs l m <;> rfl
theorem e34 : EntOK Try.prog 34 (entV [rT, rT] (specP [rT, rT] [sB] (fun v => decide (v.1.1.length ≤ 100 ∧ v.2.1.1.length ≤ 100)) fun v => (eqTs v.1.1 v.2.1.1, ()))) :=
  entV_ok Try.call34 (liftV C1_ok mixed Try.func34 (show Try.f34.body = some (bodyF Try.f34) from rfl) (cut_cons (by kernel_rfl) (loop_cutW C1_ok mixed muEt (by kernel_rfl) (noCuts_ok _) fun v h => q34a v.1.1 v.2.1.1 v.1.2 v.2.1.2 v.2.2.1 v.2.2.2.1 h) (noCuts_ok _)) (by decide) fun v h => q34 v.1.1 v.2.1.1 v.1.2 v.2.1.2 h)
theorem q36a (l m : List ByteArray) (nl nm : Bool) (n k : Int) (h : preE l m n k = true) :
    n36aL l nl m nm n k = pickA (cEw ((l, nl), (m, nm), n, k, ())).2 := by
  obtain ⟨h1, h2, h3, h4, h5⟩ := of_decide_eq_true h
  rw [n36a]
  show _ = cond (eqWs (l.drop k.toNat) (m.drop k.toNat)) (some (Xt.exit 0, [PV.undef], [Blk.row false .str l, Blk.row false .str m])) (some (Xt.ret, [PV.sc (.bool false)], [Blk.row false .str l, Blk.row false .str m]))
  simp only [List.take_length, Nat.zero_add, len_true, cond_true]
  refine cond_split (fun hk => ?_) (fun hk => ?_)
  · have hk := of_decide_eq_true hk
    obtain ⟨x, hx⟩ := get_ex (l := l) (k := k.toNat) (by omega)
    obtain ⟨y, hy⟩ := get_ex (l := m) (k := k.toNat) (by omega)
    rw [hx, hy, drop_cons hx, drop_cons hy, IntWalk.i64_in (k + 1) (by omega), show (k + 1).toNat = k.toNat + 1 by omega]
    refine guard_split (by simp; omega) ?_
    simp only [bindO]
    refine guard_split (by simp; omega) ?_
    rw [eqWs_cons]
    generalize decide (x = y) = b
    cases b with
    | false => rfl
    | true =>
      simp only [Bool.not_true, cond_false, Bool.true_and]
      refine guard_split (decide_eq_true (show (n - (k + 1)).toNat < (n - k).toNat by omega)) (guard_split (decide_eq_true (by omega)) rfl)
  · have hk := of_decide_eq_false hk
    rw [List.drop_eq_nil_of_le (by omega), List.drop_eq_nil_of_le (by omega)]
    rfl
theorem eqWs_len : ∀ {l m : List ByteArray}, eqWs l m = true → l.length = m.length
  | [], [], _ => rfl
  | [], _ :: _, h => by simp [eqWs] at h
  | _ :: _, [], h => by simp [eqWs] at h
  | x :: l, y :: m, h => by
    unfold eqWs at h
    rw [Bool.and_eq_true] at h
    simp [eqWs_len h.2]
theorem q36 (l m : List ByteArray) (nl nm : Bool) (h : decide (l.length ≤ 100 ∧ m.length ≤ 100) = true) :
    n36L l nl m nm = some (PV.sc (.bool (eqWs l m)), [Blk.row false .str l, Blk.row false .str m]) := by
  obtain ⟨h1, h2⟩ := of_decide_eq_true h
  rw [n36]
  simp only [List.take_length, Nat.zero_add, len_true, cond_true, show Int.toNat 0 = 0 from rfl, List.drop_zero]
  refine cond_split (fun hk => ?_) (fun hk => ?_)
  · cases he : eqWs l m with
    | false => rfl
    | true => rw [eqWs_len he] at hk; simp at hk
  · have hk : (l.length : Int) = (m.length : Int) := by simpa using hk
    refine guard_split (decide_eq_true (by omega)) ?_
    cases eqWs l m <;> rfl
theorem e36 : EntOK Try.prog 36 (entV [rW, rW] (specP [rW, rW] [sB] (fun v => decide (v.1.1.length ≤ 100 ∧ v.2.1.1.length ≤ 100)) fun v => (eqWs v.1.1 v.2.1.1, ()))) :=
  entV_ok Try.call36 (liftV C1_ok mixed Try.func36 (show Try.f36.body = some (bodyF Try.f36) from rfl) (cut_cons (by kernel_rfl) (loop_cutW C1_ok mixed muEw (by kernel_rfl) (noCuts_ok _) fun v h => q36a v.1.1 v.2.1.1 v.1.2 v.2.1.2 v.2.2.1 v.2.2.2.1 h) (noCuts_ok _)) (by decide) fun v h => q36 v.1.1 v.2.1.1 v.1.2 v.2.1.2 h)
/-! ### Delete of one -/
theorem take_spl {α : Type} (L : List α) (k p : Nat) (ys zs : List α) (h : k + ys.length ≤ L.length) (hp : p = k + ys.length) (hz : p + zs.length ≤ L.length) : (splice (splice L k ys) p zs).take p = L.take k ++ ys := by
  subst hp
  have h1 : (splice L k ys).length = L.length := splice_len L k ys h
  rw [splice, List.take_append_of_le_length (by rw [List.length_take, h1]; omega), List.take_take, Nat.min_self, splice, ← List.append_assoc]
  rw [List.take_append_of_le_length (by rw [List.length_append, List.length_take]; omega), List.take_of_length_le (by rw [List.length_append, List.length_take]; omega)]
abbrev fullT (L : List T3) (k : Nat) : List T3 := splice (splice L k ((L.drop (k + 1)).take (L.length - (k + 1)))) (L.length - 1) (List.replicate 1 zT)
theorem full_cut (L : List T3) (k : Nat) (h : k < L.length) : (fullT L k).take (L.length - 1) = L.eraseIdx k := by
  have hl : ((L.drop (k + 1)).take (L.length - (k + 1))).length = L.length - (k + 1) := by rw [List.length_take, List.length_drop]; omega
  rw [fullT, take_spl L k _ _ _ (by omega) (by omega) (by simp; omega), List.eraseIdx_eq_take_drop_succ, List.take_of_length_le (l := L.drop (k + 1)) (by rw [List.length_drop]; omega)]
theorem q30 (i j : Int) (L : List T3) (nl : Bool) (h : j = i + 1 ∧ 0 ≤ i ∧ i < (L.length : Int) ∧ L.length ≤ 1000) : n30L L nl i j = some (PV.sl 1 0 3 (L.length - 1) (L.length - 1) false nl, [Blk.dead, Blk.row true kT (fullT L i.toNat)]) := by
  obtain ⟨rfl, h4, h5, h6⟩ := h
  obtain ⟨k, rfl⟩ : ∃ k : Nat, i = (k : Int) := ⟨i.toNat, by omega⟩
  have e1 : ((k : Int) + 1).toNat = k + 1 := by omega
  have e2 : k - 0 + (L.length - (k + 1)) = L.length - 1 := by omega
  rw [n30]
  simp only [Int.toNat_natCast, e1, e2, Nat.zero_add, Nat.sub_zero]
  have e2 : k + (L.length - (k + 1)) = L.length - 1 := by omega
  simp only [e2]
  refine guard_split (by simp; omega) ?_
  rw [show ((k : Int) == (k : Int) + 1) = false by simp; omega]
  simp only [cond_false]
  refine guard_split (by simp; omega) (guard_split (by simp; omega) (guard_split ?_ (guard_split ?_ (guard_split ?_ ?_))))
  · simp; omega
  · simp
  · rw [splice_len _ _ _ (by rw [List.length_take, List.length_drop]; omega)]; simp
  · rw [show L.length - (L.length - 1) = 1 by omega]; rfl
theorem del_lt {i j : Int} {L : List T3} (h : j = i + 1 ∧ 0 ≤ i ∧ i < (L.length : Int) ∧ L.length ≤ 1000) : i.toNat < L.length := by omega
theorem e30 : EntOK Try.prog 30 (entV kDc sp30) := by
  refine entV_ok Try.call30 ?_
  rintro ⟨⟨L, nl⟩, i, j, ⟨⟩⟩ hv r H' hp
  have h0 : j = i + 1 ∧ 0 ≤ i ∧ i < (L.length : Int) ∧ L.length ≤ 1000 := of_decide_eq_true hv
  have h1 : CallOK Try.prog 30 (showA 0 kDc ((L, nl), i, j, ())).1 (showA 0 kDc ((L, nl), i, j, ())).2 (PV.sl 1 0 3 (L.length - 1) (L.length - 1) false nl) [Blk.dead, Blk.row true kT (fullT L i.toNat)] := evFuncV_sound C1_ok mixed Try.func30 (show Try.f30.body = some (bodyF Try.f30) from rfl) (noCuts_ok _) (q30 i j L nl h0) (by rw [showA_len]; decide)
  have h2 := h1.cut 1 (L.length - 1)
  have hp : some (PV.sl 1 0 3 (L.eraseIdx i.toNat).length (L.eraseIdx i.toNat).length false nl, [Blk.dead, Blk.row true kT (L.eraseIdx i.toNat)]) = some (r, H') := hp
  obtain ⟨rfl, rfl⟩ := Prod.mk.inj (Option.some.inj hp)
  have hi : Int.toNat i < L.length := del_lt h0
  have e : (L.eraseIdx (Int.toNat i)).length = L.length - 1 := List.length_eraseIdx_of_lt hi
  rw [e, ← full_cut L (Int.toNat i) hi]
  exact h2
/-! ### SortFunc by call -/
def laysSF_ren : Go.Shelf.Ren := ⟨fun | 6 => 31 | 15 => 52 | 14 => 51 | 28 => 74 | 29 => 75 | 20 => 66 | 21 => 67 | 22 => 68 | 23 => 69 | 24 => 70 | 25 => 71 | 26 => 72 | 27 => 73 | 46 => 88 | 47 => 89 | 48 => 90 | 49 => 91 | 50 => 92 | 57 => 99 | n => n, fun | 22 => 51 | 24 => 56 | 25 => 62 | 3 => 3 | 39 => 87 | 0 => 0 | 53 => 104 | 55 => 106 | 4 => 4 | 46 => 98 | 45 => 97 | 50 => 82 | 5 => 5 | 9 => 9 | 66 => 113 | 70 => 117 | 76 => 123 | 77 => 124 | n => n, fun | n => n⟩
theorem laysSF : Go.Proofs.SlLaysF0.n6 Try.prog laysSF_ren := {
  mixed := by kernel_rfl
  f6 := ⟨Try.f31.name, by decide, Try.func31.trans (congrArg some (by kernel_rfl))⟩
  f14 := ⟨Try.f51.name, by decide, Try.func51.trans (congrArg some (by kernel_rfl))⟩
  f15 := Try.func52.trans (congrArg some (by kernel_rfl))
  f20 := ⟨Try.f66.name, by decide, Try.func66.trans (congrArg some (by kernel_rfl))⟩
  f21 := ⟨Try.f67.name, by decide, Try.func67.trans (congrArg some (by kernel_rfl))⟩
  f22 := ⟨Try.f68.name, by decide, Try.func68.trans (congrArg some (by kernel_rfl))⟩
  f23 := ⟨Try.f69.name, by decide, Try.func69.trans (congrArg some (by kernel_rfl))⟩
  f24 := ⟨Try.f70.name, by decide, Try.func70.trans (congrArg some (by kernel_rfl))⟩
  f25 := ⟨Try.f71.name, by decide, Try.func71.trans (congrArg some (by kernel_rfl))⟩
  f26 := ⟨Try.f72.name, by decide, Try.func72.trans (congrArg some (by kernel_rfl))⟩
  f27 := ⟨Try.f73.name, by decide, Try.func73.trans (congrArg some (by kernel_rfl))⟩
  f28 := Try.func74.trans (congrArg some (by kernel_rfl))
  f29 := Try.func75.trans (congrArg some (by kernel_rfl))
  f46 := ⟨Try.f88.name, by decide, Try.func88.trans (congrArg some (by kernel_rfl))⟩
  f47 := Try.func89.trans (congrArg some (by kernel_rfl))
  f48 := Try.func90.trans (congrArg some (by kernel_rfl))
  f49 := ⟨Try.f91.name, by decide, Try.func91.trans (congrArg some (by kernel_rfl))⟩
  f50 := ⟨Try.f92.name, by decide, Try.func92.trans (congrArg some (by kernel_rfl))⟩
  f57 := ⟨Try.f99.name, by decide, Try.func99.trans (congrArg some (by kernel_rfl))⟩
  t0 := Try.underlying0
  a0 := Try.isAgg0
  z0 := Try.sizeOf0
  v0 := Try.zeroValue0
  t3 := Try.underlying3
  a3 := Try.isAgg3
  z3 := Try.sizeOf3
  v3 := Try.zeroValue3
  t4 := Try.underlying4
  a4 := Try.isAgg4
  z4 := Try.sizeOf4
  v4 := Try.zeroValue4
  t5 := Try.underlying5
  a5 := Try.isAgg5
  z5 := Try.sizeOf5
  v5 := Try.zeroValue5
  t9 := Try.underlying9
  a9 := Try.isAgg9
  z9 := Try.sizeOf9
  v9 := Try.zeroValue9
  t22 := Try.underlying51
  a22 := Try.isAgg51
  z22 := Try.sizeOf51
  v22 := Try.zeroValue51
  t25 := Try.underlying62
  a25 := Try.isAgg62
  z25 := Try.sizeOf62
  v25 := Try.zeroValue62
  t39 := Try.underlying87
  a39 := Try.isAgg87
  z39 := Try.sizeOf87
  v39 := Try.zeroValue87
  t45 := Try.underlying97
  a45 := Try.isAgg97
  z45 := Try.sizeOf97
  v45 := Try.zeroValue97
  t46 := Try.underlying98
  a46 := Try.isAgg98
  z46 := Try.sizeOf98
  v46 := Try.zeroValue98
  t50 := Try.underlying82
  a50 := Try.isAgg82
  z50 := Try.sizeOf82
  v50 := Try.zeroValue82
  t53 := Try.underlying104
  a53 := Try.isAgg104
  z53 := Try.sizeOf104
  v53 := Try.zeroValue104
  t55 := Try.underlying106
  a55 := Try.isAgg106
  z55 := Try.sizeOf106
  v55 := Try.zeroValue106
  t66 := Try.underlying113
  a66 := Try.isAgg113
  z66 := Try.sizeOf113
  v66 := Try.zeroValue113
  t70 := Try.underlying117
  a70 := Try.isAgg117
  z70 := Try.sizeOf117
  v70 := Try.zeroValue117
  t76 := Try.underlying123
  a76 := Try.isAgg123
  z76 := Try.sizeOf123
  v76 := Try.zeroValue123
  t77 := Try.underlying124
  a77 := Try.isAgg124
  z77 := Try.sizeOf124
  v77 := Try.zeroValue124 }

theorem swoC : Go.Sort.SWO (Go.Proofs.ltOf cmpC) where
  irrefl x := decide_eq_false (by have := strC_self x.1; unfold cmpC; omega)
  trans x y z h1 h2 := by
    have h1 := of_decide_eq_true h1
    have h2 := of_decide_eq_true h2
    exact decide_eq_true (strC_trans h1 (Int.le_of_lt h2))
  ntrans x y z h1 h2 := by
    have h1 := of_decide_eq_false h1
    have h2 := of_decide_eq_false h2
    unfold cmpC at h1 h2
    refine decide_eq_false fun h3 => ?_
    unfold cmpC at h3
    have e1 := strC_flip x.1 y.1
    have e2 := strC_flip y.1 z.1
    exact h1 (strC_trans h3 (by omega))
theorem call32 (x y : T3) : CallOK Try.prog 32 [.agg (scs (kT.vals x)), .agg (scs (kT.vals y))] [] (.sc (.int .i64 (cmpC x y))) [] :=
  have h : CallOK Try.prog 32 (showA 0 [sT, sT] (x, (y, ()))).1 (showA 0 [sT, sT] (x, (y, ()))).2 (.sc (.int .i64 (cmpC x y))) [] := evFuncV_sound U3_ok mixed Try.func32 (show Try.f32.body = some (bodyF Try.f32) from rfl) (noCuts_ok _) (n32 x.1 x.2.1 x.2.2 y.1 y.2.1 y.2.2) (by rw [showA_len]; decide)
  h
theorem sort_at (blk off cap : Nat) (zs : List T3) (w : World) (hH : HoldsK kT.vals kT.sz w blk off zs.toArray) (hblk : blk < w.heap.size) (hsz : zs.length < 4611686018427387904) :
    Calls Try.prog 31 #[.slice (some ⟨blk, off, none⟩) zs.length cap, .func (.func 32) #[] #[]] w fun e w' => e = .returned (.tuple #[]) ∧ ∃ n os, w' = sortWorldK kT.vals kT.sz w blk off n (srtC zs).toArray os :=
  AnyQ.slices_SortFunc_eq laysSF 3 Try.isAgg56 Try.sizeOf56 kT.vals (Kd.len_vals kT) (fun x v hv => Kd.one_vals kT x v hv) cmpC swoC 32 #[] blk off cap zs.toArray w (enters_of Try.func32 (by kernel_rfl) rfl)
    (fun m os dk hd x y => YtokephobkllfgaaSf.grown_call call32 x y _) hH hblk (by simpa using hsz)
theorem srt_all (l : List T3) : (srtC l).Perm l ∧ (srtC l).Pairwise fun x y => Go.Proofs.ltOf cmpC y x = false := by
  have h := Go.Sort.pdq_sorts (Go.Proofs.ltOf cmpC) swoC l.toArray 0 l.length (Go.Lib.bitLen l.length) true true (Nat.zero_le _) (by simp) (Or.inl rfl)
  obtain ⟨⟨h1, h2, h3⟩, h4⟩ := h
  unfold srtC
  generalize Go.Sort.pdq (Go.Proofs.ltOf cmpC) l.toArray 0 l.length (Go.Lib.bitLen l.length) true true = d at *
  have hs : d.size = l.length := by simpa using h1
  constructor
  · have e : d.extract 0 l.length = d := by rw [← hs]; simp
    rw [e] at h3
    simpa using h3
  · exact YtokephobkllfgaaStr.sortedIn_pw (by rw [hs]; exact h4)
theorem srt_len (l : List T3) : (srtC l).length = l.length := (srt_all l).1.length_eq
theorem e31 : EntOK Try.prog 31 (entV k31 (spec1 k31 [] (fun v => decide (v.1.1.length ≤ 1000)) (fun _ => ()) fun v => (srtC v.1.1, (), ()))) := by
  refine entV_ok Try.call31 ?_
  rintro ⟨⟨zs, nl⟩, ⟨⟩, ⟨⟩⟩ hv r H' hp
  have hv : zs.length ≤ 1000 := of_decide_eq_true hv
  have hp : (some (PV.tup [], [Blk.row true kT (srtC zs)]) : Option (PV × List Blk)) = some (r, H') := hp
  obtain ⟨rfl, rfl⟩ := Prod.mk.inj (Option.some.inj hp)
  by_cases h0 : zs.length = 0
  · obtain rfl : zs = [] := List.length_eq_zero_iff.1 h0
    have e : srtC [] = [] := List.length_eq_zero_iff.1 (by rw [srt_len]; rfl)
    rw [e]
    exact YtokephobkllfgaaSf.sortF_none (k := kT) (f := 31) (g := 32) (fun p cap w => AnyF.slices_SortFunc_none laysSF p cap _ w) nl
  · exact YtokephobkllfgaaSf.sortF_call (k := kT) srt_len sort_at zs nl (by omega) (by omega)
/-! ### Insert -/
def insRen : Go.Shelf.Ren := ⟨fun | 22 => 50 | 29 => 64 | 30 => 65 | 36 => 87 | 17 => 98 | n => n, fun | 9 => 56 | 24 => 51 | n => n, fun n => n⟩
theorem insLc : YtokephobkllfgaaIn.InsL Try.prog insRen 3 (.agg #[.string ⟨#[]⟩, .int .i64 0, .int .i64 0]) 32 := {
  mixed := mixed
  f22 := ⟨Try.f50.name, by decide, Try.func50.trans (congrArg some (by kernel_rfl))⟩
  f29 := fun args w => run_callFunc_extern Try.func64 (by kernel_rfl) (by kernel_rfl) (by kernel_rfl) (by kernel_rfl) args w
  t0 := Try.underlying0
  a0 := Try.isAgg0
  z0 := Try.sizeOf0
  v0 := Try.zeroValue0
  t3 := Try.underlying3
  a3 := Try.isAgg3
  z3 := Try.sizeOf3
  v3 := Try.zeroValue3
  t4 := Try.underlying4
  a4 := Try.isAgg4
  z4 := Try.sizeOf4
  v4 := Try.zeroValue4
  z9 := Try.sizeOf56
  t24 := Try.underlying51
  a24 := Try.isAgg51
  z24 := Try.sizeOf51
  v24 := Try.zeroValue51
  i9 := by kernel_rfl }
theorem e50 : EntOK Try.prog 50 (entV kIc sp50) := by
  refine entV_ok Try.call50 ?_
  rintro ⟨⟨xs, nl⟩, i, ⟨ys, nl2⟩, ⟨⟩⟩ hv r H' hp
  obtain ⟨h1, h2, h3, h4⟩ := of_decide_eq_true (show decide (0 ≤ i ∧ i ≤ (xs.length : Int) ∧ xs.length ≤ 1000 ∧ ys.length = 1) = true from hv)
  obtain ⟨x, rfl⟩ : ∃ x, ys = [x] := by
    match ys, h4 with
    | [x], _ => exact ⟨x, rfl⟩
  have hp : (some (PV.sl 2 0 3 (xs.length + 1) (xs.length + 1) false false, [Blk.dead, Blk.row true kT [x], Blk.row true kT (insG xs i [x])]) : Option (PV × List Blk)) = some (r, H') := hp
  obtain ⟨rfl, rfl⟩ := Prod.mk.inj (Option.some.inj hp)
  have h := YtokephobkllfgaaIn.ins_call (kd := kT) insLc (by rfl) (by omega) (by omega) (by decide) xs (Int.toNat i) x xs.length 1 false nl false nl2 (Blk.row true kT [x]) (by have h1 : @LE.le Int _ 0 i := h1; have h2 : @LE.le Int _ i xs.length := h2; omega) (by omega) rfl (by show scs ([x].flatMap kT.vals) = _; rw [List.flatMap_singleton])
  have e : ((Int.toNat i : Nat) : Int) = i := Int.toNat_of_nonneg h1
  rw [e] at h
  exact h
/-! ### Insertion sort by the last time -/
theorem get_at {L : List T3} {j : Nat} (h : j < L.length) : L[j]? = some (L.getD j zT) := by
  obtain ⟨x, hx⟩ := get_ex h
  rw [List.getD, hx]; rfl
theorem okT_iff {L : List T3} : okT L = true ↔ ∀ x ∈ L, inS x.2.2 0 200000 = true := List.all_eq_true
theorem swp_len (L : List T3) (j : Nat) : (swp L j).length = L.length := by unfold swp; simp
theorem getD_mem {L : List T3} {j : Nat} (h : j < L.length) : L.getD j zT ∈ L := List.mem_of_getElem? (get_at h)
theorem swp_ok {L : List T3} {j : Nat} (h : okT L = true) (hj : j + 1 < L.length) : okT (swp L j) = true := by
  rw [okT_iff] at h ⊢
  intro x hx
  unfold swp at hx
  rcases List.mem_or_eq_of_mem_set hx with hx | rfl
  · rcases List.mem_or_eq_of_mem_set hx with hx | rfl
    · exact h x hx
    · exact h _ (getD_mem (by omega))
  · exact h _ (getD_mem hj)
theorem sink_len : ∀ (j : Nat) (L : List T3), (sinkT L j).length = L.length
  | 0, L => rfl
  | j + 1, L => by
    unfold sinkT
    cases decide ((L.getD (j + 1) zT).2.2 - (L.getD j zT).2.2 < 0) with
    | false => rfl
    | true => rw [cond_true, sink_len j, swp_len]
theorem sink_ok : ∀ (j : Nat) {L : List T3}, okT L = true → j < L.length → okT (sinkT L j) = true
  | 0, L, h, _ => h
  | j + 1, L, h, hj => by
    unfold sinkT
    cases decide ((L.getD (j + 1) zT).2.2 - (L.getD j zT).2.2 < 0) with
    | false => exact h
    | true => rw [cond_true]; exact sink_ok j (swp_ok h hj) (by rw [swp_len]; omega)
theorem iso_len : ∀ (n i : Nat) (L : List T3), (isoT n i L).length = L.length
  | 0, i, L => rfl
  | n + 1, i, L => by unfold isoT; rw [iso_len n, sink_len]
theorem iso_ok : ∀ (n i : Nat) {L : List T3}, okT L = true → i + n ≤ L.length → okT (isoT n i L) = true
  | 0, i, L, h, _ => h
  | n + 1, i, L, h, hi => by unfold isoT; exact iso_ok n (i + 1) (sink_ok i h (by omega)) (by rw [sink_len]; omega)
theorem q66a (L : List T3) (nl : Bool) (a j : Int) (h : preSk L a j = true) : n66aL L nl a j = some (Xt.exit 2, [], [Blk.row true kT (sinkT L j.toNat)]) := by
  unfold preSk at h
  rw [Bool.and_eq_true] at h
  obtain ⟨rfl, h2, h3, h4⟩ := of_decide_eq_true h.1
  have hok := h.2
  rw [n66a]
  simp only [Nat.zero_add]
  refine cond_split (fun hj => ?_) (fun hj => ?_)
  · have hj := of_decide_eq_true hj
    obtain ⟨m, rfl⟩ : ∃ m : Nat, j = ((m + 1 : Nat) : Int) := ⟨(j - 1).toNat, by omega⟩
    have e1 : IntKind.i64.wrap (((m + 1 : Nat) : Int) - 1) = (m : Int) := by rw [IntWalk.i64_in _ (by omega)]; omega
    have g1 : (decide (0 ≤ ((m + 1 : Nat) : Int)) && decide (((m + 1 : Nat) : Int) < (L.length : Int))) = true := by simp; omega
    have g2 : (decide (0 ≤ (m : Int)) && decide ((m : Int) < (L.length : Int))) = true := by simp; omega
    have x1 : L[m + 1]? = some (L.getD (m + 1) zT) := get_at (by omega)
    have x2 : L[m]? = some (L.getD m zT) := get_at (by omega)
    rw [e1]
    simp only [Int.toNat_natCast, g1, g2, x1, x2, bindO, guardB, cond_true]
    have o1 := okT_iff.1 hok _ (getD_mem (L := L) (j := m + 1) (by omega))
    have o2 := okT_iff.1 hok _ (getD_mem (L := L) (j := m) (by omega))
    have x3 : (L.set (m + 1) (L.getD m zT))[m]? = some (L.getD m zT) := by rw [List.getElem?_set_ne (by omega), x2]
    rw [o1, o2, Bool.true_and, cond_true]
    show _ = some (Xt.exit 2, [], [Blk.row true kT (bif decide ((L.getD (m + 1) zT).2.2 - (L.getD m zT).2.2 < 0) then sinkT (swp L m) m else L)])
    refine cond_split (fun hc => ?_) (fun hc => ?_)
    · rw [hc, cond_true]
      simp only [x3, bindO]
      have hp : preSk (swp L m) 0 (m : Int) = true := by
        unfold preSk
        rw [swp_ok hok (by omega), Bool.and_true]
        exact decide_eq_true ⟨rfl, by omega, by rw [swp_len]; omega, by rw [swp_len]; omega⟩
      change guardB (decide (muSk ((swp L m, nl), 0, PUnit.unit, (m : Int), PUnit.unit) < muSk ((L, nl), 0, (), ((m + 1 : Nat) : Int), ()))) (guardB (bif decide (L.length = (swp L m).length) then preSk (swp L m) 0 (m : Int) else false) (some (Xt.exit 2, [], [Blk.row true kT (sinkT (swp L m) m)]))) = _
      exact guard_split (decide_eq_true (show (m : Int).toNat < (((m + 1 : Nat) : Int)).toNat by omega)) (guard_split (by rw [decide_eq_true (show L.length = (swp L m).length from (swp_len L m).symm)]; exact hp) rfl)
    · rw [hc, cond_false]
  · have hj := of_decide_eq_false hj
    obtain rfl : j = 0 := by omega
    rfl
theorem q66b (L : List T3) (nl : Bool) (a b i : Int) (h : preIo L a b i = true) : n66bL L nl a b i = some (Xt.exit 0, [], [Blk.row true kT (isoT (b - i).toNat i.toNat L)]) := by
  unfold preIo at h
  rw [Bool.and_eq_true] at h
  obtain ⟨h1, h2, h3, h4, h5⟩ := of_decide_eq_true h.1
  have hok := h.2
  rw [n66b]
  refine cond_split (fun hi => ?_) (fun hi => ?_)
  · have hi := of_decide_eq_true hi
    have ha : a = 0 := by omega
    subst ha
    rw [IntWalk.i64_in (i + 1) (by omega), show (b - i).toNat = (b - (i + 1)).toNat + 1 by omega, show (i + 1).toNat = i.toNat + 1 by omega]
    have hp : preSk L 0 i = true := by
      unfold preSk
      rw [hok, Bool.and_true]
      exact decide_eq_true ⟨rfl, by omega, by omega, h4⟩
    have hp2 : preIo (sinkT L i.toNat) 0 b (i + 1) = true := by
      unfold preIo
      rw [sink_ok _ hok (by omega), Bool.and_true]
      exact decide_eq_true ⟨Or.inl rfl, by omega, by rw [sink_len]; omega, by rw [sink_len]; omega, by omega⟩
    refine guard_split (by rw [decide_eq_true (show L.length = L.length from rfl)]; exact hp) (guard_split (decide_eq_true (show (b - (i + 1)).toNat < (b - i).toNat by omega)) (guard_split (by rw [decide_eq_true (show L.length = (sinkT L i.toNat).length from (sink_len _ _).symm)]; exact hp2) rfl))
  · have hi := of_decide_eq_false hi
    rw [show (b - i).toNat = 0 by omega]; rfl
theorem q66 (L : List T3) (nl : Bool) (a b : Int) (h : (decide ((a = 0 ∨ b ≤ a) ∧ 0 ≤ a ∧ a ≤ 100 ∧ b ≤ (L.length : Int) ∧ L.length ≤ 100) && okT L) = true) : n66L L nl a b = some (PV.tup [], [Blk.row true kT (isoT (b - (a + 1)).toNat (a + 1).toNat L)]) := by
  rw [Bool.and_eq_true] at h
  obtain ⟨h1, h2, h3, h4, h5⟩ := of_decide_eq_true h.1
  rw [n66, IntWalk.i64_in (a + 1) (by omega)]
  refine guard_split ?_ rfl
  rw [decide_eq_true (show L.length = L.length from rfl), cond_true]
  unfold preIo
  rw [h.2, Bool.and_true]
  exact decide_eq_true ⟨by omega, by omega, h4, h5, by omega⟩
theorem in66b : CutOK Try.prog Try.f66.ntmps (codeAt 2 (bodyF Try.f66)) [0, 1, 3, 9] [] (entC kSk cSk) := loop_cutW (kill := killA 0 kSk) C1_ok mixed muSk (by kernel_rfl) (noCuts_ok _) fun v h => q66a v.1.1 v.1.2 v.2.1 v.2.2.2.1 h
theorem in66 : CutOK Try.prog Try.f66.ntmps (codeAt 0 (bodyF Try.f66)) [0, 1, 2, 3, 8] [] (entC kIo cIo) := loop_cutW (kill := killA 0 kIo) C1_ok mixed muIo (by kernel_rfl) (cutAt (id := 2) (by kernel_rfl) (by kernel_rfl) in66b (noCuts_ok _)) fun v h => q66b v.1.1 v.1.2 v.2.1 v.2.2.1 v.2.2.2.2.1 h
theorem e66 : EntOK Try.prog 66 (entV k66 sp66) := entV_ok Try.call66 (liftV C1_ok mixed Try.func66 (show Try.f66.body = some (bodyF Try.f66) from rfl) (cut_cons (by kernel_rfl) in66 (noCuts_ok _)) (by decide) fun v h => q66 v.1.1 v.1.2 v.2.1 v.2.2.1 h)
theorem C2_ok : TableOK Try.prog C2 :=
  ext_ok (entV_ok Try.call25 (liftV C1_ok mixed Try.func25 (show Try.f25.body = some (bodyF Try.f25) from rfl) (cut_cons (by kernel_rfl) (loop_cutW C1_ok mixed muXc (by kernel_rfl) (noCuts_ok _) fun v h => q25a v.1.1 v.1.2 v.2.1.1 v.2.2.1 v.2.2.2.1 h) (noCuts_ok _)) (by decide) fun v h => q25 v.1.1 v.1.2 v.2.1.1 (of_decide_eq_true h))) <|
  ext_ok e62 <| ext_ok e34 <| ext_ok e36 <| ext_ok e50 <| ext_ok e30 <| ext_ok e31 <| ext_ok e66 C1_ok
/-! ### find, Clone, SortStableFunc's work -/
theorem q48 (l : List T3) (nl : Bool) (c : ByteArray) (h : srtd l ∧ l.length ≤ 1000) : n48L l nl c = some (PV.tup [.sc (.int .i64 (lowI c l)), .sc (.bool (hasT c l))], [Blk.fix true [slV 1 kT (l, nl)], Blk.row false kT l]) := by
  rw [n48]
  simp only [List.take_length, Nat.zero_add, len_true, cond_true]
  exact guard_split (bp_mk h) rfl
theorem q54 (l : List T3) (nl : Bool) (h : l.length ≤ 100) : n54L l nl = cond nl (some (PV.sc (.slice none 0 0), [Blk.row false kT l])) (some (PV.sl 1 0 3 l.length l.length false false, [Blk.row false kT l, Blk.row true kT l])) := by
  rw [n54]
  refine cond_split (fun h => by rw [h]; rfl) (fun h2 => ?_)
  rw [h2]
  simp only [List.take_length, Nat.zero_add, len_true, cond_false, Bool.and_false]
  refine guard_split (by simp; omega) ?_
  cases decide (1 ≤ l.length) <;> rfl
theorem q77a (L : List T3) (nl : Bool) (n bs a b : Int) (h : preSb L n bs a b = true) : n77aL L nl n bs a b = some (Xt.exit 0, [.sc (.int .i64 (bif decide (b ≤ n) then 20 else a)), .sc (.int .i64 (bif decide (b ≤ n) then 40 else b))], [Blk.row true kT (bif decide (b ≤ n) then isoT 19 1 L else L)]) := by
  unfold preSb at h
  rw [Bool.and_eq_true] at h
  obtain ⟨rfl, h2, rfl, h4⟩ := of_decide_eq_true h.1
  have hok := h.2
  rw [n77a]
  refine cond_split (fun hb => ?_) (fun hb => ?_)
  · rw [hb]
    have hb := of_decide_eq_true hb
    obtain ⟨rfl, rfl⟩ : a = 0 ∧ b = 20 := by omega
    have hl : L.length = 20 := by omega
    have e1 : Int.toNat (20 - (0 + 1)) = 19 := rfl
    have e2 : Int.toNat (0 + 1) = 1 := rfl
    have e3 : IntKind.i64.wrap (20 + 20) = 40 := rfl
    rw [e1, e2, e3]
    have hp : preSb (isoT 19 1 L) (L.length : Int) 20 20 40 = true := by
      unfold preSb
      rw [iso_ok 19 1 hok (by omega), Bool.and_true]
      exact decide_eq_true ⟨by rw [iso_len], by omega, rfl, Or.inr rfl⟩
    refine guard_split ?_ (guard_split (decide_eq_true (show ((L.length : Int) + 40 - 40).toNat < ((L.length : Int) + 40 - 20).toNat by omega)) (guard_split ?_ ?_))
    · rw [decide_eq_true (show L.length = L.length from rfl), cond_true, hok, Bool.and_true]
      exact decide_eq_true ⟨Or.inl rfl, by omega, by omega, by omega, by omega⟩
    · rw [decide_eq_true (show L.length = (isoT 19 1 L).length from (iso_len _ _ _).symm)]; exact hp
    · rw [decide_eq_false (show ¬ (40 : Int) ≤ (L.length : Int) by omega)]; rfl
  · rw [hb]; rfl
theorem q77b (L : List T3) (nl : Bool) (n bs : Int) (h : decide (n ≤ bs) = true) : n77bL L nl n bs = some (Xt.exit 2, [], [Blk.row true kT L]) := by
  have h := of_decide_eq_true h
  rw [n77b, decide_eq_false (show ¬ bs < n by omega)]; rfl
theorem q77 (L : List T3) (nl : Bool) (n : Int) (h : (decide (n = (L.length : Int) ∧ L.length ≤ 20) && okT L) = true) : n77L L nl n = some (PV.tup [], [Blk.row true kT (isoT (L.length - 1) 1 L)]) := by
  rw [Bool.and_eq_true] at h
  obtain ⟨rfl, h2⟩ := of_decide_eq_true h.1
  have hok := h.2
  rw [n77]
  have hp : preSb L (L.length : Int) 20 0 20 = true := by
    unfold preSb
    rw [hok, Bool.and_true]
    exact decide_eq_true ⟨rfl, by omega, rfl, Or.inl ⟨rfl, rfl⟩⟩
  refine guard_split (by rw [decide_eq_true (show L.length = L.length from rfl)]; exact hp) ?_
  by_cases h20 : 20 ≤ (L.length : Int)
  · have hl : L.length = 20 := by omega
    have g1 : (isoT 19 1 L).length = 20 := by rw [iso_len, hl]
    have g2 : okT (isoT 19 1 L) = true := iso_ok 19 1 hok (by omega)
    have g3 : isoT (L.length - 1) 1 L = isoT 19 1 L := by rw [hl]
    rw [decide_eq_true h20, g3]
    simp only [cond_true]
    generalize isoT 19 1 L = G at *
    have e1 : ((L.length : Int) - (20 + 1)).toNat = 0 := by omega
    simp only [e1]
    refine guard_split ?_ (guard_split ?_ rfl)
    · rw [decide_eq_true (show L.length = G.length by omega), cond_true, g2, Bool.and_true]
      exact decide_eq_true ⟨Or.inr (by omega), by omega, by omega, by omega, by omega⟩
    · rw [decide_eq_true (show L.length = (isoT 0 (Int.toNat (20 + 1)) G).length by rw [iso_len]; omega), cond_true]; exact decide_eq_true (by omega)
  · rw [decide_eq_false h20]
    simp only [cond_false]
    have e1 : ((L.length : Int) - (0 + 1)).toNat = L.length - 1 := by omega
    have e2 : Int.toNat (0 + 1) = 1 := rfl
    simp only [e1, e2]
    refine guard_split ?_ (guard_split ?_ rfl)
    · rw [decT, cond_true, hok, Bool.and_true]
      exact decide_eq_true ⟨Or.inl trivial, by omega, by omega, by omega, by omega⟩
    · rw [decide_eq_true (show L.length = (isoT (L.length - 1) 1 L).length from (iso_len _ _ _).symm), cond_true]; exact decide_eq_true (by omega)
theorem C3_ok : TableOK Try.prog C3 :=
  ext_ok (entV_ok Try.call48 (liftV C2_ok mixed Try.func48 (show Try.f48.body = some (bodyF Try.f48) from rfl) (noCuts_ok _) (by decide) fun v h => q48 v.1.1.1 v.1.1.2 v.2.1 (bp_true.1 h))) <|
  ext_ok (entV_ok Try.call54 (liftV C2_ok mixed Try.func54 (show Try.f54.body = some (bodyF Try.f54) from rfl) (noCuts_ok _) (by decide) fun v h => q54 v.1.1 v.1.2 (of_decide_eq_true h))) <|
  ext_ok (entV_ok Try.call77 (liftV C2_ok mixed Try.func77 (show Try.f77.body = some (bodyF Try.f77) from rfl) (cut_cons (by kernel_rfl) (loop_cutW C2_ok mixed muSb (by kernel_rfl) (noCuts_ok _) fun v h => q77a v.1.1 v.1.2 v.2.1 v.2.2.2.1 v.2.2.2.2.1 v.2.2.2.2.2.1 h) (cut_cons (by kernel_rfl) (loop_cutW C2_ok mixed muS2 (by kernel_rfl) (noCuts_ok _) fun v h => q77b v.1.1 v.1.2 v.2.1 v.2.2.2.1 h) (noCuts_ok _))) (by decide) fun v h => q77 v.1.1 v.1.2 v.2.1 h)) C2_ok
end Go.Proofs.YtokephobkllfgaaCn
