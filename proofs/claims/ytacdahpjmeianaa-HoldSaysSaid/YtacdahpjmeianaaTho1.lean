/- What is proved: what a holding stack's calls lean on (named, find, Equal, Delete, Check) answers what its plain functions say. No condition. -/
import Derived.Test.YtacdahpjmeianaaTho0
namespace Go.Proofs.YtacdahpjmeianaaHo
open Go Go.Proofs Go.Proofs.YtacdahpjmeianaaEv
set_option maxRecDepth 100000
set_option maxHeartbeats 4000000
set_option linter.unusedVariables false
set_option linter.unusedSimpArgs false
theorem mixed : Try.prog.follows .mixedOrders = true := by kernel_rfl
noncomputable abbrev h85aL (a0 : List Int) (a1 : Bool) (a2 : Int) (a3 : Int) := evRound Try.prog T0 noCuts 40 (loopOf (codeAt 0 (bodyF Try.f85))) kNm muNm (killA 0 kNm) [6, 7, 8] [2] cNm ((a0, a1), (a2, (a3, ())))
theorem h85a (a0 : List Int) (a1 : Bool) (a2 : Int) (a3 : Int) : h85aL a0 a1 a2 a3 = (bif decide (a3 < a2) then
  guardB (decide (0 ≤ a3) && decide (a3 < (↑a0.length : Int)))
    (bindO a0[0 + a3.toNat]? fun x =>
      bif decide (x ≥ 65) then
        bif decide (x ≤ 90) then
          guardB
            (decide
              (muNm ((List.take a0.length a0, a1), a2, IntKind.i64.wrap (a3 + 1), PUnit.unit) <
                muNm ((a0, a1), a2, a3, ())))
            (guardB
              (bif decide (0 + a0.length ≤ a0.length) then preNm (List.take a0.length a0) a2 (IntKind.i64.wrap (a3 + 1))
              else false)
              (bif
                  okL (IntKind.i64.wrap (a3 + 1))
                    (List.drop (IntKind.i64.wrap (a3 + 1)).toNat (List.take a0.length a0)) then
                some (Xt.exit 0, [PV.undef], [Blk.row false (Kd.int IntKind.u8) a0])
              else some (Xt.ret, [PV.sc (Value.bool false)], [Blk.row false (Kd.int IntKind.u8) a0])))
        else
          bif decide (a3 > 0) then
            bif decide (x ≥ 48) then
              bif !decide (x ≤ 57) then
                some (Xt.ret, [PV.sc (Value.bool false)], [Blk.row false (Kd.int IntKind.u8) a0])
              else
                guardB
                  (decide
                    (muNm ((List.take a0.length a0, a1), a2, IntKind.i64.wrap (a3 + 1), PUnit.unit) <
                      muNm ((a0, a1), a2, a3, ())))
                  (guardB
                    (bif decide (0 + a0.length ≤ a0.length) then
                      preNm (List.take a0.length a0) a2 (IntKind.i64.wrap (a3 + 1))
                    else false)
                    (bif
                        okL (IntKind.i64.wrap (a3 + 1))
                          (List.drop (IntKind.i64.wrap (a3 + 1)).toNat (List.take a0.length a0)) then
                      some (Xt.exit 0, [PV.undef], [Blk.row false (Kd.int IntKind.u8) a0])
                    else some (Xt.ret, [PV.sc (Value.bool false)], [Blk.row false (Kd.int IntKind.u8) a0])))
            else some (Xt.ret, [PV.sc (Value.bool false)], [Blk.row false (Kd.int IntKind.u8) a0])
          else some (Xt.ret, [PV.sc (Value.bool false)], [Blk.row false (Kd.int IntKind.u8) a0])
      else
        bif decide (a3 > 0) then
          bif decide (x ≥ 48) then
            bif !decide (x ≤ 57) then some (Xt.ret, [PV.sc (Value.bool false)], [Blk.row false (Kd.int IntKind.u8) a0])
            else
              guardB
                (decide
                  (muNm ((List.take a0.length a0, a1), a2, IntKind.i64.wrap (a3 + 1), PUnit.unit) <
                    muNm ((a0, a1), a2, a3, ())))
                (guardB
                  (bif decide (0 + a0.length ≤ a0.length) then
                    preNm (List.take a0.length a0) a2 (IntKind.i64.wrap (a3 + 1))
                  else false)
                  (bif
                      okL (IntKind.i64.wrap (a3 + 1))
                        (List.drop (IntKind.i64.wrap (a3 + 1)).toNat (List.take a0.length a0)) then
                    some (Xt.exit 0, [PV.undef], [Blk.row false (Kd.int IntKind.u8) a0])
                  else some (Xt.ret, [PV.sc (Value.bool false)], [Blk.row false (Kd.int IntKind.u8) a0])))
          else some (Xt.ret, [PV.sc (Value.bool false)], [Blk.row false (Kd.int IntKind.u8) a0])
        else some (Xt.ret, [PV.sc (Value.bool false)], [Blk.row false (Kd.int IntKind.u8) a0]))
else some (Xt.exit 0, [PV.undef], [Blk.row false (Kd.int IntKind.u8) a0])) := by kernel_rfl
noncomputable abbrev h85L (a0 : ByteArray) := evFuncV Try.prog T0 (addCut 0 [6, 7, 8] [2] (entC kNm cNm) noCuts) Try.f85 (killA 0 [sS]) (showA 0 [sS] (a0, ())).1 (showA 0 [sS] (a0, ())).2
theorem h85 (a0 : ByteArray) : h85L a0 = (guardB (decide (a0.size ≤ 9223372036854775807))
  (guardB
    (bif decide (0 + a0.size ≤ (bytesI a0).length) then preNm (List.take a0.size (bytesI a0)) (↑a0.size : Int) 0
    else false)
    (bif okL 0 (List.drop (Int.toNat 0) (List.take a0.size (bytesI a0))) then
      bif !decide (a0 = ByteArray.mk #[]) then some (PV.sc (Value.bool (decide ((↑a0.size : Int) ≤ 8))), [])
      else some (PV.sc (Value.bool false), [])
    else some (PV.sc (Value.bool false), [])))) := by kernel_rfl
noncomputable abbrev h88aL (a0 : ByteArray) (a1 : Int) (a2 : Int) := evRound Try.prog T0 noCuts 49 (loopOf (codeAt 0 (bodyF Try.f88))) kNr muNr (killA 0 kNr) [0, 25, 26] [2] cNr (a0, (a1, (a2, ())))
theorem h88a (a0 : ByteArray) (a1 : Int) (a2 : Int) : h88aL a0 a1 a2 = (bif decide (a2 < a1) then
  guardB (decide (0 ≤ a2))
    (bindO a0[a2.toNat]? fun x =>
      bif decide ((↑x.toNat : Int) ≥ 65) then
        bif !decide ((↑x.toNat : Int) ≤ 90) then
          bif decide ((↑x.toNat : Int) ≥ 48) then
            bif !decide ((↑x.toNat : Int) ≤ 57) then some (Xt.ret, [PV.sc (Value.bool false)], [])
            else
              guardB (decide (muNr (a0, a1, IntKind.i64.wrap (a2 + 1), PUnit.unit) < muNr (a0, a1, a2, ())))
                (guardB (preNm (bytesI a0) a1 (IntKind.i64.wrap (a2 + 1)))
                  (bif (List.drop (IntKind.i64.wrap (a2 + 1)).toNat (bytesI a0)).all alnum then
                    some (Xt.exit 0, [PV.undef], [])
                  else some (Xt.ret, [PV.sc (Value.bool false)], [])))
          else some (Xt.ret, [PV.sc (Value.bool false)], [])
        else
          guardB (decide (muNr (a0, a1, IntKind.i64.wrap (a2 + 1), PUnit.unit) < muNr (a0, a1, a2, ())))
            (guardB (preNm (bytesI a0) a1 (IntKind.i64.wrap (a2 + 1)))
              (bif (List.drop (IntKind.i64.wrap (a2 + 1)).toNat (bytesI a0)).all alnum then
                some (Xt.exit 0, [PV.undef], [])
              else some (Xt.ret, [PV.sc (Value.bool false)], [])))
      else
        bif decide ((↑x.toNat : Int) ≥ 48) then
          bif !decide ((↑x.toNat : Int) ≤ 57) then some (Xt.ret, [PV.sc (Value.bool false)], [])
          else
            guardB (decide (muNr (a0, a1, IntKind.i64.wrap (a2 + 1), PUnit.unit) < muNr (a0, a1, a2, ())))
              (guardB (preNm (bytesI a0) a1 (IntKind.i64.wrap (a2 + 1)))
                (bif (List.drop (IntKind.i64.wrap (a2 + 1)).toNat (bytesI a0)).all alnum then
                  some (Xt.exit 0, [PV.undef], [])
                else some (Xt.ret, [PV.sc (Value.bool false)], [])))
        else some (Xt.ret, [PV.sc (Value.bool false)], []))
else some (Xt.exit 0, [PV.undef], [])) := by kernel_rfl
noncomputable abbrev h88L (a0 : ByteArray) := evFuncV Try.prog T0 (addCut 0 [0, 25, 26] [2] (entC kNr cNr) noCuts) Try.f88 (killA 0 [sS]) (showA 0 [sS] (a0, ())).1 (showA 0 [sS] (a0, ())).2
theorem h88 (a0 : ByteArray) : h88L a0 = (bif decide ((↑a0.size : Int) < 1) then some (PV.sc (Value.bool false), [])
else
  bif decide ((↑a0.size : Int) > 8) then some (PV.sc (Value.bool false), [])
  else
    bindO a0[Int.toNat 0]? fun x =>
      bif decide ((↑x.toNat : Int) ≥ 65) then
        bindO a0[Int.toNat 0]? fun x =>
          bif !decide ((↑x.toNat : Int) ≤ 90) then some (PV.sc (Value.bool false), [])
          else
            guardB (preNm (bytesI a0) (↑a0.size : Int) 0)
              (bif (List.drop (Int.toNat 0) (bytesI a0)).all alnum then some (PV.sc (Value.bool true), [])
              else some (PV.sc (Value.bool false), []))
      else some (PV.sc (Value.bool false), [])) := by kernel_rfl
noncomputable abbrev h125L (a0 : ByteArray) (a1 : Int) (a2 : Int) (a3 : ByteArray) := evFuncV Try.prog T0 noCuts Try.f125 (killA 0 [sT, .s xS]) (showA 0 [sT, .s xS] ((a0, (a1, a2)), (a3, ()))).1 (showA 0 [sT, .s xS] ((a0, (a1, a2)), (a3, ()))).2
theorem h125 (a0 : ByteArray) (a1 : Int) (a2 : Int) (a3 : ByteArray) : h125L a0 a1 a2 a3 = (some (PV.sc (Value.bool (decide (a0 = a3))), [Blk.fix false [PV.sc (Value.string a3)]])) := by kernel_rfl
noncomputable abbrev h41L (a0 : Int) (a1 : Int) (a2 : Int) := evFuncV Try.prog T0 noCuts Try.f41 (killA 0 [sI, sI, sI]) (showA 0 [sI, sI, sI] (a0, (a1, (a2, ())))).1 (showA 0 [sI, sI, sI] (a0, (a1, (a2, ())))).2
theorem h41 (a0 : Int) (a1 : Int) (a2 : Int) : h41L a0 a1 a2 = (bif decide (a0 ≥ a1) then some (PV.sc (Value.bool (decide (a0 ≤ a2))), []) else some (PV.sc (Value.bool false), [])) := by kernel_rfl
noncomputable abbrev h14L (a0 : Int) (a1 : Int) (a2 : Int) := evFuncV Try.prog T0 noCuts Try.f14 (killA 0 [sI, sI, sI]) (showA 0 [sI, sI, sI] (a0, (a1, (a2, ())))).1 (showA 0 [sI, sI, sI] (a0, (a1, (a2, ())))).2
theorem h14 (a0 : Int) (a1 : Int) (a2 : Int) : h14L a0 a1 a2 = (guardB (!decide (IntKind.i64.wrap (IntKind.i64.wrap (a2 - a1) + 1) = 0))
  (bif decide (a0.tmod (IntKind.i64.wrap (IntKind.i64.wrap (a2 - a1) + 1)) < 0) then
    some
      (PV.sc
          (Value.int IntKind.i64
            (IntKind.i64.wrap
              (a1 +
                IntKind.i64.wrap
                  (a0.tmod (IntKind.i64.wrap (IntKind.i64.wrap (a2 - a1) + 1)) +
                    IntKind.i64.wrap (IntKind.i64.wrap (a2 - a1) + 1))))),
        [])
  else
    some
      (PV.sc
          (Value.int IntKind.i64 (IntKind.i64.wrap (a1 + a0.tmod (IntKind.i64.wrap (IntKind.i64.wrap (a2 - a1) + 1))))),
        []))) := by kernel_rfl
noncomputable abbrev h42L (a0 : Int) (a1 : Int) (a2 : Int) := evFuncV Try.prog T0 noCuts Try.f42 (killA 0 [sSet]) (showA 0 [sSet] ((a0, (a1, a2)), ())).1 (showA 0 [sSet] ((a0, (a1, a2)), ())).2
theorem h42 (a0 : Int) (a1 : Int) (a2 : Int) : h42L a0 a1 a2 = (bif decide (a0 < 0) then some (PV.sc (Value.int IntKind.i64 4), [])
else
  bif decide (a1 > 60000) then some (PV.sc (Value.int IntKind.i64 4), [])
  else
    bif decide (a2 < 100) then some (PV.sc (Value.int IntKind.i64 4), [])
    else
      bif decide (a2 > 10000) then some (PV.sc (Value.int IntKind.i64 4), [])
      else
        bif decide (a0 > a1) then some (PV.sc (Value.int IntKind.i64 3), [])
        else
          guardB (!decide (a2 = 0))
            (bif decide (IntKind.i64.wrap (IntKind.i64.wrap ((IntKind.i64.wrap (a1 - a0)).tdiv a2) + 1) > 32) then
              some (PV.sc (Value.int IntKind.i64 2), [])
            else some (PV.sc (Value.int IntKind.i64 0), []))) := by kernel_rfl
noncomputable abbrev h87L (a0 : Int) (a1 : Int) (a2 : Int) (a3 : List (ByteArray × Int × Int)) (a4 : Bool) (a5 : Int) (a6 : Int) := evFuncV Try.prog T0 noCuts Try.f87 (killA 0 [bR, sI]) (showA 0 [bR, sI] (((a0, (a1, a2)), ((a3, a4), (a5, ()))), (a6, ()))).1 (showA 0 [bR, sI] (((a0, (a1, a2)), ((a3, a4), (a5, ()))), (a6, ()))).2
theorem h87 (a0 : Int) (a1 : Int) (a2 : Int) (a3 : List (ByteArray × Int × Int)) (a4 : Bool) (a5 : Int) (a6 : Int) : h87L a0 a1 a2 a3 a4 a5 a6 = (bif decide (a6 ≥ a5) then
  some
    (PV.sc (Value.bool (decide (a6 ≤ 200000))),
      [Blk.fix true
          [PV.sc (Value.int IntKind.i64 a0), PV.sc (Value.int IntKind.i64 a1), PV.sc (Value.int IntKind.i64 a2),
            PV.sl 1 0 3 a3.length a3.length false a4, PV.sc (Value.int IntKind.i64 a5)],
        Blk.row false (Kd.str.pair ((Kd.int IntKind.i64).pair (Kd.int IntKind.i64))) a3])
else
  some
    (PV.sc (Value.bool false),
      [Blk.fix true
          [PV.sc (Value.int IntKind.i64 a0), PV.sc (Value.int IntKind.i64 a1), PV.sc (Value.int IntKind.i64 a2),
            PV.sl 1 0 3 a3.length a3.length false a4, PV.sc (Value.int IntKind.i64 a5)],
        Blk.row false (Kd.str.pair ((Kd.int IntKind.i64).pair (Kd.int IntKind.i64))) a3])) := by kernel_rfl
noncomputable abbrev h90L (a0 : Int) (a1 : Int) (a2 : Int) (a3 : List (ByteArray × Int × Int)) (a4 : Int) := evFuncV Try.prog T0 noCuts Try.f90 (killA 0 [mO]) (showA 0 [mO] (((a0, (a1, a2)), (a3, a4)), ())).1 (showA 0 [mO] (((a0, (a1, a2)), (a3, a4)), ())).2
theorem h90 (a0 : Int) (a1 : Int) (a2 : Int) (a3 : List (ByteArray × Int × Int)) (a4 : Int) : h90L a0 a1 a2 a3 a4 = (guardB (!decide (a2 = 0))
  (some
    (PV.sc (Value.int IntKind.i64 (IntKind.i64.wrap (IntKind.i64.wrap ((IntKind.i64.wrap (a1 - a0)).tdiv a2) + 1))),
      [Blk.mix true
          [PV.sc (Value.int IntKind.i64 a0), PV.sc (Value.int IntKind.i64 a1), PV.sc (Value.int IntKind.i64 a2)]
          (Kd.str.pair ((Kd.int IntKind.i64).pair (Kd.int IntKind.i64))) 32 a3 [PV.sc (Value.int IntKind.i64 a4)]]))) := by kernel_rfl
noncomputable abbrev h124aL (a0 : List (ByteArray × Int × Int)) (a1 : Bool) (a2 : ByteArray) (a3 : Int) (a4 : Int) := evRound Try.prog H1 noCuts 19 (loopOf (codeAt 0 (bodyF Try.f124))) kX1 muX1 (killA 0 kX1) [0, 1, 7, 8] [4] cX1 ((a0, a1), ((a2, ()), (a3, (a4, ()))))
theorem h124a (a0 : List (ByteArray × Int × Int)) (a1 : Bool) (a2 : ByteArray) (a3 : Int) (a4 : Int) : h124aL a0 a1 a2 a3 a4 = (bif decide (a4 < a3) then
  guardB (decide (0 ≤ a4) && decide (a4 < (↑a0.length : Int)))
    (bindO a0[0 + a4.toNat]? fun x =>
      bif isT a2 x then
        some
          (Xt.ret, [PV.sc (Value.int IntKind.i64 a4)],
            [Blk.row false (Kd.str.pair ((Kd.int IntKind.i64).pair (Kd.int IntKind.i64))) a0,
              Blk.fix false [PV.sc (Value.string a2)]])
      else
        guardB
          (decide
            (muX1 ((List.take a0.length a0, a1), (a2, PUnit.unit), a3, IntKind.i64.wrap (a4 + 1), PUnit.unit) <
              muX1 ((a0, a1), (a2, ()), a3, a4, ())))
          (guardB
            (bif decide (0 + a0.length ≤ a0.length) then preIx (List.take a0.length a0) a3 (IntKind.i64.wrap (a4 + 1))
            else false)
            (bif decide (0 ≤ isIx (List.take a0.length a0) a2 (IntKind.i64.wrap (a4 + 1))) then
              some
                (Xt.ret, [PV.sc (Value.int IntKind.i64 (isIx (List.take a0.length a0) a2 (IntKind.i64.wrap (a4 + 1))))],
                  [Blk.row false (Kd.str.pair ((Kd.int IntKind.i64).pair (Kd.int IntKind.i64))) a0,
                    Blk.fix false [PV.sc (Value.string a2)]])
            else
              some
                (Xt.exit 0, [PV.undef],
                  [Blk.row false (Kd.str.pair ((Kd.int IntKind.i64).pair (Kd.int IntKind.i64))) a0,
                    Blk.fix false [PV.sc (Value.string a2)]]))))
else
  some
    (Xt.exit 0, [PV.undef],
      [Blk.row false (Kd.str.pair ((Kd.int IntKind.i64).pair (Kd.int IntKind.i64))) a0,
        Blk.fix false [PV.sc (Value.string a2)]])) := by kernel_rfl
noncomputable abbrev h124L (a0 : List (ByteArray × Int × Int)) (a1 : Bool) (a2 : ByteArray) := evFuncV Try.prog H1 (addCut 0 [0, 1, 7, 8] [4] (entC kX1 cX1) noCuts) Try.f124 (killA 0 kF1) (showA 0 kF1 ((a0, a1), ((a2, ()), ()))).1 (showA 0 kF1 ((a0, a1), ((a2, ()), ()))).2
theorem h124 (a0 : List (ByteArray × Int × Int)) (a1 : Bool) (a2 : ByteArray) : h124L a0 a1 a2 = (guardB (bif decide (0 + a0.length ≤ a0.length) then preIx (List.take a0.length a0) (↑a0.length : Int) 0 else false)
  (bif decide (0 ≤ isIx (List.take a0.length a0) a2 0) then
    some
      (PV.sc (Value.int IntKind.i64 (isIx (List.take a0.length a0) a2 0)),
        [Blk.row false (Kd.str.pair ((Kd.int IntKind.i64).pair (Kd.int IntKind.i64))) a0,
          Blk.fix false [PV.sc (Value.string a2)]])
  else
    some
      (PV.sc (Value.int IntKind.i64 (-1)),
        [Blk.row false (Kd.str.pair ((Kd.int IntKind.i64).pair (Kd.int IntKind.i64))) a0,
          Blk.fix false [PV.sc (Value.string a2)]]))) := by kernel_rfl
noncomputable abbrev h48aL (a0 : List (ByteArray × Int × Int)) (a1 : Bool) (a2 : List (ByteArray × Int × Int)) (a3 : Bool) (a4 : Int) (a5 : Int) := evRound Try.prog H1 noCuts 26 (loopOf (codeAt 0 (bodyF Try.f48))) kEt muEt (killA 0 kEt) [0, 1, 12, 13] [4] cEt ((a0, a1), ((a2, a3), (a4, (a5, ()))))
theorem h48a (a0 : List (ByteArray × Int × Int)) (a1 : Bool) (a2 : List (ByteArray × Int × Int)) (a3 : Bool) (a4 : Int) (a5 : Int) : h48aL a0 a1 a2 a3 a4 a5 = (bif decide (a5 < a4) then
  guardB (decide (0 ≤ a5) && decide (a5 < (↑a0.length : Int)))
    (bindO a0[0 + a5.toNat]? fun x =>
      guardB (decide (0 ≤ a5) && decide (a5 < (↑a2.length : Int)))
        (bindO a2[0 + a5.toNat]? fun x_1 =>
          bif !(decide (x.fst = x_1.fst) && (x.snd.fst == x_1.snd.fst && (x.snd.snd == x_1.snd.snd && true))) then
            some
              (Xt.ret, [PV.sc (Value.bool false)],
                [Blk.row false (Kd.str.pair ((Kd.int IntKind.i64).pair (Kd.int IntKind.i64))) a0,
                  Blk.row false (Kd.str.pair ((Kd.int IntKind.i64).pair (Kd.int IntKind.i64))) a2])
          else
            guardB
              (decide
                (muEt
                    ((List.take a0.length a0, a1), (List.take a2.length a2, a3), a4, IntKind.i64.wrap (a5 + 1),
                      PUnit.unit) <
                  muEt ((a0, a1), (a2, a3), a4, a5, ())))
              (guardB
                (bif decide (0 + a0.length ≤ a0.length) then
                  bif decide (0 + a2.length ≤ a2.length) then
                    preE (List.take a0.length a0) (List.take a2.length a2) a4 (IntKind.i64.wrap (a5 + 1))
                  else false
                else false)
                (bif
                    eqTs (List.drop (IntKind.i64.wrap (a5 + 1)).toNat (List.take a0.length a0))
                      (List.drop (IntKind.i64.wrap (a5 + 1)).toNat (List.take a2.length a2)) then
                  some
                    (Xt.exit 0, [PV.undef],
                      [Blk.row false (Kd.str.pair ((Kd.int IntKind.i64).pair (Kd.int IntKind.i64))) a0,
                        Blk.row false (Kd.str.pair ((Kd.int IntKind.i64).pair (Kd.int IntKind.i64))) a2])
                else
                  some
                    (Xt.ret, [PV.sc (Value.bool false)],
                      [Blk.row false (Kd.str.pair ((Kd.int IntKind.i64).pair (Kd.int IntKind.i64))) a0,
                        Blk.row false (Kd.str.pair ((Kd.int IntKind.i64).pair (Kd.int IntKind.i64))) a2])))))
else
  some
    (Xt.exit 0, [PV.undef],
      [Blk.row false (Kd.str.pair ((Kd.int IntKind.i64).pair (Kd.int IntKind.i64))) a0,
        Blk.row false (Kd.str.pair ((Kd.int IntKind.i64).pair (Kd.int IntKind.i64))) a2])) := by kernel_rfl
noncomputable abbrev h48L (a0 : List (ByteArray × Int × Int)) (a1 : Bool) (a2 : List (ByteArray × Int × Int)) (a3 : Bool) := evFuncV Try.prog H1 (addCut 0 [0, 1, 12, 13] [4] (entC kEt cEt) noCuts) Try.f48 (killA 0 [rT, rT]) (showA 0 [rT, rT] ((a0, a1), ((a2, a3), ()))).1 (showA 0 [rT, rT] ((a0, a1), ((a2, a3), ()))).2
theorem h48 (a0 : List (ByteArray × Int × Int)) (a1 : Bool) (a2 : List (ByteArray × Int × Int)) (a3 : Bool) : h48L a0 a1 a2 a3 = (bif (↑a0.length : Int) != (↑a2.length : Int) then
  some
    (PV.sc (Value.bool false),
      [Blk.row false (Kd.str.pair ((Kd.int IntKind.i64).pair (Kd.int IntKind.i64))) a0,
        Blk.row false (Kd.str.pair ((Kd.int IntKind.i64).pair (Kd.int IntKind.i64))) a2])
else
  guardB
    (bif decide (0 + a0.length ≤ a0.length) then
      bif decide (0 + a2.length ≤ a2.length) then
        preE (List.take a0.length a0) (List.take a2.length a2) (↑a0.length : Int) 0
      else false
    else false)
    (bif eqTs (List.drop (Int.toNat 0) (List.take a0.length a0)) (List.drop (Int.toNat 0) (List.take a2.length a2)) then
      some
        (PV.sc (Value.bool true),
          [Blk.row false (Kd.str.pair ((Kd.int IntKind.i64).pair (Kd.int IntKind.i64))) a0,
            Blk.row false (Kd.str.pair ((Kd.int IntKind.i64).pair (Kd.int IntKind.i64))) a2])
    else
      some
        (PV.sc (Value.bool false),
          [Blk.row false (Kd.str.pair ((Kd.int IntKind.i64).pair (Kd.int IntKind.i64))) a0,
            Blk.row false (Kd.str.pair ((Kd.int IntKind.i64).pair (Kd.int IntKind.i64))) a2]))) := by kernel_rfl
noncomputable abbrev h91L (a0 : List (ByteArray × Int × Int)) (a1 : Bool) (a2 : Int) (a3 : Int) := evFuncV Try.prog H1 noCuts Try.f91 (killA 0 kDc) (showA 0 kDc ((a0, a1), (a2, (a3, ())))).1 (showA 0 kDc ((a0, a1), (a2, (a3, ())))).2
theorem h91 (a0 : List (ByteArray × Int × Int)) (a1 : Bool) (a2 : Int) (a3 : Int) : h91L a0 a1 a2 a3 = (guardB
  (decide (0 ≤ a2) && decide (a2 ≤ a3) && decide (a3 ≤ (↑a0.length : Int)) &&
    decide ((↑a0.length : Int) ≤ (↑a0.length : Int)))
  (bif a2 == a3 then
    some
      (PV.sl 1 0 3 a0.length a0.length false a1,
        [Blk.dead, Blk.row true (Kd.str.pair ((Kd.int IntKind.i64).pair (Kd.int IntKind.i64))) a0])
  else
    guardB (decide (0 ≤ a2) && decide (a2 ≤ (↑a0.length : Int)))
      (guardB (decide (0 ≤ a3) && decide (a3 ≤ (↑a0.length : Int)) && decide ((↑a0.length : Int) ≤ (↑a0.length : Int)))
        (guardB
          (decide (0 + (a2.toNat - 0) + ((↑a0.length : Int).toNat - a3.toNat) ≤ a0.length) &&
              decide (0 + a3.toNat + ((↑a0.length : Int).toNat - a3.toNat) ≤ a0.length) &&
            decide (a2.toNat - 0 + ((↑a0.length : Int).toNat - a3.toNat) ≤ a0.length - 0))
          (guardB
            (decide (0 ≤ (↑(a2.toNat - 0 + ((↑a0.length : Int).toNat - a3.toNat)) : Int)) &&
                decide ((↑(a2.toNat - 0 + ((↑a0.length : Int).toNat - a3.toNat)) : Int) ≤ (↑a0.length : Int)) &&
              decide ((↑a0.length : Int) ≤ (↑(a0.length - 0) : Int)))
            (guardB
              (decide
                (0 + (↑(a2.toNat - 0 + ((↑a0.length : Int).toNat - a3.toNat)) : Int).toNat +
                    ((↑a0.length : Int).toNat - (↑(a2.toNat - 0 + ((↑a0.length : Int).toNat - a3.toNat)) : Int).toNat) ≤
                  (splice a0 (0 + (a2.toNat - 0))
                      (List.take ((↑a0.length : Int).toNat - a3.toNat) (List.drop (0 + a3.toNat) a0))).length))
              (some
                (PV.sl 1 0 3 (a2.toNat - 0 + ((↑a0.length : Int).toNat - a3.toNat))
                    (a2.toNat - 0 + ((↑a0.length : Int).toNat - a3.toNat)) false a1,
                  [Blk.dead,
                    Blk.row true (Kd.str.pair ((Kd.int IntKind.i64).pair (Kd.int IntKind.i64)))
                      (splice
                        (splice a0 (0 + (a2.toNat - 0))
                          (List.take ((↑a0.length : Int).toNat - a3.toNat) (List.drop (0 + a3.toNat) a0)))
                        (0 + (↑(a2.toNat - 0 + ((↑a0.length : Int).toNat - a3.toNat)) : Int).toNat)
                        (List.replicate
                          ((↑a0.length : Int).toNat -
                            (↑(a2.toNat - 0 + ((↑a0.length : Int).toNat - a3.toNat)) : Int).toNat)
                          (ByteArray.mk #[], 0, 0)))])))))))) := by kernel_rfl
noncomputable abbrev h92L (a0 : List (ByteArray × Int × Int)) (a1 : Bool) := evFuncV Try.prog H1 noCuts Try.f92 (killA 0 [rT]) (showA 0 [rT] ((a0, a1), ())).1 (showA 0 [rT] ((a0, a1), ())).2
theorem h92 (a0 : List (ByteArray × Int × Int)) (a1 : Bool) : h92L a0 a1 = (bif a1 then
  some (PV.sc (Value.slice none 0 0), [Blk.row false (Kd.str.pair ((Kd.int IntKind.i64).pair (Kd.int IntKind.i64))) a0])
else
  guardB
    (decide (0 + a0.length ≤ a0.length) && decide ((0 + a0.length) * 32 ≤ 140737488355328) &&
      decide (0 + a0.length ≤ 4611686018427387904))
    (bif decide (1 ≤ a0.length) then
      some
        (PV.sl 1 0 3 (0 + a0.length) (0 + a0.length) false false,
          [Blk.row false (Kd.str.pair ((Kd.int IntKind.i64).pair (Kd.int IntKind.i64))) a0,
            Blk.row true (Kd.str.pair ((Kd.int IntKind.i64).pair (Kd.int IntKind.i64))) (List.take a0.length a0)])
    else
      some
        (PV.sl 1 0 3 (0 + a0.length) (0 + a0.length) false (a0.length.beq 0 && false),
          [Blk.row false (Kd.str.pair ((Kd.int IntKind.i64).pair (Kd.int IntKind.i64))) a0,
            Blk.row true (Kd.str.pair ((Kd.int IntKind.i64).pair (Kd.int IntKind.i64))) (List.take a0.length a0)]))) := by kernel_rfl
noncomputable abbrev h89aL (a0 : ByteArray) (a1 : List (ByteArray × Int × Int)) (a2 : Int) := evRound Try.prog H1 noCuts 25 (loopOf (codeAt 0 (bodyF Try.f89))) kFm muFm (killA 0 kFm) [1, 10, 11] [4] cFm (a0, (a1, (a2, ())))
theorem h89a (a0 : ByteArray) (a1 : List (ByteArray × Int × Int)) (a2 : Int) : h89aL a0 a1 a2 = (bif decide (a2 < 32) then
  guardB (decide (0 ≤ a2) && decide (a2 < 32))
    (bindO a1[a2.toNat]? fun x =>
      bif decide (x.fst = a0) then
        bif !decide (a0 = ByteArray.mk #[]) then some (Xt.ret, [PV.sc (Value.int IntKind.i64 a2)], [])
        else
          guardB (decide (muFm (a0, a1, IntKind.i64.wrap (a2 + 1), PUnit.unit) < muFm (a0, a1, a2, ())))
            (guardB (preA a1 (IntKind.i64.wrap (a2 + 1)))
              (bif decide (0 ≤ fxM a0 a1 (IntKind.i64.wrap (a2 + 1))) then
                some (Xt.ret, [PV.sc (Value.int IntKind.i64 (fxM a0 a1 (IntKind.i64.wrap (a2 + 1))))], [])
              else some (Xt.exit 0, [PV.undef], [])))
      else
        guardB (decide (muFm (a0, a1, IntKind.i64.wrap (a2 + 1), PUnit.unit) < muFm (a0, a1, a2, ())))
          (guardB (preA a1 (IntKind.i64.wrap (a2 + 1)))
            (bif decide (0 ≤ fxM a0 a1 (IntKind.i64.wrap (a2 + 1))) then
              some (Xt.ret, [PV.sc (Value.int IntKind.i64 (fxM a0 a1 (IntKind.i64.wrap (a2 + 1))))], [])
            else some (Xt.exit 0, [PV.undef], []))))
else some (Xt.exit 0, [PV.undef], [])) := by kernel_rfl
noncomputable abbrev h89L (a0 : Int) (a1 : Int) (a2 : Int) (a3 : List (ByteArray × Int × Int)) (a4 : Int) (a5 : ByteArray) := evFuncV Try.prog H1 (addCut 0 [1, 10, 11] [4] (entC kFm cFm) noCuts) Try.f89 (killA 0 [mO, sS]) (showA 0 [mO, sS] (((a0, (a1, a2)), (a3, a4)), (a5, ()))).1 (showA 0 [mO, sS] (((a0, (a1, a2)), (a3, a4)), (a5, ()))).2
theorem h89 (a0 : Int) (a1 : Int) (a2 : Int) (a3 : List (ByteArray × Int × Int)) (a4 : Int) (a5 : ByteArray) : h89L a0 a1 a2 a3 a4 a5 = (guardB (decide (a3.length = 32))
  (guardB (preA a3 0)
    (bif decide (0 ≤ fxM a5 a3 0) then
      some
        (PV.sc (Value.int IntKind.i64 (fxM a5 a3 0)),
          [Blk.mix true
              [PV.sc (Value.int IntKind.i64 a0), PV.sc (Value.int IntKind.i64 a1), PV.sc (Value.int IntKind.i64 a2)]
              (Kd.str.pair ((Kd.int IntKind.i64).pair (Kd.int IntKind.i64))) 32 a3 [PV.sc (Value.int IntKind.i64 a4)]])
    else
      some
        (PV.sc (Value.int IntKind.i64 (-1)),
          [Blk.mix true
              [PV.sc (Value.int IntKind.i64 a0), PV.sc (Value.int IntKind.i64 a1), PV.sc (Value.int IntKind.i64 a2)]
              (Kd.str.pair ((Kd.int IntKind.i64).pair (Kd.int IntKind.i64))) 32 a3
              [PV.sc (Value.int IntKind.i64 a4)]])))) := by kernel_rfl
theorem drop_cons {α : Type} {l : List α} {k : Nat} {x : α} (h : l[k]? = some x) : l.drop k = x :: l.drop (k + 1) := by
  obtain ⟨hk, rfl⟩ := List.getElem?_eq_some_iff.1 h
  exact List.drop_eq_getElem_cons hk
theorem get_ex {α : Type} {l : List α} {k : Nat} (h : k < l.length) : ∃ x, l[k]? = some x := ⟨l[k], List.getElem?_eq_getElem h⟩
theorem len_true {α : Type} (l : List α) : decide (l.length ≤ l.length) = true := by simp
theorem ixP_ge {α : Type} (p : α → Bool) : ∀ (l : List α) (k : Int), 0 ≤ k → ixP p k l = -1 ∨ k ≤ ixP p k l
  | [], k, _ => Or.inl rfl
  | x :: r, k, h => by
    unfold ixP
    split
    · right; omega
    · rcases ixP_ge p r (k + 1) (by omega) with h | h
      · exact Or.inl h
      · right; omega
theorem q85a (l : List Int) (nl : Bool) (n k : Int) (h : preNm l n k = true) : h85aL l nl n k = pickA (cNm ((l, nl), n, k, ())).2 := by
  obtain ⟨h1, h2, h3, h4⟩ := of_decide_eq_true h
  show _ = cond (okL k (l.drop k.toNat)) (some (Xt.exit 0, [PV.undef], [Blk.row false (.int .u8) l])) (some (Xt.ret, [PV.sc (.bool false)], [Blk.row false (.int .u8) l]))
  rw [h85a]
  refine cond_split (fun h => ?_) (fun h => ?_)
  · have h := of_decide_eq_true h
    obtain ⟨c, hc⟩ := get_ex (l := l) (k := k.toNat) (by omega)
    refine guard_split (by simp; omega) ?_
    rw [drop_cons hc, Nat.zero_add, hc]
    simp only [bindO, List.take_length, Nat.zero_add]
    rw [IntWalk.i64_in (k + 1) (by omega), show (k + 1).toNat = k.toNat + 1 by omega]
    rw [show decide (l.length ≤ l.length) = true by simp]
    have hp : preNm l n (k + 1) = true := decide_eq_true (by omega)
    have hmu : decide (muNm ((l, nl), n, k + 1, ()) < muNm ((l, nl), n, k, ())) = true := decide_eq_true (show (n - (k + 1)).toNat < (n - k).toNat by omega)
    have hok : okL k (c :: l.drop (k.toNat + 1)) = (okC k c && okL (k + 1) (l.drop (k.toNat + 1))) := rfl
    rw [hok]
    unfold okC
    try simp only [cond_true]
    generalize decide (c ≥ 65) = b1, decide (c ≤ 90) = b2, decide (k > 0) = b3, decide (c ≥ 48) = b4, decide (c ≤ 57) = b5
    cases b1 <;> cases b2 <;> cases b3 <;> cases b4 <;> cases b5 <;> first | rfl | exact guard_split hmu (guard_split hp rfl)
  · have h := of_decide_eq_false h
    rw [List.drop_eq_nil_of_le (by omega)]; rfl
theorem bytes_len (s : ByteArray) : (bytesI s).length = s.size := by unfold bytesI; rw [List.length_map, Array.length_toList]; rfl
theorem q85 (s : ByteArray) (h : s.size ≤ 1000000000000000000) : h85L s = some (PV.sc (.bool (namS s)), []) := by
  rw [h85]
  have hl := bytes_len s
  have ht : List.take s.size (bytesI s) = bytesI s := List.take_of_length_le (by omega)
  rw [ht, show Int.toNat 0 = 0 from rfl, List.drop_zero, hl, Nat.zero_add, show decide (s.size ≤ s.size) = true by simp]
  refine guard_split (decide_eq_true (by omega)) (guard_split (decide_eq_true (by omega)) ?_)
  unfold namS
  have e : decide (s = ByteArray.mk #[]) = !decide (0 < s.size) := by
    rw [Bool.eq_iff_iff]
    simp only [decide_eq_true_eq, Bool.not_eq_true', decide_eq_false_iff_not]
    constructor
    · rintro rfl; decide
    · intro hz
      apply ByteArray.ext
      apply Array.ext'
      have : s.data.toList.length = 0 := by rw [Array.length_toList]; exact (show s.size = 0 by omega)
      rw [List.length_eq_zero_iff.1 this]
  have e2 : decide ((s.size : Int) ≤ 8) = decide (s.size ≤ 8) := decide_eq_decide.mpr (by omega)
  rw [e, e2, Bool.not_not]
  generalize okL 0 (bytesI s) = b1, decide (0 < s.size) = b2, decide (s.size ≤ 8) = b3
  cases b1 <;> cases b2 <;> cases b3 <;> rfl
theorem bytes_get (s : ByteArray) (k : Nat) (h : k < s.size) : ∃ x : UInt8, s[k]? = some x ∧ (bytesI s)[k]? = some (x.toNat : Int) := by
  have h2 : k < s.data.size := h
  refine ⟨s[k], getElem?_pos s k h, ?_⟩
  unfold bytesI
  rw [List.getElem?_map, Array.getElem?_toList, Array.getElem?_eq_getElem h2]; rfl
theorem q88a (s : ByteArray) (n k : Int) (h : preNm (bytesI s) n k = true) : h88aL s n k = pickA (cNr (s, n, k, ())).2 := by
  obtain ⟨h1, h2, h3, h4⟩ := of_decide_eq_true h
  have hl := bytes_len s
  show _ = cond (((bytesI s).drop k.toNat).all alnum) (some (Xt.exit 0, [PV.undef], [])) (some (Xt.ret, [PV.sc (.bool false)], []))
  rw [h88a]
  refine cond_split (fun h => ?_) (fun h => ?_)
  · have h := of_decide_eq_true h
    obtain ⟨x, hx, hc⟩ := bytes_get s k.toNat (by omega)
    refine guard_split (decide_eq_true h2) ?_
    rw [drop_cons hc, hx]
    simp only [bindO]
    rw [IntWalk.i64_in (k + 1) (by omega), show (k + 1).toNat = k.toNat + 1 by omega]
    have hp : preNm (bytesI s) n (k + 1) = true := decide_eq_true (by omega)
    have hmu : decide (muNr (s, n, k + 1, ()) < muNr (s, n, k, ())) = true := decide_eq_true (show (n - (k + 1)).toNat < (n - k).toNat by omega)
    rw [List.all_cons]
    unfold alnum
    generalize decide ((x.toNat : Int) ≥ 65) = b1, decide ((x.toNat : Int) ≤ 90) = b2, decide ((x.toNat : Int) ≥ 48) = b4, decide ((x.toNat : Int) ≤ 57) = b5
    cases b1 <;> cases b2 <;> cases b4 <;> cases b5 <;> first | rfl | exact guard_split hmu (guard_split hp rfl)
  · have h := of_decide_eq_false h
    rw [List.drop_eq_nil_of_le (by omega)]; rfl
theorem okL_pos : ∀ (l : List Int) (k : Int), 0 < k → okL k l = l.all alnum
  | [], k, _ => rfl
  | c :: r, k, h => by
    unfold okL okC
    rw [List.all_cons, okL_pos r (k + 1) (by omega), show decide (k > 0) = true from decide_eq_true h]
    unfold alnum
    rw [Bool.true_and]
theorem q88 (s : ByteArray) (h : s.size ≤ 1000000000000000000) : h88L s = some (PV.sc (.bool (namS s)), []) := by
  have hl := bytes_len s
  rw [h88, show Int.toNat 0 = 0 from rfl, List.drop_zero]
  unfold namS
  refine cond_split (fun h1 => ?_) (fun h1 => cond_split (fun h2 => ?_) (fun h2 => ?_))
  · have h1 := of_decide_eq_true h1
    rw [show decide (0 < s.size) = false from decide_eq_false (by omega), Bool.false_and, Bool.and_false]
  · have h2 := of_decide_eq_true h2
    rw [show decide (s.size ≤ 8) = false from decide_eq_false (by omega), Bool.and_false, Bool.and_false]
  · have h1 := of_decide_eq_false h1
    have h2 := of_decide_eq_false h2
    obtain ⟨x, hx, hc⟩ := bytes_get s 0 (by omega)
    rw [hx]
    simp only [bindO]
    rw [show decide (0 < s.size) = true from decide_eq_true (by omega), show decide (s.size ≤ 8) = true from decide_eq_true (by omega), Bool.and_true, Bool.and_true]
    have hd : bytesI s = (x.toNat : Int) :: (bytesI s).drop 1 := by
      have := drop_cons hc
      rwa [List.drop_zero] at this
    have hp : preNm (bytesI s) s.size 0 = true := decide_eq_true (by omega)
    rw [hp, hd]
    unfold okL okC
    rw [okL_pos _ _ (by omega), List.all_cons]
    unfold alnum
    simp only [show decide ((0 : Int) > 0) = false from rfl, Bool.false_and, Bool.or_false]
    generalize decide ((x.toNat : Int) ≥ 65) = b1, decide ((x.toNat : Int) ≤ 90) = b2, decide ((x.toNat : Int) ≥ 48) = b4, decide ((x.toNat : Int) ≤ 57) = b5
    generalize List.all _ _ = b6
    cases b1 <;> cases b2 <;> cases b6 <;> rfl
theorem q41 (a b c : Int) : h41L a b c = some (PV.sc (.bool (inS a b c)), []) := by
  rw [h41]; unfold inS
  cases decide (a ≥ b) <;> rfl
theorem q14 (a b c : Int) (h : decide (b = 0 ∧ 0 ≤ c ∧ c ≤ 1000) = true) : h14L a b c = some (PV.sc (.int .i64 (cutS a c)), []) := by
  obtain ⟨rfl, h1, h2⟩ := of_decide_eq_true h
  have hm := Int.tmod_lt_of_pos a (show 0 < c + 1 by omega)
  have hm2 : -(c + 1) < a.tmod (c + 1) := Int.lt_tmod_of_pos a (show 0 < c + 1 by omega)
  rw [h14, Int.sub_zero, IntWalk.i64_in c (by omega), IntWalk.i64_in (c + 1) (by omega)]
  refine guard_split (by simp; omega) ?_
  unfold cutS
  generalize a.tmod (c + 1) = t at *
  refine cond_split (fun h => ?_) (fun h => ?_)
  · rw [h, IntWalk.i64_in (t + (c + 1)) (by omega), Int.zero_add, IntWalk.i64_in (t + (c + 1)) (by omega)]; rfl
  · rw [h, Int.zero_add, IntWalk.i64_in t (by omega)]; rfl
theorem inS_at {n a b : Int} (h : inS n a b = true) : a ≤ n ∧ n ≤ b := by
  unfold inS at h; rw [Bool.and_eq_true] at h
  exact ⟨of_decide_eq_true h.1, of_decide_eq_true h.2⟩
theorem at_ex {l : List T3} {k : Int} (h0 : 0 ≤ k) (h : k < (l.length : Int)) : l[0 + k.toNat]? = some (atT l k) := by
  obtain ⟨x, hx⟩ := get_ex (l := l) (k := k.toNat) (by omega)
  unfold atT
  rw [Nat.zero_add, hx, List.getD, hx]; rfl
theorem get_at {L : List T3} {j : Nat} (h : j < L.length) : L[j]? = some (L.getD j zT) := by
  obtain ⟨x, hx⟩ := get_ex h
  rw [List.getD, hx]; rfl
theorem eqTs_cons (x y : T3) (r s : List T3) : eqTs (x :: r) (y :: s) = (eqT x y && eqTs r s) := rfl
theorem q48a (l m : List T3) (nl nm : Bool) (n k : Int) (h : preE l m n k = true) :
    h48aL l nl m nm n k = pickA (cEt ((l, nl), (m, nm), n, k, ())).2 := by
  obtain ⟨h1, h2, h3, h4, h5⟩ := of_decide_eq_true h
  rw [h48a]
  show _ = cond (eqTs (l.drop k.toNat) (m.drop k.toNat)) (some (Xt.exit 0, [PV.undef], [Blk.row false kT l, Blk.row false kT m])) (some (Xt.ret, [PV.sc (.bool false)], [Blk.row false kT l, Blk.row false kT m]))
  simp only [List.take_length, Nat.zero_add, len_true, cond_true]
  refine cond_split (fun hk => ?_) (fun hk => ?_)
  · have hk := of_decide_eq_true hk
    obtain ⟨x, hx⟩ := get_ex (l := l) (k := k.toNat) (by omega)
    obtain ⟨y, hy⟩ := get_ex (l := m) (k := k.toNat) (by omega)
    rw [hx, hy, drop_cons hx, drop_cons hy, IntWalk.i64_in (k + 1) (by omega), show (k + 1).toNat = k.toNat + 1 by omega]
    refine guard_split (by simp; omega) ?_
    simp only [bindO]
    refine guard_split (by simp; omega) ?_
    rw [eqTs_cons]
    change cond (!eqT x y) _ _ = _
    cases eqT x y with
    | false => rfl
    | true =>
      simp only [Bool.not_true, cond_false, Bool.true_and]
      refine guard_split (decide_eq_true (show (n - (k + 1)).toNat < (n - k).toNat by omega)) (guard_split (decide_eq_true (by omega)) rfl)
  · have hk := of_decide_eq_false hk
    rw [List.drop_eq_nil_of_le (by omega), List.drop_eq_nil_of_le (by omega)]
    rfl
theorem eqTs_len : ∀ {l m : List T3}, eqTs l m = true → l.length = m.length
  | [], [], _ => rfl
  | [], _ :: _, h => by simp [eqTs] at h
  | _ :: _, [], h => by simp [eqTs] at h
  | x :: l, y :: m, h => by
    unfold eqTs at h
    rw [Bool.and_eq_true] at h
    simp [eqTs_len h.2]
theorem q48 (l m : List T3) (nl nm : Bool) (h : decide (l.length ≤ 100 ∧ m.length ≤ 100) = true) :
    h48L l nl m nm = some (PV.sc (.bool (eqTs l m)), [Blk.row false kT l, Blk.row false kT m]) := by
  obtain ⟨h1, h2⟩ := of_decide_eq_true h
  rw [h48]
  simp only [List.take_length, Nat.zero_add, len_true, cond_true, show Int.toNat 0 = 0 from rfl, List.drop_zero]
  refine cond_split (fun hk => ?_) (fun hk => ?_)
  · cases he : eqTs l m with
    | false => rfl
    | true => rw [eqTs_len he] at hk; simp at hk
  · have hk : (l.length : Int) = (m.length : Int) := by simpa using hk
    refine guard_split (decide_eq_true (by omega)) ?_
    cases eqTs l m <;> rfl
theorem take_spl {α : Type} (L : List α) (k p : Nat) (ys zs : List α) (h : k + ys.length ≤ L.length) (hp : p = k + ys.length) (hz : p + zs.length ≤ L.length) : (splice (splice L k ys) p zs).take p = L.take k ++ ys := by
  subst hp
  have h1 : (splice L k ys).length = L.length := splice_len L k ys h
  rw [splice, List.take_append_of_le_length (by rw [List.length_take, h1]; omega), List.take_take, Nat.min_self, splice, ← List.append_assoc]
  rw [List.take_append_of_le_length (by rw [List.length_append, List.length_take]; omega), List.take_of_length_le (by rw [List.length_append, List.length_take]; omega)]
abbrev fullT (L : List T3) (k : Nat) : List T3 := splice (splice L k ((L.drop (k + 1)).take (L.length - (k + 1)))) (L.length - 1) (List.replicate 1 zT)
theorem full_cut (L : List T3) (k : Nat) (h : k < L.length) : (fullT L k).take (L.length - 1) = L.eraseIdx k := by
  have hl : ((L.drop (k + 1)).take (L.length - (k + 1))).length = L.length - (k + 1) := by rw [List.length_take, List.length_drop]; omega
  rw [fullT, take_spl L k _ _ _ (by omega) (by omega) (by simp; omega), List.eraseIdx_eq_take_drop_succ, List.take_of_length_le (l := L.drop (k + 1)) (by rw [List.length_drop]; omega)]
theorem q91 (i j : Int) (L : List T3) (nl : Bool) (h : j = i + 1 ∧ 0 ≤ i ∧ i < (L.length : Int) ∧ L.length ≤ 1000) : h91L L nl i j = some (PV.sl 1 0 3 (L.length - 1) (L.length - 1) false nl, [Blk.dead, Blk.row true kT (fullT L i.toNat)]) := by
  obtain ⟨rfl, h4, h5, h6⟩ := h
  obtain ⟨k, rfl⟩ : ∃ k : Nat, i = (k : Int) := ⟨i.toNat, by omega⟩
  have e1 : ((k : Int) + 1).toNat = k + 1 := by omega
  have e2 : k - 0 + (L.length - (k + 1)) = L.length - 1 := by omega
  rw [h91]
  simp only [Int.toNat_natCast, e1, e2, Nat.zero_add, Nat.sub_zero]
  have e2 : k + (L.length - (k + 1)) = L.length - 1 := by omega
  simp only [e2]
  refine guard_split (by simp; omega) ?_
  rw [show ((k : Int) == (k : Int) + 1) = false by simp; omega]
  simp only [cond_false]
  refine guard_split (by simp; omega) (guard_split (by simp; omega) (guard_split ?_ (guard_split ?_ (guard_split ?_ ?_))))
  · simp; omega
  · simp
  · rw [splice_len _ _ _ (by rw [List.length_take, List.length_drop]; omega)]; simp
  · rw [show L.length - (L.length - 1) = 1 by omega]; rfl
theorem del_lt {i j : Int} {L : List T3} (h : j = i + 1 ∧ 0 ≤ i ∧ i < (L.length : Int) ∧ L.length ≤ 1000) : i.toNat < L.length := by omega
theorem quoB {d s : Int} (h0 : 0 ≤ d) (h1 : d ≤ 60000) (h2 : 100 ≤ s) : 0 ≤ d.tdiv s ∧ d.tdiv s ≤ 60000 := by
  have h3 := Int.tdiv_nonneg h0 (show 0 ≤ s by omega)
  have h4 : d.tdiv s ≤ d := by rw [Int.tdiv_eq_ediv_of_nonneg h0]; exact Int.ediv_le_self _ h0
  omega
theorem q42 (s : S3) : h42L s.1 s.2.1 s.2.2 = some (PV.sc (.int .i64 (chkE s)), []) := by
  rw [h42]; unfold chkE
  cases e1 : decide (s.1 < 0) with
  | true => rfl
  | false => cases e2 : decide (s.2.1 > 60000) with
    | true => rfl
    | false => cases e3 : decide (s.2.2 < 100) with
      | true => rfl
      | false => cases e4 : decide (s.2.2 > 10000) with
        | true => rfl
        | false => cases e5 : decide (s.1 > s.2.1) with
          | true => rfl
          | false =>
            have e1 := of_decide_eq_false e1
            have e2 := of_decide_eq_false e2
            have e3 := of_decide_eq_false e3
            have e5 := of_decide_eq_false e5
            have hq := quoB (d := s.2.1 - s.1) (s := s.2.2) (by omega) (by omega) (by omega)
            simp only [cond_false, Bool.false_or]
            rw [IntWalk.i64_in (s.2.1 - s.1) (by omega), IntWalk.i64_in ((s.2.1 - s.1).tdiv s.2.2) (by omega), IntWalk.i64_in ((s.2.1 - s.1).tdiv s.2.2 + 1) (by omega)]
            refine guard_split (by simp; omega) ?_
            cases decide ((s.2.1 - s.1).tdiv s.2.2 + 1 > 32) <;> rfl
abbrev fixK (k : SK) (j : Nat) (nl : Bool) : Blk := .fix true [.sc (.int .i64 k.1.1), .sc (.int .i64 k.1.2.1), .sc (.int .i64 k.1.2.2), .sl j 0 3 k.2.1.length k.2.1.length false nl, .sc (.int .i64 k.2.2)]
abbrev mixM (m : MD) : Blk := .mix true [.sc (.int .i64 m.1.1), .sc (.int .i64 m.1.2.1), .sc (.int .i64 m.1.2.2)] kT 32 m.2.1 [.sc (.int .i64 m.2.2)]
theorem q87 (k : SK) (nl : Bool) (t : Int) : h87L k.1.1 k.1.2.1 k.1.2.2 k.2.1 nl k.2.2 t = some (PV.sc (.bool (atB t k.2.2)), [fixK k 1 nl, Blk.row false kT k.2.1]) := by
  rw [h87]; unfold atB
  cases decide (t ≥ k.2.2) <;> rfl
theorem q90 (m : MD) (h : setOK m.1) : h90L m.1.1 m.1.2.1 m.1.2.2 m.2.1 m.2.2 = some (PV.sc (.int .i64 (lvlM m.1)), [mixM m]) := by
  obtain ⟨h1, h2, h3, h4, h5⟩ := h
  have hq := quoB (d := m.1.2.1 - m.1.1) (s := m.1.2.2) (by omega) (by omega) (by omega)
  rw [h90, IntWalk.i64_in (m.1.2.1 - m.1.1) (by omega), IntWalk.i64_in ((m.1.2.1 - m.1.1).tdiv m.1.2.2) (by omega), IntWalk.i64_in ((m.1.2.1 - m.1.1).tdiv m.1.2.2 + 1) (by omega)]
  exact guard_split (by simp; omega) rfl
theorem H1_ok : TableOK Try.prog H1 :=
  ext_ok (entV_ok Try.call125 (liftV (T0_ok _) mixed Try.func125 (show Try.f125.body = some (bodyF Try.f125) from rfl) (noCuts_ok _) (by decide) fun v _ => h125 v.1.1 v.1.2.1 v.1.2.2 v.2.1)) <|
  ext_ok (entV_ok Try.call85 (liftV (T0_ok _) mixed Try.func85 (show Try.f85.body = some (bodyF Try.f85) from rfl) (cut_cons (by kernel_rfl) (loop_cutW (T0_ok _) mixed muNm (by kernel_rfl) (noCuts_ok _) fun v h => q85a v.1.1 v.1.2 v.2.1 v.2.2.1 h) (noCuts_ok _)) (by decide) fun v h => q85 v.1 (of_decide_eq_true h))) <|
  ext_ok (entV_ok Try.call88 (liftV (T0_ok _) mixed Try.func88 (show Try.f88.body = some (bodyF Try.f88) from rfl) (cut_cons (by kernel_rfl) (loop_cutW (T0_ok _) mixed muNr (by kernel_rfl) (noCuts_ok _) fun v h => q88a v.1 v.2.1 v.2.2.1 h) (noCuts_ok _)) (by decide) fun v h => q88 v.1 (of_decide_eq_true h))) <|
  ext_ok (entV_ok Try.call41 (liftV (T0_ok _) mixed Try.func41 (show Try.f41.body = some (bodyF Try.f41) from rfl) (noCuts_ok _) (by decide) fun v _ => q41 v.1 v.2.1 v.2.2.1)) <|
  ext_ok (entV_ok Try.call14 (liftV (T0_ok _) mixed Try.func14 (show Try.f14.body = some (bodyF Try.f14) from rfl) (noCuts_ok _) (by decide) fun v h => q14 v.1 v.2.1 v.2.2.1 h)) <|
  ext_ok (entV_ok Try.call42 (liftV (T0_ok _) mixed Try.func42 (show Try.f42.body = some (bodyF Try.f42) from rfl) (noCuts_ok _) (by decide) fun v _ => q42 v.1)) <|
  ext_ok (entV_ok Try.call87 (liftV (T0_ok _) mixed Try.func87 (show Try.f87.body = some (bodyF Try.f87) from rfl) (noCuts_ok _) (by decide) fun v _ => q87 (skV v.1) v.1.2.1.2 v.2.1)) <|
  ext_ok (entV_ok Try.call90 (liftV (T0_ok _) mixed Try.func90 (show Try.f90.body = some (bodyF Try.f90) from rfl) (noCuts_ok _) (by decide) fun v h => q90 v.1 (bp_true.1 h))) (T0_ok _)

theorem isIx_step {l : List T3} {c : ByteArray} {k : Int} {x : T3} (h0 : 0 ≤ k) (hx : l[k.toNat]? = some x) : isIx l c k = if isT c x then k else isIx l c (k + 1) := by
  unfold isIx
  rw [drop_cons hx, show (k + 1).toNat = k.toNat + 1 by omega]; rfl
theorem isIx_end {l : List T3} {c : ByteArray} {k : Int} (h : (l.length : Int) ≤ k) : isIx l c k = -1 := by
  unfold isIx
  rw [List.drop_eq_nil_of_le (by omega)]; rfl
theorem q124a (l : List T3) (nl : Bool) (c : ByteArray) (n k : Int) (h : preIx l n k = true) : h124aL l nl c n k = pickA (cX1 ((l, nl), (c, ()), n, k, ())).2 := by
  obtain ⟨h1, h2, h3, h4⟩ := of_decide_eq_true h
  show _ = cond (decide (0 ≤ isIx l c k)) (some (Xt.ret, [PV.sc (.int .i64 (isIx l c k))], [Blk.row false kT l, Blk.fix false [.sc (.string c)]])) (some (Xt.exit 0, [PV.undef], [Blk.row false kT l, Blk.fix false [.sc (.string c)]]))
  rw [h124a]
  simp only [List.take_length, Nat.zero_add, len_true, cond_true]
  refine cond_split (fun h => ?_) (fun h => ?_)
  · have h := of_decide_eq_true h
    obtain ⟨x, hx⟩ := get_ex (l := l) (k := k.toNat) (by omega)
    rw [isIx_step h2 hx, hx, IntWalk.i64_in (k + 1) (by omega)]
    refine guard_split (by simp; omega) ?_
    simp only [bindO]
    refine cond_split (fun h5 => ?_) (fun h5 => ?_)
    · rw [if_pos h5, show decide (0 ≤ k) = true from decide_eq_true h2]; rfl
    · rw [if_neg (by rw [h5]; simp)]
      exact guard_split (decide_eq_true (show (n - (k + 1)).toNat < (n - k).toNat by omega)) (guard_split (decide_eq_true (by omega)) rfl)
  · rw [isIx_end (by have := of_decide_eq_false h; omega)]; rfl
theorem ix_or (B : List Blk) (l : List T3) (c : ByteArray) :
    cond (decide (0 ≤ isIx l c 0)) (some (PV.sc (.int .i64 (isIx l c 0)), B)) (some (PV.sc (.int .i64 (-1)), B)) = some (PV.sc (.int .i64 (ixT c l)), B) := by
  have hi : isIx l c 0 = ixT c l := rfl
  rw [hi]
  refine cond_split (fun _ => rfl) (fun h => ?_)
  have h := of_decide_eq_false h
  rcases ixP_ge (isT c) l 0 (by omega) with h2 | h2
  · unfold ixT; rw [h2]
  · exact absurd h2 h
theorem q124 (l : List T3) (nl : Bool) (c : ByteArray) (h : l.length ≤ 1000000) : h124L l nl c = some (PV.sc (.int .i64 (ixT c l)), [Blk.row false kT l, Blk.fix false [.sc (.string c)]]) := by
  rw [h124]
  simp only [List.take_length, Nat.zero_add, len_true, cond_true]
  exact guard_split (decide_eq_true (by omega)) (ix_or _ l c)
theorem q92 (l : List T3) (nl : Bool) (h : l.length ≤ 100) : h92L l nl = cond nl (some (PV.sc (.slice none 0 0), [Blk.row false kT l])) (some (PV.sl 1 0 3 l.length l.length false false, [Blk.row false kT l, Blk.row true kT l])) := by
  rw [h92]
  refine cond_split (fun h => by rw [h]; rfl) (fun h2 => ?_)
  rw [h2]
  simp only [List.take_length, Nat.zero_add, len_true, cond_false, Bool.and_false]
  refine guard_split (by simp; omega) ?_
  cases decide (1 ≤ l.length) <;> rfl
theorem e48 : EntOK Try.prog 48 (entV [rT, rT] (specP [rT, rT] [sB] (fun v => decide (v.1.1.length ≤ 100 ∧ v.2.1.1.length ≤ 100)) fun v => (eqTs v.1.1 v.2.1.1, ()))) :=
  entV_ok Try.call48 (liftV H1_ok mixed Try.func48 (show Try.f48.body = some (bodyF Try.f48) from rfl) (cut_cons (by kernel_rfl) (loop_cutW H1_ok mixed muEt (by kernel_rfl) (noCuts_ok _) fun v h => q48a v.1.1 v.2.1.1 v.1.2 v.2.1.2 v.2.2.1 v.2.2.2.1 h) (noCuts_ok _)) (by decide) fun v h => q48 v.1.1 v.2.1.1 v.1.2 v.2.1.2 h)
theorem e91 : EntOK Try.prog 91 (entV kDc sp91) := by
  refine entV_ok Try.call91 ?_
  rintro ⟨⟨L, nl⟩, i, j, ⟨⟩⟩ hv r H' hp
  have h0 : j = i + 1 ∧ 0 ≤ i ∧ i < (L.length : Int) ∧ L.length ≤ 1000 := of_decide_eq_true hv
  have h1 : CallOK Try.prog 91 (showA 0 kDc ((L, nl), i, j, ())).1 (showA 0 kDc ((L, nl), i, j, ())).2 (PV.sl 1 0 3 (L.length - 1) (L.length - 1) false nl) [Blk.dead, Blk.row true kT (fullT L i.toNat)] := evFuncV_sound H1_ok mixed Try.func91 (show Try.f91.body = some (bodyF Try.f91) from rfl) (noCuts_ok _) (q91 i j L nl h0) (by rw [showA_len]; decide)
  have h2 := h1.cut 1 (L.length - 1)
  have hp : some (PV.sl 1 0 3 (L.eraseIdx i.toNat).length (L.eraseIdx i.toNat).length false nl, [Blk.dead, Blk.row true kT (L.eraseIdx i.toNat)]) = some (r, H') := hp
  obtain ⟨rfl, rfl⟩ := Prod.mk.inj (Option.some.inj hp)
  have hi : Int.toNat i < L.length := del_lt h0
  have e : (L.eraseIdx (Int.toNat i)).length = L.length - 1 := List.length_eraseIdx_of_lt hi
  rw [e, ← full_cut L (Int.toNat i) hi]
  exact h2
/-! ### The model's find -/
theorem ixP_lt {α : Type} (p : α → Bool) : ∀ (l : List α) (k : Int), ixP p k l = -1 ∨ (k ≤ ixP p k l ∧ ixP p k l < k + (l.length : Int))
  | [], k => Or.inl rfl
  | x :: r, k => by
    unfold ixP
    split
    · right; simp only [List.length_cons]; omega
    · rcases ixP_lt p r (k + 1) with h | h
      · exact Or.inl h
      · right; simp only [List.length_cons]; omega
theorem fnd_at (c : ByteArray) (L : List T3) : fndM c L = -1 ∨ (0 ≤ fndM c L ∧ fndM c L < (L.length : Int)) := by
  have := ixP_lt (fun x => isT c x && !decide (c = ByteArray.mk #[])) L 0
  rw [Int.zero_add] at this; exact this
theorem fx_step {L : List T3} {c : ByteArray} {k : Int} {x : T3} (h0 : 0 ≤ k) (hx : L[k.toNat]? = some x) : fxM c L k = if (isT c x && !decide (c = ByteArray.mk #[])) = true then k else fxM c L (k + 1) := by
  unfold fxM
  rw [drop_cons hx, show (k + 1).toNat = k.toNat + 1 by omega]; rfl
theorem q89a (c : ByteArray) (L : List T3) (k : Int) (h : preA L k = true) : h89aL c L k = cond (decide (0 ≤ fxM c L k)) (some (Xt.ret, [PV.sc (.int .i64 (fxM c L k))], [])) (some (Xt.exit 0, [PV.undef], [])) := by
  obtain ⟨h1, h2, h3⟩ := of_decide_eq_true h
  rw [h89a]
  refine cond_split (fun h => ?_) (fun h => ?_)
  · have h := of_decide_eq_true h
    obtain ⟨x, hx⟩ := get_ex (l := L) (k := k.toNat) (by omega)
    rw [fx_step h2 hx, hx, IntWalk.i64_in (k + 1) (by omega)]
    refine guard_split (by simp; omega) ?_
    simp only [bindO]
    have hm : decide (muFm (c, L, k + 1, ()) < muFm (c, L, k, ())) = true := decide_eq_true (show (32 - (k + 1)).toNat < (32 - k).toNat by omega)
    have hp : preA L (k + 1) = true := decide_eq_true ⟨h1, by omega, by omega⟩
    unfold isT
    generalize decide (x.1 = c) = b1, decide (c = ByteArray.mk #[]) = b2
    cases b1 with
    | false =>
      rw [if_neg (by simp)]
      exact guard_split hm (guard_split hp rfl)
    | true =>
      cases b2 with
      | true =>
        rw [if_neg (by simp)]
        exact guard_split hm (guard_split hp rfl)
      | false =>
        rw [if_pos (by simp), decide_eq_true h2]; rfl
  · have h := of_decide_eq_false h
    have : fxM c L k = -1 := by unfold fxM; rw [List.drop_eq_nil_of_le (by omega)]; rfl
    rw [this]; rfl
theorem q89 (m : MD) (c : ByteArray) (h : decide (m.2.1.length = 32) = true) : h89L m.1.1 m.1.2.1 m.1.2.2 m.2.1 m.2.2 c = some (PV.sc (.int .i64 (fndM c m.2.1)), [mixM m]) := by
  have hl := of_decide_eq_true h
  rw [h89]
  refine guard_split h (guard_split (decide_eq_true ⟨hl, by omega, by omega⟩) ?_)
  have hi : fxM c m.2.1 0 = fndM c m.2.1 := rfl
  rw [hi]
  refine cond_split (fun _ => rfl) (fun h => ?_)
  have h := of_decide_eq_false h
  rcases fnd_at c m.2.1 with h2 | h2
  · rw [h2]
  · exact absurd h2.1 h
theorem H2_ok : TableOK Try.prog H2 :=
  ext_ok (entV_ok Try.call124 (liftV H1_ok mixed Try.func124 (show Try.f124.body = some (bodyF Try.f124) from rfl) (cut_cons (by kernel_rfl) (loop_cutW H1_ok mixed muX1 (by kernel_rfl) (noCuts_ok _) fun v h => q124a v.1.1 v.1.2 v.2.1.1 v.2.2.1 v.2.2.2.1 h) (noCuts_ok _)) (by decide) fun v h => q124 v.1.1 v.1.2 v.2.1.1 (of_decide_eq_true h))) <|
  ext_ok e48 <| ext_ok e91 <|
  ext_ok (entV_ok Try.call92 (liftV H1_ok mixed Try.func92 (show Try.f92.body = some (bodyF Try.f92) from rfl) (noCuts_ok _) (by decide) fun v h => q92 v.1.1 v.1.2 (of_decide_eq_true h))) <|
  ext_ok (entV_ok Try.call89 (liftV H1_ok mixed Try.func89 (show Try.f89.body = some (bodyF Try.f89) from rfl) (cut_cons (by kernel_rfl) (loop_cutW H1_ok mixed muFm (by kernel_rfl) (noCuts_ok _) fun v h => q89a v.1 v.2.1 v.2.2.1 h) (noCuts_ok _)) (by decide) fun v h => q89 v.1 v.2.1 h)) H1_ok
end Go.Proofs.YtacdahpjmeianaaHo
