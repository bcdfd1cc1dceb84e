/- What is proved: named, Named, IndexFunc, Check and what they call answer what their plain functions say. No condition. -/
import Derived.Test.YtokephobkllfgaaTss0
namespace Go.Proofs.YtokephobkllfgaaSs
open Go Go.Proofs Go.Proofs.YtokephobkllfgaaEv
set_option maxRecDepth 100000
theorem mixed : Try.prog.follows .mixedOrders = true := by kernel_rfl
noncomputable abbrev s39aL (a0 : List Int) (a1 : Bool) (a2 : Int) (a3 : Int) := evRound Try.prog U0 noCuts 40 (loopOf (codeAt 0 (bodyF Try.f39))) kNm muNm (killA 0 kNm) [6, 7, 8] [2] cNm ((a0, a1), (a2, (a3, ())))
theorem s39a (a0 : List Int) (a1 : Bool) (a2 : Int) (a3 : Int) : s39aL a0 a1 a2 a3 = (bif decide (a3 < a2) then
  guardB (decide (0 ≤ a3) && decide (a3 < (↑a0.length : Int)))
    (bindO a0[0 + a3.toNat]? fun x =>
      bif decide (x ≥ 65) then
        bif decide (x ≤ 90) then
          guardB
            (decide
              (muNm ((List.take a0.length a0, a1), a2, IntKind.i64.wrap (a3 + 1), PUnit.unit) <
                muNm ((a0, a1), a2, a3, ())))
            (guardB
              (bif decide (0 + a0.length ≤ a0.length) then preNm (List.take a0.length a0) a2 (IntKind.i64.wrap (a3 + 1))
              else false)
              (bif
                  okL (IntKind.i64.wrap (a3 + 1))
                    (List.drop (IntKind.i64.wrap (a3 + 1)).toNat (List.take a0.length a0)) then
                some (Xt.exit 0, [PV.undef], [Blk.row false (Kd.int IntKind.u8) a0])
              else some (Xt.ret, [PV.sc (Value.bool false)], [Blk.row false (Kd.int IntKind.u8) a0])))
        else
          bif decide (a3 > 0) then
            bif decide (x ≥ 48) then
              bif !decide (x ≤ 57) then
                some (Xt.ret, [PV.sc (Value.bool false)], [Blk.row false (Kd.int IntKind.u8) a0])
              else
                guardB
                  (decide
                    (muNm ((List.take a0.length a0, a1), a2, IntKind.i64.wrap (a3 + 1), PUnit.unit) <
                      muNm ((a0, a1), a2, a3, ())))
                  (guardB
                    (bif decide (0 + a0.length ≤ a0.length) then
                      preNm (List.take a0.length a0) a2 (IntKind.i64.wrap (a3 + 1))
                    else false)
                    (bif
                        okL (IntKind.i64.wrap (a3 + 1))
                          (List.drop (IntKind.i64.wrap (a3 + 1)).toNat (List.take a0.length a0)) then
                      some (Xt.exit 0, [PV.undef], [Blk.row false (Kd.int IntKind.u8) a0])
                    else some (Xt.ret, [PV.sc (Value.bool false)], [Blk.row false (Kd.int IntKind.u8) a0])))
            else some (Xt.ret, [PV.sc (Value.bool false)], [Blk.row false (Kd.int IntKind.u8) a0])
          else some (Xt.ret, [PV.sc (Value.bool false)], [Blk.row false (Kd.int IntKind.u8) a0])
      else
        bif decide (a3 > 0) then
          bif decide (x ≥ 48) then
            bif !decide (x ≤ 57) then some (Xt.ret, [PV.sc (Value.bool false)], [Blk.row false (Kd.int IntKind.u8) a0])
            else
              guardB
                (decide
                  (muNm ((List.take a0.length a0, a1), a2, IntKind.i64.wrap (a3 + 1), PUnit.unit) <
                    muNm ((a0, a1), a2, a3, ())))
                (guardB
                  (bif decide (0 + a0.length ≤ a0.length) then
                    preNm (List.take a0.length a0) a2 (IntKind.i64.wrap (a3 + 1))
                  else false)
                  (bif
                      okL (IntKind.i64.wrap (a3 + 1))
                        (List.drop (IntKind.i64.wrap (a3 + 1)).toNat (List.take a0.length a0)) then
                    some (Xt.exit 0, [PV.undef], [Blk.row false (Kd.int IntKind.u8) a0])
                  else some (Xt.ret, [PV.sc (Value.bool false)], [Blk.row false (Kd.int IntKind.u8) a0])))
          else some (Xt.ret, [PV.sc (Value.bool false)], [Blk.row false (Kd.int IntKind.u8) a0])
        else some (Xt.ret, [PV.sc (Value.bool false)], [Blk.row false (Kd.int IntKind.u8) a0]))
else some (Xt.exit 0, [PV.undef], [Blk.row false (Kd.int IntKind.u8) a0])) := by kernel_rfl
noncomputable abbrev s39L (a0 : ByteArray) := evFuncV Try.prog U0 (addCut 0 [6, 7, 8] [2] (entC kNm cNm) noCuts) Try.f39 (killA 0 [sS]) (showA 0 [sS] (a0, ())).1 (showA 0 [sS] (a0, ())).2
theorem s39 (a0 : ByteArray) : s39L a0 = (guardB (decide (a0.size ≤ 9223372036854775807))
  (guardB
    (bif decide (0 + a0.size ≤ (bytesI a0).length) then preNm (List.take a0.size (bytesI a0)) (↑a0.size : Int) 0
    else false)
    (bif okL 0 (List.drop (Int.toNat 0) (List.take a0.size (bytesI a0))) then
      bif !decide (a0 = ByteArray.mk #[]) then some (PV.sc (Value.bool (decide ((↑a0.size : Int) ≤ 8))), [])
      else some (PV.sc (Value.bool false), [])
    else some (PV.sc (Value.bool false), [])))) := by kernel_rfl
noncomputable abbrev s9aL (a0 : ByteArray) (a1 : Int) (a2 : Int) := evRound Try.prog U0 noCuts 49 (loopOf (codeAt 0 (bodyF Try.f9))) kNr muNr (killA 0 kNr) [0, 25, 26] [2] cNr (a0, (a1, (a2, ())))
theorem s9a (a0 : ByteArray) (a1 : Int) (a2 : Int) : s9aL a0 a1 a2 = (bif decide (a2 < a1) then
  guardB (decide (0 ≤ a2))
    (bindO a0[a2.toNat]? fun x =>
      bif decide ((↑x.toNat : Int) ≥ 65) then
        bif !decide ((↑x.toNat : Int) ≤ 90) then
          bif decide ((↑x.toNat : Int) ≥ 48) then
            bif !decide ((↑x.toNat : Int) ≤ 57) then some (Xt.ret, [PV.sc (Value.bool false)], [])
            else
              guardB (decide (muNr (a0, a1, IntKind.i64.wrap (a2 + 1), PUnit.unit) < muNr (a0, a1, a2, ())))
                (guardB (preNm (bytesI a0) a1 (IntKind.i64.wrap (a2 + 1)))
                  (bif (List.drop (IntKind.i64.wrap (a2 + 1)).toNat (bytesI a0)).all alnum then
                    some (Xt.exit 0, [PV.undef], [])
                  else some (Xt.ret, [PV.sc (Value.bool false)], [])))
          else some (Xt.ret, [PV.sc (Value.bool false)], [])
        else
          guardB (decide (muNr (a0, a1, IntKind.i64.wrap (a2 + 1), PUnit.unit) < muNr (a0, a1, a2, ())))
            (guardB (preNm (bytesI a0) a1 (IntKind.i64.wrap (a2 + 1)))
              (bif (List.drop (IntKind.i64.wrap (a2 + 1)).toNat (bytesI a0)).all alnum then
                some (Xt.exit 0, [PV.undef], [])
              else some (Xt.ret, [PV.sc (Value.bool false)], [])))
      else
        bif decide ((↑x.toNat : Int) ≥ 48) then
          bif !decide ((↑x.toNat : Int) ≤ 57) then some (Xt.ret, [PV.sc (Value.bool false)], [])
          else
            guardB (decide (muNr (a0, a1, IntKind.i64.wrap (a2 + 1), PUnit.unit) < muNr (a0, a1, a2, ())))
              (guardB (preNm (bytesI a0) a1 (IntKind.i64.wrap (a2 + 1)))
                (bif (List.drop (IntKind.i64.wrap (a2 + 1)).toNat (bytesI a0)).all alnum then
                  some (Xt.exit 0, [PV.undef], [])
                else some (Xt.ret, [PV.sc (Value.bool false)], [])))
        else some (Xt.ret, [PV.sc (Value.bool false)], []))
else some (Xt.exit 0, [PV.undef], [])) := by kernel_rfl
noncomputable abbrev s9L (a0 : ByteArray) := evFuncV Try.prog U0 (addCut 0 [0, 25, 26] [2] (entC kNr cNr) noCuts) Try.f9 (killA 0 [sS]) (showA 0 [sS] (a0, ())).1 (showA 0 [sS] (a0, ())).2
theorem s9 (a0 : ByteArray) : s9L a0 = (bif decide ((↑a0.size : Int) < 1) then some (PV.sc (Value.bool false), [])
else
  bif decide ((↑a0.size : Int) > 8) then some (PV.sc (Value.bool false), [])
  else
    bindO a0[Int.toNat 0]? fun x =>
      bif decide ((↑x.toNat : Int) ≥ 65) then
        bindO a0[Int.toNat 0]? fun x =>
          bif !decide ((↑x.toNat : Int) ≤ 90) then some (PV.sc (Value.bool false), [])
          else
            guardB (preNm (bytesI a0) (↑a0.size : Int) 0)
              (bif (List.drop (Int.toNat 0) (bytesI a0)).all alnum then some (PV.sc (Value.bool true), [])
              else some (PV.sc (Value.bool false), []))
      else some (PV.sc (Value.bool false), [])) := by kernel_rfl
noncomputable abbrev s10L (a0 : Int) (a1 : Int) (a2 : Int) := evFuncV Try.prog T0 noCuts Try.f10 (killA 0 [sI, sI, sI]) (showA 0 [sI, sI, sI] (a0, (a1, (a2, ())))).1 (showA 0 [sI, sI, sI] (a0, (a1, (a2, ())))).2
theorem s10 (a0 : Int) (a1 : Int) (a2 : Int) : s10L a0 a1 a2 = (bif decide (a0 ≥ a1) then some (PV.sc (Value.bool (decide (a0 ≤ a2))), []) else some (PV.sc (Value.bool false), [])) := by kernel_rfl
noncomputable abbrev s11L (a0 : Int) (a1 : Int) (a2 : Int) := evFuncV Try.prog T0 noCuts Try.f11 (killA 0 [sI, sI, sI]) (showA 0 [sI, sI, sI] (a0, (a1, (a2, ())))).1 (showA 0 [sI, sI, sI] (a0, (a1, (a2, ())))).2
theorem s11 (a0 : Int) (a1 : Int) (a2 : Int) : s11L a0 a1 a2 = (guardB (!decide (IntKind.i64.wrap (IntKind.i64.wrap (a2 - a1) + 1) = 0))
  (bif decide (a0.tmod (IntKind.i64.wrap (IntKind.i64.wrap (a2 - a1) + 1)) < 0) then
    some
      (PV.sc
          (Value.int IntKind.i64
            (IntKind.i64.wrap
              (a1 +
                IntKind.i64.wrap
                  (a0.tmod (IntKind.i64.wrap (IntKind.i64.wrap (a2 - a1) + 1)) +
                    IntKind.i64.wrap (IntKind.i64.wrap (a2 - a1) + 1))))),
        [])
  else
    some
      (PV.sc
          (Value.int IntKind.i64 (IntKind.i64.wrap (a1 + a0.tmod (IntKind.i64.wrap (IntKind.i64.wrap (a2 - a1) + 1))))),
        []))) := by kernel_rfl
noncomputable abbrev s42L (a0 : Int) (a1 : Int) := evFuncV Try.prog T0 noCuts Try.f42 (killA 0 [sI, sI]) (showA 0 [sI, sI] (a0, (a1, ()))).1 (showA 0 [sI, sI] (a0, (a1, ()))).2
theorem s42 (a0 : Int) (a1 : Int) : s42L a0 a1 = (bif a0 == 0 then some (PV.sc (Value.bool (a1 == 1)), [])
else
  bif a0 == 1 then bif a1 == 2 then some (PV.sc (Value.bool true), []) else some (PV.sc (Value.bool (a1 == 3)), [])
  else
    bif a0 == 2 then bif a1 == 1 then some (PV.sc (Value.bool true), []) else some (PV.sc (Value.bool (a1 == 3)), [])
    else some (PV.sc (Value.bool false), [])) := by kernel_rfl
noncomputable abbrev s57L (a0 : ByteArray) (a1 : ByteArray) (a2 : Int) (a3 : Int) (a4 : Int) (a5 : ByteArray) := evFuncV Try.prog T0 noCuts Try.f57 (killA 0 [sSt, .s xS]) (showA 0 [sSt, .s xS] ((a0, (a1, (a2, (a3, a4)))), (a5, ()))).1 (showA 0 [sSt, .s xS] ((a0, (a1, (a2, (a3, a4)))), (a5, ()))).2
theorem s57 (a0 : ByteArray) (a1 : ByteArray) (a2 : Int) (a3 : Int) (a4 : Int) (a5 : ByteArray) : s57L a0 a1 a2 a3 a4 a5 = (some (PV.sc (Value.bool (decide (a0 = a5))), [Blk.fix false [PV.sc (Value.string a5)]])) := by kernel_rfl
noncomputable abbrev s8L (a0 : ByteArray) (a1 : ByteArray) (a2 : Int) (a3 : Int) (a4 : Int) (a5 : ByteArray) (a6 : ByteArray) (a7 : Int) (a8 : Int) (a9 : Int) := evFuncV Try.prog T0 noCuts Try.f8 (killA 0 [sSt, .s xT]) (showA 0 [sSt, .s xT] ((a0, (a1, (a2, (a3, a4)))), ((a5, (a6, (a7, (a8, a9)))), ()))).1 (showA 0 [sSt, .s xT] ((a0, (a1, (a2, (a3, a4)))), ((a5, (a6, (a7, (a8, a9)))), ()))).2
theorem s8 (a0 : ByteArray) (a1 : ByteArray) (a2 : Int) (a3 : Int) (a4 : Int) (a5 : ByteArray) (a6 : ByteArray) (a7 : Int) (a8 : Int) (a9 : Int) : s8L a0 a1 a2 a3 a4 a5 a6 a7 a8 a9 = (some
  (PV.sc (Value.bool (decide (a0 = a5))),
    [Blk.fix false
        [PV.sc (Value.string a5), PV.sc (Value.string a6), PV.sc (Value.int IntKind.i64 a7),
          PV.sc (Value.int IntKind.i64 a8), PV.sc (Value.int IntKind.i64 a9)]])) := by kernel_rfl
noncomputable abbrev s7aL (a0 : List (ByteArray × ByteArray × Int × Int × Int)) (a1 : Bool) (a2 : ByteArray) (a3 : Int) (a4 : Int) := evRound Try.prog U1 noCuts 19 (loopOf (codeAt 0 (bodyF Try.f7))) kX1 muX1 (killA 0 kX1) [0, 1, 7, 8] [4] cX1 ((a0, a1), ((a2, ()), (a3, (a4, ()))))
theorem s7a (a0 : List (ByteArray × ByteArray × Int × Int × Int)) (a1 : Bool) (a2 : ByteArray) (a3 : Int) (a4 : Int) : s7aL a0 a1 a2 a3 a4 = (bif decide (a4 < a3) then
  guardB (decide (0 ≤ a4) && decide (a4 < (↑a0.length : Int)))
    (bindO a0[0 + a4.toNat]? fun x =>
      bif isC a2 x then
        some
          (Xt.ret, [PV.sc (Value.int IntKind.i64 a4)],
            [Blk.row false
                (Kd.str.pair (Kd.str.pair ((Kd.int IntKind.i64).pair ((Kd.int IntKind.i64).pair (Kd.int IntKind.i64)))))
                a0,
              Blk.fix false [PV.sc (Value.string a2)]])
      else
        guardB
          (decide
            (muX1 ((List.take a0.length a0, a1), (a2, PUnit.unit), a3, IntKind.i64.wrap (a4 + 1), PUnit.unit) <
              muX1 ((a0, a1), (a2, ()), a3, a4, ())))
          (guardB
            (bif decide (0 + a0.length ≤ a0.length) then preIx (List.take a0.length a0) a3 (IntKind.i64.wrap (a4 + 1))
            else false)
            (bif decide (0 ≤ isIx (List.take a0.length a0) a2 (IntKind.i64.wrap (a4 + 1))) then
              some
                (Xt.ret, [PV.sc (Value.int IntKind.i64 (isIx (List.take a0.length a0) a2 (IntKind.i64.wrap (a4 + 1))))],
                  [Blk.row false
                      (Kd.str.pair
                        (Kd.str.pair ((Kd.int IntKind.i64).pair ((Kd.int IntKind.i64).pair (Kd.int IntKind.i64)))))
                      a0,
                    Blk.fix false [PV.sc (Value.string a2)]])
            else
              some
                (Xt.exit 0, [PV.undef],
                  [Blk.row false
                      (Kd.str.pair
                        (Kd.str.pair ((Kd.int IntKind.i64).pair ((Kd.int IntKind.i64).pair (Kd.int IntKind.i64)))))
                      a0,
                    Blk.fix false [PV.sc (Value.string a2)]]))))
else
  some
    (Xt.exit 0, [PV.undef],
      [Blk.row false
          (Kd.str.pair (Kd.str.pair ((Kd.int IntKind.i64).pair ((Kd.int IntKind.i64).pair (Kd.int IntKind.i64))))) a0,
        Blk.fix false [PV.sc (Value.string a2)]])) := by kernel_rfl
noncomputable abbrev s7bL (a0 : List (ByteArray × ByteArray × Int × Int × Int)) (a1 : Bool) (a2 : ByteArray) (a3 : ByteArray) (a4 : Int) (a5 : Int) (a6 : Int) (a7 : Int) (a8 : Int) := evRound Try.prog U1 noCuts 19 (loopOf (codeAt 0 (bodyF Try.f7))) kX2 muX2 (killA 0 kX2) [0, 1, 7, 8] [4] cX2 ((a0, a1), (((a2, (a3, (a4, (a5, a6)))), ()), (a7, (a8, ()))))
theorem s7b (a0 : List (ByteArray × ByteArray × Int × Int × Int)) (a1 : Bool) (a2 : ByteArray) (a3 : ByteArray) (a4 : Int) (a5 : Int) (a6 : Int) (a7 : Int) (a8 : Int) : s7bL a0 a1 a2 a3 a4 a5 a6 a7 a8 = (bif decide (a8 < a7) then
  guardB (decide (0 ≤ a8) && decide (a8 < (↑a0.length : Int)))
    (bindO a0[0 + a8.toNat]? fun x =>
      bif isC a2 x then
        some
          (Xt.ret, [PV.sc (Value.int IntKind.i64 a8)],
            [Blk.row false
                (Kd.str.pair (Kd.str.pair ((Kd.int IntKind.i64).pair ((Kd.int IntKind.i64).pair (Kd.int IntKind.i64)))))
                a0,
              Blk.fix false
                [PV.sc (Value.string a2), PV.sc (Value.string a3), PV.sc (Value.int IntKind.i64 a4),
                  PV.sc (Value.int IntKind.i64 a5), PV.sc (Value.int IntKind.i64 a6)]])
      else
        guardB
          (decide
            (muX2
                ((List.take a0.length a0, a1), ((a2, a3, a4, a5, a6), PUnit.unit), a7, IntKind.i64.wrap (a8 + 1),
                  PUnit.unit) <
              muX2 ((a0, a1), ((a2, a3, a4, a5, a6), ()), a7, a8, ())))
          (guardB
            (bif decide (0 + a0.length ≤ a0.length) then preIx (List.take a0.length a0) a7 (IntKind.i64.wrap (a8 + 1))
            else false)
            (bif decide (0 ≤ isIx (List.take a0.length a0) a2 (IntKind.i64.wrap (a8 + 1))) then
              some
                (Xt.ret, [PV.sc (Value.int IntKind.i64 (isIx (List.take a0.length a0) a2 (IntKind.i64.wrap (a8 + 1))))],
                  [Blk.row false
                      (Kd.str.pair
                        (Kd.str.pair ((Kd.int IntKind.i64).pair ((Kd.int IntKind.i64).pair (Kd.int IntKind.i64)))))
                      a0,
                    Blk.fix false
                      [PV.sc (Value.string a2), PV.sc (Value.string a3), PV.sc (Value.int IntKind.i64 a4),
                        PV.sc (Value.int IntKind.i64 a5), PV.sc (Value.int IntKind.i64 a6)]])
            else
              some
                (Xt.exit 0, [PV.undef],
                  [Blk.row false
                      (Kd.str.pair
                        (Kd.str.pair ((Kd.int IntKind.i64).pair ((Kd.int IntKind.i64).pair (Kd.int IntKind.i64)))))
                      a0,
                    Blk.fix false
                      [PV.sc (Value.string a2), PV.sc (Value.string a3), PV.sc (Value.int IntKind.i64 a4),
                        PV.sc (Value.int IntKind.i64 a5), PV.sc (Value.int IntKind.i64 a6)]]))))
else
  some
    (Xt.exit 0, [PV.undef],
      [Blk.row false
          (Kd.str.pair (Kd.str.pair ((Kd.int IntKind.i64).pair ((Kd.int IntKind.i64).pair (Kd.int IntKind.i64))))) a0,
        Blk.fix false
          [PV.sc (Value.string a2), PV.sc (Value.string a3), PV.sc (Value.int IntKind.i64 a4),
            PV.sc (Value.int IntKind.i64 a5), PV.sc (Value.int IntKind.i64 a6)]])) := by kernel_rfl
noncomputable abbrev s7cL (a0 : List (ByteArray × ByteArray × Int × Int × Int)) (a1 : Bool) (a2 : ByteArray) := evFuncV Try.prog U1 (addCut 0 [0, 1, 7, 8] [4] (entC kX1 cX1) noCuts) Try.f7 (killA 0 kF1) (showA 0 kF1 ((a0, a1), ((a2, ()), ()))).1 (showA 0 kF1 ((a0, a1), ((a2, ()), ()))).2
theorem s7c (a0 : List (ByteArray × ByteArray × Int × Int × Int)) (a1 : Bool) (a2 : ByteArray) : s7cL a0 a1 a2 = (guardB (bif decide (0 + a0.length ≤ a0.length) then preIx (List.take a0.length a0) (↑a0.length : Int) 0 else false)
  (bif decide (0 ≤ isIx (List.take a0.length a0) a2 0) then
    some
      (PV.sc (Value.int IntKind.i64 (isIx (List.take a0.length a0) a2 0)),
        [Blk.row false
            (Kd.str.pair (Kd.str.pair ((Kd.int IntKind.i64).pair ((Kd.int IntKind.i64).pair (Kd.int IntKind.i64))))) a0,
          Blk.fix false [PV.sc (Value.string a2)]])
  else
    some
      (PV.sc (Value.int IntKind.i64 (-1)),
        [Blk.row false
            (Kd.str.pair (Kd.str.pair ((Kd.int IntKind.i64).pair ((Kd.int IntKind.i64).pair (Kd.int IntKind.i64))))) a0,
          Blk.fix false [PV.sc (Value.string a2)]]))) := by kernel_rfl
noncomputable abbrev s7dL (a0 : List (ByteArray × ByteArray × Int × Int × Int)) (a1 : Bool) (a2 : ByteArray) (a3 : ByteArray) (a4 : Int) (a5 : Int) (a6 : Int) := evFuncV Try.prog U1 (addCut 0 [0, 1, 7, 8] [4] (entC kX2 cX2) noCuts) Try.f7 (killA 0 kF2) (showA 0 kF2 ((a0, a1), (((a2, (a3, (a4, (a5, a6)))), ()), ()))).1 (showA 0 kF2 ((a0, a1), (((a2, (a3, (a4, (a5, a6)))), ()), ()))).2
theorem s7d (a0 : List (ByteArray × ByteArray × Int × Int × Int)) (a1 : Bool) (a2 : ByteArray) (a3 : ByteArray) (a4 : Int) (a5 : Int) (a6 : Int) : s7dL a0 a1 a2 a3 a4 a5 a6 = (guardB (bif decide (0 + a0.length ≤ a0.length) then preIx (List.take a0.length a0) (↑a0.length : Int) 0 else false)
  (bif decide (0 ≤ isIx (List.take a0.length a0) a2 0) then
    some
      (PV.sc (Value.int IntKind.i64 (isIx (List.take a0.length a0) a2 0)),
        [Blk.row false
            (Kd.str.pair (Kd.str.pair ((Kd.int IntKind.i64).pair ((Kd.int IntKind.i64).pair (Kd.int IntKind.i64))))) a0,
          Blk.fix false
            [PV.sc (Value.string a2), PV.sc (Value.string a3), PV.sc (Value.int IntKind.i64 a4),
              PV.sc (Value.int IntKind.i64 a5), PV.sc (Value.int IntKind.i64 a6)]])
  else
    some
      (PV.sc (Value.int IntKind.i64 (-1)),
        [Blk.row false
            (Kd.str.pair (Kd.str.pair ((Kd.int IntKind.i64).pair ((Kd.int IntKind.i64).pair (Kd.int IntKind.i64))))) a0,
          Blk.fix false
            [PV.sc (Value.string a2), PV.sc (Value.string a3), PV.sc (Value.int IntKind.i64 a4),
              PV.sc (Value.int IntKind.i64 a5), PV.sc (Value.int IntKind.i64 a6)]]))) := by kernel_rfl
noncomputable abbrev s7eL (a0 : ByteArray) := evFuncV Try.prog U1 noCuts Try.f7 (killA 0 kG1) (showA 0 kG1 ((), ((a0, ()), ()))).1 (showA 0 kG1 ((), ((a0, ()), ()))).2
theorem s7e (a0 : ByteArray) : s7eL a0 = (some (PV.sc (Value.int IntKind.i64 (-1)), [Blk.fix false [PV.sc (Value.string a0)]])) := by kernel_rfl
noncomputable abbrev s7fL (a0 : ByteArray) (a1 : ByteArray) (a2 : Int) (a3 : Int) (a4 : Int) := evFuncV Try.prog U1 noCuts Try.f7 (killA 0 kG2) (showA 0 kG2 ((), (((a0, (a1, (a2, (a3, a4)))), ()), ()))).1 (showA 0 kG2 ((), (((a0, (a1, (a2, (a3, a4)))), ()), ()))).2
theorem s7f (a0 : ByteArray) (a1 : ByteArray) (a2 : Int) (a3 : Int) (a4 : Int) : s7fL a0 a1 a2 a3 a4 = (some
  (PV.sc (Value.int IntKind.i64 (-1)),
    [Blk.fix false
        [PV.sc (Value.string a0), PV.sc (Value.string a1), PV.sc (Value.int IntKind.i64 a2),
          PV.sc (Value.int IntKind.i64 a3), PV.sc (Value.int IntKind.i64 a4)]])) := by kernel_rfl
noncomputable abbrev s5L (a0 : ByteArray) (a1 : ByteArray) (a2 : Int) (a3 : Int) (a4 : Int) := evFuncV Try.prog U1 noCuts Try.f5 (killA 0 [sSt]) (showA 0 [sSt] ((a0, (a1, (a2, (a3, a4)))), ())).1 (showA 0 [sSt] ((a0, (a1, (a2, (a3, a4)))), ())).2
theorem s5 (a0 : ByteArray) (a1 : ByteArray) (a2 : Int) (a3 : Int) (a4 : Int) : s5L a0 a1 a2 a3 a4 = (guardB (decide (a0.size ≤ 1000000000000000000))
  (bif !namS a0 then some (PV.sc (Value.int IntKind.i64 6), [])
  else
    guardB (decide (a1.size ≤ 1000000000000000000))
      (bif !namS a1 then some (PV.sc (Value.int IntKind.i64 6), [])
      else
        bif decide (a2 < 0) then some (PV.sc (Value.int IntKind.i64 4), [])
        else
          bif decide (a2 > 200000) then some (PV.sc (Value.int IntKind.i64 4), [])
          else
            bif decide (a3 < 0) then some (PV.sc (Value.int IntKind.i64 4), [])
            else
              bif decide (a3 > 60000) then some (PV.sc (Value.int IntKind.i64 4), [])
              else
                bif decide (a4 < 0) then some (PV.sc (Value.int IntKind.i64 4), [])
                else
                  bif decide (a4 ≥ 4) then some (PV.sc (Value.int IntKind.i64 4), [])
                  else some (PV.sc (Value.int IntKind.i64 0), [])))) := by kernel_rfl
noncomputable abbrev s59L (a0 : Int) := evFuncV Try.prog T0 noCuts Try.f59 (killA 0 [sI]) (showA 0 [sI] (a0, ())).1 (showA 0 [sI] (a0, ())).2
theorem s59 (a0 : Int) : s59L a0 = (some (PV.sc (Value.bool (a0 != a0)), [])) := by kernel_rfl
noncomputable abbrev s46L (a0 : Int) (a1 : Int) := evFuncV Try.prog U0 noCuts Try.f46 (killA 0 [sI, sI]) (showA 0 [sI, sI] (a0, (a1, ()))).1 (showA 0 [sI, sI] (a0, (a1, ()))).2
theorem s46 (a0 : Int) (a1 : Int) : s46L a0 a1 = (bif decide (a0 < a1) then some (PV.sc (Value.int IntKind.i64 (-1)), [])
else
  bif decide (a0 > a1) then some (PV.sc (Value.int IntKind.i64 1), []) else some (PV.sc (Value.int IntKind.i64 0), [])) := by kernel_rfl
theorem drop_cons {α : Type} {l : List α} {k : Nat} {x : α} (h : l[k]? = some x) : l.drop k = x :: l.drop (k + 1) := by
  obtain ⟨hk, rfl⟩ := List.getElem?_eq_some_iff.1 h
  exact List.drop_eq_getElem_cons hk
theorem get_ex {α : Type} {l : List α} {k : Nat} (h : k < l.length) : ∃ x, l[k]? = some x := ⟨l[k], List.getElem?_eq_getElem h⟩
theorem len_true {α : Type} (l : List α) : decide (l.length ≤ l.length) = true := by simp
theorem isIx_step {l : List Strip} {c : ByteArray} {k : Int} {x : Strip} (h0 : 0 ≤ k) (hx : l[k.toNat]? = some x) : isIx l c k = if isC c x then k else isIx l c (k + 1) := by
  unfold isIx
  rw [drop_cons hx, show (k + 1).toNat = k.toNat + 1 by omega]; rfl
theorem isIx_end {l : List Strip} {c : ByteArray} {k : Int} (h : (l.length : Int) ≤ k) : isIx l c k = -1 := by
  unfold isIx
  rw [List.drop_eq_nil_of_le (by omega)]; rfl
theorem q7a (l : List Strip) (nl : Bool) (c : ByteArray) (n k : Int) (h : preIx l n k = true) : s7aL l nl c n k = pickA (cX1 ((l, nl), (c, ()), n, k, ())).2 := by
  obtain ⟨h1, h2, h3, h4⟩ := of_decide_eq_true h
  show _ = cond (decide (0 ≤ isIx l c k)) (some (Xt.ret, [PV.sc (.int .i64 (isIx l c k))], [Blk.row false kS l, Blk.fix false [.sc (.string c)]])) (some (Xt.exit 0, [PV.undef], [Blk.row false kS l, Blk.fix false [.sc (.string c)]]))
  rw [s7a]
  simp only [List.take_length, Nat.zero_add, len_true, cond_true]
  refine cond_split (fun h => ?_) (fun h => ?_)
  · have h := of_decide_eq_true h
    obtain ⟨x, hx⟩ := get_ex (l := l) (k := k.toNat) (by omega)
    rw [isIx_step h2 hx, hx, IntWalk.i64_in (k + 1) (by omega)]
    refine guard_split (by simp; omega) ?_
    simp only [bindO]
    refine cond_split (fun h5 => ?_) (fun h5 => ?_)
    · rw [if_pos h5, show decide (0 ≤ k) = true from decide_eq_true h2]; rfl
    · rw [if_neg (by rw [h5]; simp)]
      exact guard_split (decide_eq_true (show (n - (k + 1)).toNat < (n - k).toNat by omega)) (guard_split (decide_eq_true (by omega)) rfl)
  · rw [isIx_end (by have := of_decide_eq_false h; omega)]; rfl
theorem q7b (l : List Strip) (nl : Bool) (c f : ByteArray) (t1 t2 t3 : Int) (n k : Int) (h : preIx l n k = true) : s7bL l nl c f t1 t2 t3 n k = pickA (cX2 ((l, nl), ((c, f, t1, t2, t3), ()), n, k, ())).2 := by
  obtain ⟨h1, h2, h3, h4⟩ := of_decide_eq_true h
  show _ = cond (decide (0 ≤ isIx l c k)) (some (Xt.ret, [PV.sc (.int .i64 (isIx l c k))], [Blk.row false kS l, Blk.fix false [.sc (.string c), .sc (.string f), .sc (.int .i64 t1), .sc (.int .i64 t2), .sc (.int .i64 t3)]])) (some (Xt.exit 0, [PV.undef], [Blk.row false kS l, Blk.fix false [.sc (.string c), .sc (.string f), .sc (.int .i64 t1), .sc (.int .i64 t2), .sc (.int .i64 t3)]]))
  rw [s7b]
  simp only [List.take_length, Nat.zero_add, len_true, cond_true]
  refine cond_split (fun h => ?_) (fun h => ?_)
  · have h := of_decide_eq_true h
    obtain ⟨x, hx⟩ := get_ex (l := l) (k := k.toNat) (by omega)
    rw [isIx_step h2 hx, hx, IntWalk.i64_in (k + 1) (by omega)]
    refine guard_split (by simp; omega) ?_
    simp only [bindO]
    refine cond_split (fun h5 => ?_) (fun h5 => ?_)
    · rw [if_pos h5, show decide (0 ≤ k) = true from decide_eq_true h2]; rfl
    · rw [if_neg (by rw [h5]; simp)]
      exact guard_split (decide_eq_true (show (n - (k + 1)).toNat < (n - k).toNat by omega)) (guard_split (decide_eq_true (by omega)) rfl)
  · rw [isIx_end (by have := of_decide_eq_false h; omega)]; rfl
theorem ixP_ge {α : Type} (p : α → Bool) : ∀ (l : List α) (k : Int), 0 ≤ k → ixP p k l = -1 ∨ k ≤ ixP p k l
  | [], k, _ => Or.inl rfl
  | x :: r, k, h => by
    unfold ixP
    split
    · right; omega
    · rcases ixP_ge p r (k + 1) (by omega) with h | h
      · exact Or.inl h
      · right; omega
theorem ix_or (B : List Blk) (l : List Strip) (c : ByteArray) :
    cond (decide (0 ≤ isIx l c 0)) (some (PV.sc (.int .i64 (isIx l c 0)), B)) (some (PV.sc (.int .i64 (-1)), B)) = some (PV.sc (.int .i64 (ixC c l)), B) := by
  have hi : isIx l c 0 = ixC c l := rfl
  rw [hi]
  refine cond_split (fun _ => rfl) (fun h => ?_)
  have h := of_decide_eq_false h
  rcases ixP_ge (isC c) l 0 (by omega) with h2 | h2
  · unfold ixC; rw [h2]
  · exact absurd h2 h
theorem q7c (l : List Strip) (nl : Bool) (c : ByteArray) (h : l.length ≤ 1000000) : s7cL l nl c = some (PV.sc (.int .i64 (ixC c l)), [Blk.row false kS l, Blk.fix false [.sc (.string c)]]) := by
  rw [s7c]
  simp only [List.take_length, Nat.zero_add, len_true, cond_true]
  exact guard_split (decide_eq_true (by omega)) (ix_or _ l c)
theorem q7d (l : List Strip) (nl : Bool) (c f : ByteArray) (t1 t2 t3 : Int) (h : l.length ≤ 1000000) : s7dL l nl c f t1 t2 t3 = some (PV.sc (.int .i64 (ixC c l)), [Blk.row false kS l, Blk.fix false [.sc (.string c), .sc (.string f), .sc (.int .i64 t1), .sc (.int .i64 t2), .sc (.int .i64 t3)]]) := by
  rw [s7d]
  simp only [List.take_length, Nat.zero_add, len_true, cond_true]
  exact guard_split (decide_eq_true (by omega)) (ix_or _ l c)
theorem q39a (l : List Int) (nl : Bool) (n k : Int) (h : preNm l n k = true) : s39aL l nl n k = pickA (cNm ((l, nl), n, k, ())).2 := by
  obtain ⟨h1, h2, h3, h4⟩ := of_decide_eq_true h
  show _ = cond (okL k (l.drop k.toNat)) (some (Xt.exit 0, [PV.undef], [Blk.row false (.int .u8) l])) (some (Xt.ret, [PV.sc (.bool false)], [Blk.row false (.int .u8) l]))
  rw [s39a]
  refine cond_split (fun h => ?_) (fun h => ?_)
  · have h := of_decide_eq_true h
    obtain ⟨c, hc⟩ := get_ex (l := l) (k := k.toNat) (by omega)
    refine guard_split (by simp; omega) ?_
    rw [drop_cons hc, Nat.zero_add, hc]
    simp only [bindO, List.take_length, Nat.zero_add]
    rw [IntWalk.i64_in (k + 1) (by omega), show (k + 1).toNat = k.toNat + 1 by omega]
    rw [show decide (l.length ≤ l.length) = true by simp]
    have hp : preNm l n (k + 1) = true := decide_eq_true (by omega)
    have hmu : decide (muNm ((l, nl), n, k + 1, ()) < muNm ((l, nl), n, k, ())) = true := decide_eq_true (show (n - (k + 1)).toNat < (n - k).toNat by omega)
    have hok : okL k (c :: l.drop (k.toNat + 1)) = (okC k c && okL (k + 1) (l.drop (k.toNat + 1))) := rfl
    rw [hok]
    unfold okC
    try simp only [cond_true]
    generalize decide (c ≥ 65) = b1, decide (c ≤ 90) = b2, decide (k > 0) = b3, decide (c ≥ 48) = b4, decide (c ≤ 57) = b5
    cases b1 <;> cases b2 <;> cases b3 <;> cases b4 <;> cases b5 <;> first | rfl | exact guard_split hmu (guard_split hp rfl)
  · have h := of_decide_eq_false h
    rw [List.drop_eq_nil_of_le (by omega)]; rfl
theorem bytes_len (s : ByteArray) : (bytesI s).length = s.size := by unfold bytesI; rw [List.length_map, Array.length_toList]; rfl
theorem q39 (s : ByteArray) (h : s.size ≤ 1000000000000000000) : s39L s = some (PV.sc (.bool (namS s)), []) := by
  rw [s39]
  have hl := bytes_len s
  have ht : List.take s.size (bytesI s) = bytesI s := List.take_of_length_le (by omega)
  rw [ht, show Int.toNat 0 = 0 from rfl, List.drop_zero, hl, Nat.zero_add, show decide (s.size ≤ s.size) = true by simp]
  refine guard_split (decide_eq_true (by omega)) (guard_split (decide_eq_true (by omega)) ?_)
  unfold namS
  have e : decide (s = ByteArray.mk #[]) = !decide (0 < s.size) := by
    rw [Bool.eq_iff_iff]
    simp only [decide_eq_true_eq, Bool.not_eq_true', decide_eq_false_iff_not]
    constructor
    · rintro rfl; decide
    · intro hz
      apply ByteArray.ext
      apply Array.ext'
      have : s.data.toList.length = 0 := by rw [Array.length_toList]; exact (show s.size = 0 by omega)
      rw [List.length_eq_zero_iff.1 this]
  have e2 : decide ((s.size : Int) ≤ 8) = decide (s.size ≤ 8) := decide_eq_decide.mpr (by omega)
  rw [e, e2, Bool.not_not]
  generalize okL 0 (bytesI s) = b1, decide (0 < s.size) = b2, decide (s.size ≤ 8) = b3
  cases b1 <;> cases b2 <;> cases b3 <;> rfl
theorem bytes_get (s : ByteArray) (k : Nat) (h : k < s.size) : ∃ x : UInt8, s[k]? = some x ∧ (bytesI s)[k]? = some (x.toNat : Int) := by
  have h2 : k < s.data.size := h
  refine ⟨s[k], getElem?_pos s k h, ?_⟩
  unfold bytesI
  rw [List.getElem?_map, Array.getElem?_toList, Array.getElem?_eq_getElem h2]; rfl
theorem q9a (s : ByteArray) (n k : Int) (h : preNm (bytesI s) n k = true) : s9aL s n k = pickA (cNr (s, n, k, ())).2 := by
  obtain ⟨h1, h2, h3, h4⟩ := of_decide_eq_true h
  have hl := bytes_len s
  show _ = cond (((bytesI s).drop k.toNat).all alnum) (some (Xt.exit 0, [PV.undef], [])) (some (Xt.ret, [PV.sc (.bool false)], []))
  rw [s9a]
  refine cond_split (fun h => ?_) (fun h => ?_)
  · have h := of_decide_eq_true h
    obtain ⟨x, hx, hc⟩ := bytes_get s k.toNat (by omega)
    refine guard_split (decide_eq_true h2) ?_
    rw [drop_cons hc, hx]
    simp only [bindO]
    rw [IntWalk.i64_in (k + 1) (by omega), show (k + 1).toNat = k.toNat + 1 by omega]
    have hp : preNm (bytesI s) n (k + 1) = true := decide_eq_true (by omega)
    have hmu : decide (muNr (s, n, k + 1, ()) < muNr (s, n, k, ())) = true := decide_eq_true (show (n - (k + 1)).toNat < (n - k).toNat by omega)
    rw [List.all_cons]
    unfold alnum
    generalize decide ((x.toNat : Int) ≥ 65) = b1, decide ((x.toNat : Int) ≤ 90) = b2, decide ((x.toNat : Int) ≥ 48) = b4, decide ((x.toNat : Int) ≤ 57) = b5
    cases b1 <;> cases b2 <;> cases b4 <;> cases b5 <;> first | rfl | exact guard_split hmu (guard_split hp rfl)
  · have h := of_decide_eq_false h
    rw [List.drop_eq_nil_of_le (by omega)]; rfl
theorem okL_pos : ∀ (l : List Int) (k : Int), 0 < k → okL k l = l.all alnum
  | [], k, _ => rfl
  | c :: r, k, h => by
    unfold okL okC
    rw [List.all_cons, okL_pos r (k + 1) (by omega), show decide (k > 0) = true from decide_eq_true h]
    unfold alnum
    rw [Bool.true_and]
theorem q9 (s : ByteArray) (h : s.size ≤ 1000000000000000000) : s9L s = some (PV.sc (.bool (namS s)), []) := by
  have hl := bytes_len s
  rw [s9, show Int.toNat 0 = 0 from rfl, List.drop_zero]
  unfold namS
  refine cond_split (fun h1 => ?_) (fun h1 => cond_split (fun h2 => ?_) (fun h2 => ?_))
  · have h1 := of_decide_eq_true h1
    rw [show decide (0 < s.size) = false from decide_eq_false (by omega), Bool.false_and, Bool.and_false]
  · have h2 := of_decide_eq_true h2
    rw [show decide (s.size ≤ 8) = false from decide_eq_false (by omega), Bool.and_false, Bool.and_false]
  · have h1 := of_decide_eq_false h1
    have h2 := of_decide_eq_false h2
    obtain ⟨x, hx, hc⟩ := bytes_get s 0 (by omega)
    rw [hx]
    simp only [bindO]
    rw [show decide (0 < s.size) = true from decide_eq_true (by omega), show decide (s.size ≤ 8) = true from decide_eq_true (by omega), Bool.and_true, Bool.and_true]
    have hd : bytesI s = (x.toNat : Int) :: (bytesI s).drop 1 := by
      have := drop_cons hc
      rwa [List.drop_zero] at this
    have hp : preNm (bytesI s) s.size 0 = true := decide_eq_true (by omega)
    rw [hp, hd]
    unfold okL okC
    rw [okL_pos _ _ (by omega), List.all_cons]
    unfold alnum
    simp only [show decide ((0 : Int) > 0) = false from rfl, Bool.false_and, Bool.or_false]
    generalize decide ((x.toNat : Int) ≥ 65) = b1, decide ((x.toNat : Int) ≤ 90) = b2, decide ((x.toNat : Int) ≥ 48) = b4, decide ((x.toNat : Int) ≤ 57) = b5
    generalize List.all _ _ = b6
    cases b1 <;> cases b2 <;> cases b6 <;> rfl
theorem q10 (a b c : Int) : s10L a b c = some (PV.sc (.bool (inS a b c)), []) := by
  rw [s10]; unfold inS
  cases decide (a ≥ b) <;> rfl
theorem q11 (a b c : Int) (h : decide (b = 0 ∧ 0 ≤ c ∧ c ≤ 1000) = true) : s11L a b c = some (PV.sc (.int .i64 (cutS a c)), []) := by
  obtain ⟨rfl, h1, h2⟩ := of_decide_eq_true h
  have hm := Int.tmod_lt_of_pos a (show 0 < c + 1 by omega)
  have hm2 : -(c + 1) < a.tmod (c + 1) := Int.lt_tmod_of_pos a (show 0 < c + 1 by omega)
  rw [s11, Int.sub_zero, IntWalk.i64_in c (by omega), IntWalk.i64_in (c + 1) (by omega)]
  refine guard_split (by simp; omega) ?_
  unfold cutS
  generalize a.tmod (c + 1) = t at *
  refine cond_split (fun h => ?_) (fun h => ?_)
  · rw [h, IntWalk.i64_in (t + (c + 1)) (by omega), Int.zero_add, IntWalk.i64_in (t + (c + 1)) (by omega)]; rfl
  · rw [h, Int.zero_add, IntWalk.i64_in t (by omega)]; rfl
theorem beqI (a b : Int) : (a == b) = decide (a = b) := rfl
theorem q42 (a b : Int) : s42L a b = some (PV.sc (.bool (perS a b)), []) := by
  rw [s42]; unfold perS
  simp only [beqI]
  generalize decide (a = 0) = b1, decide (a = 1) = b2, decide (a = 2) = b3, decide (b = 1) = b4, decide (b = 2) = b5, decide (b = 3) = b6
  cases b1 <;> cases b2 <;> cases b3 <;> cases b4 <;> cases b5 <;> cases b6 <;> rfl
theorem q5 (s : Strip) (h : okS s = true) : s5L s.1 s.2.1 s.2.2.1 s.2.2.2.1 s.2.2.2.2 = some (PV.sc (.int .i64 (chkS s)), []) := by
  obtain ⟨h1, h2⟩ := of_decide_eq_true h
  rw [s5]
  refine guard_split (decide_eq_true h1) ?_
  rw [show decide (s.2.1.size ≤ 1000000000000000000) = true from decide_eq_true h2]
  unfold chkS inS
  have e1 : decide (s.2.2.1 < 0) = !decide (s.2.2.1 ≥ 0) := by rw [Bool.eq_iff_iff]; simp
  have e2 : decide (s.2.2.1 > 200000) = !decide (s.2.2.1 ≤ 200000) := by rw [Bool.eq_iff_iff]; simp
  have e3 : decide (s.2.2.2.1 < 0) = !decide (s.2.2.2.1 ≥ 0) := by rw [Bool.eq_iff_iff]; simp
  have e4 : decide (s.2.2.2.1 > 60000) = !decide (s.2.2.2.1 ≤ 60000) := by rw [Bool.eq_iff_iff]; simp
  have e5 : decide (s.2.2.2.2 < 0) = !decide (s.2.2.2.2 ≥ 0) := by rw [Bool.eq_iff_iff]; simp
  have e6 : decide (s.2.2.2.2 ≥ 4) = !decide (s.2.2.2.2 ≤ 3) := by rw [Bool.eq_iff_iff]; simp; omega
  rw [e1, e2, e3, e4, e5, e6]
  generalize namS s.1 = b1, namS s.2.1 = b2, decide (s.2.2.1 ≥ 0) = b3, decide (s.2.2.1 ≤ 200000) = b4, decide (s.2.2.2.1 ≥ 0) = b5, decide (s.2.2.2.1 ≤ 60000) = b6, decide (s.2.2.2.2 ≥ 0) = b7, decide (s.2.2.2.2 ≤ 3) = b8
  cases b1 <;> cases b2 <;> cases b3 <;> cases b4 <;> cases b5 <;> cases b6 <;> cases b7 <;> cases b8 <;> rfl
theorem q59 (a : Int) : s59L a = some (PV.sc (.bool false), []) := by
  rw [s59]; simp
theorem q46 (a b : Int) : s46L a b = some (PV.sc (.int .i64 (cmpI a b)), []) := by
  rw [s46]; unfold cmpI
  cases decide (a < b) <;> cases decide (a > b) <;> rfl
theorem U0_ok : TableOK Try.prog U0 := ext_ok (entV_ok Try.call59 (liftV (T0_ok _) mixed Try.func59 (show Try.f59.body = some (bodyF Try.f59) from rfl) (noCuts_ok _) (by decide) fun v _ => q59 v.1)) (T0_ok _)
theorem U1_ok : TableOK Try.prog U1 :=
  ext_ok (entV_ok Try.call57 (liftV (T0_ok _) mixed Try.func57 (show Try.f57.body = some (bodyF Try.f57) from rfl) (noCuts_ok _) (by decide) fun v _ => s57 v.1.1 v.1.2.1 v.1.2.2.1 v.1.2.2.2.1 v.1.2.2.2.2 v.2.1)) <|
  ext_ok (entV_ok Try.call8 (liftV (T0_ok _) mixed Try.func8 (show Try.f8.body = some (bodyF Try.f8) from rfl) (noCuts_ok _) (by decide) fun v _ => s8 v.1.1 v.1.2.1 v.1.2.2.1 v.1.2.2.2.1 v.1.2.2.2.2 v.2.1.1 v.2.1.2.1 v.2.1.2.2.1 v.2.1.2.2.2.1 v.2.1.2.2.2.2)) <|
  ext_ok (entV_ok Try.call39 (liftV U0_ok mixed Try.func39 (show Try.f39.body = some (bodyF Try.f39) from rfl) (cut_cons (by kernel_rfl) (loop_cutW U0_ok mixed muNm (by kernel_rfl) (noCuts_ok _) fun v h => q39a v.1.1 v.1.2 v.2.1 v.2.2.1 h) (noCuts_ok _)) (by decide) fun v h => q39 v.1 (of_decide_eq_true h))) <|
  ext_ok (entV_ok Try.call9 (liftV U0_ok mixed Try.func9 (show Try.f9.body = some (bodyF Try.f9) from rfl) (cut_cons (by kernel_rfl) (loop_cutW U0_ok mixed muNr (by kernel_rfl) (noCuts_ok _) fun v h => q9a v.1 v.2.1 v.2.2.1 h) (noCuts_ok _)) (by decide) fun v h => q9 v.1 (of_decide_eq_true h))) <|
  ext_ok (entV_ok Try.call10 (liftV (T0_ok _) mixed Try.func10 (show Try.f10.body = some (bodyF Try.f10) from rfl) (noCuts_ok _) (by decide) fun v _ => q10 v.1 v.2.1 v.2.2.1)) <|
  ext_ok (entV_ok Try.call11 (liftV (T0_ok _) mixed Try.func11 (show Try.f11.body = some (bodyF Try.f11) from rfl) (noCuts_ok _) (by decide) fun v h => q11 v.1 v.2.1 v.2.2.1 h)) <|
  ext_ok (entV_ok Try.call42 (liftV (T0_ok _) mixed Try.func42 (show Try.f42.body = some (bodyF Try.f42) from rfl) (noCuts_ok _) (by decide) fun v _ => q42 v.1 v.2.1)) <|
  ext_ok (entV_ok Try.call46 (liftV U0_ok mixed Try.func46 (show Try.f46.body = some (bodyF Try.f46) from rfl) (noCuts_ok _) (by decide) fun v _ => q46 v.1 v.2.1)) U0_ok
theorem e7a : EntOK Try.prog 7 (entV kF1 (specP kF1 [sI] (fun v => decide (v.1.1.length ≤ 1000000)) fun v => (ixC v.2.1.1 v.1.1, ()))) :=
  entV_ok Try.call7 (liftV U1_ok mixed Try.func7 (show Try.f7.body = some (bodyF Try.f7) from rfl) (cut_cons (by kernel_rfl) (loop_cutW U1_ok mixed muX1 (by kernel_rfl) (noCuts_ok _) fun v h => q7a v.1.1 v.1.2 v.2.1.1 v.2.2.1 v.2.2.2.1 h) (noCuts_ok _)) (by decide) fun v h => q7c v.1.1 v.1.2 v.2.1.1 (of_decide_eq_true h))
theorem e7b : EntOK Try.prog 7 (entV kF2 (specP kF2 [sI] (fun v => decide (v.1.1.length ≤ 1000000)) fun v => (ixC v.2.1.1.1 v.1.1, ()))) :=
  entV_ok Try.call7 (liftV U1_ok mixed Try.func7 (show Try.f7.body = some (bodyF Try.f7) from rfl) (cut_cons (by kernel_rfl) (loop_cutW U1_ok mixed muX2 (by kernel_rfl) (noCuts_ok _) fun v h => q7b v.1.1 v.1.2 v.2.1.1.1 v.2.1.1.2.1 v.2.1.1.2.2.1 v.2.1.1.2.2.2.1 v.2.1.1.2.2.2.2 v.2.2.1 v.2.2.2.1 h) (noCuts_ok _)) (by decide) fun v h => q7d v.1.1 v.1.2 v.2.1.1.1 v.2.1.1.2.1 v.2.1.1.2.2.1 v.2.1.1.2.2.2.1 v.2.1.1.2.2.2.2 (of_decide_eq_true h))
theorem e7c : EntOK Try.prog 7 (entV kG1 (specP kG1 [sI] (fun _ => true) fun _ => (-1, ()))) := entV_ok Try.call7 (liftV U1_ok mixed Try.func7 (show Try.f7.body = some (bodyF Try.f7) from rfl) (noCuts_ok _) (by decide) fun v _ => s7e v.2.1.1)
theorem e7d : EntOK Try.prog 7 (entV kG2 (specP kG2 [sI] (fun _ => true) fun _ => (-1, ()))) := entV_ok Try.call7 (liftV U1_ok mixed Try.func7 (show Try.f7.body = some (bodyF Try.f7) from rfl) (noCuts_ok _) (by decide) fun v _ => s7f v.2.1.1.1 v.2.1.1.2.1 v.2.1.1.2.2.1 v.2.1.1.2.2.2.1 v.2.1.1.2.2.2.2)
def W2 : TabEnt := orE (orE (entV kF1 (specP kF1 [sI] (fun v => decide (v.1.1.length ≤ 1000000)) fun v => (ixC v.2.1.1 v.1.1, ()))) (entV kF2 (specP kF2 [sI] (fun v => decide (v.1.1.length ≤ 1000000)) fun v => (ixC v.2.1.1.1 v.1.1, ()))))
    (orE (entV kG1 (specP kG1 [sI] (fun _ => true) fun _ => (-1, ()))) (entV kG2 (specP kG2 [sI] (fun _ => true) fun _ => (-1, ()))))
theorem e7 : EntOK Try.prog 7 W2 := orE_ok (orE_ok e7a e7b) (orE_ok e7c e7d)
theorem e5 : EntOK Try.prog 5 (entV [sSt] (specP [sSt] [sI] (fun v => okS v.1) fun v => (chkS v.1, ()))) := entV_ok Try.call5 (liftV U1_ok mixed Try.func5 (show Try.f5.body = some (bodyF Try.f5) from rfl) (noCuts_ok _) (by decide) fun v h => q5 v.1 h)
theorem U2_ok : TableOK Try.prog U2 := ext_ok e7 (ext_ok e5 U1_ok)
end Go.Proofs.YtokephobkllfgaaSs
