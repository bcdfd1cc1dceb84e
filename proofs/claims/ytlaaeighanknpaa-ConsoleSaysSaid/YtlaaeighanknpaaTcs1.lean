/- What is proved: the functions that the law ConsoleSays reaches answer what their plain functions say. No condition. -/
import Derived.Test.YtlaaeighanknpaaTcs0
namespace Go.Proofs.YtlaaeighanknpaaCs
open Go Go.Proofs Go.Proofs.YtlaaeighanknpaaEv
set_option maxRecDepth 100000
set_option linter.unusedSimpArgs false
set_option linter.unusedVariables false
theorem mixed : Try.prog.follows .mixedOrders = true := by kernel_rfl
noncomputable abbrev s70L := evFuncV Try.prog T0 noCuts Try.f70 (killA 0 []) (showA 0 [] ()).1 (showA 0 [] ()).2
theorem s70 : s70L = (some
  (PV.sl 0 0 5 10 10 false false,
    [Blk.row true (Kd.str.pair (Kd.bool.pair (Kd.bool.pair ((Kd.int IntKind.i64).pair (Kd.int IntKind.i64)))))
        [(ByteArray.mk #[97, 99, 99, 101, 112, 116], false, false, 0, -1),
          (ByteArray.mk #[99, 111, 110, 116, 97, 99, 116], false, true, 0, 5),
          (ByteArray.mk #[100, 105, 114, 101, 99, 116], false, true, 0, 3),
          (ByteArray.mk #[100, 114, 111, 112], false, false, 0, -1),
          (ByteArray.mk #[104, 101, 97, 100, 105, 110, 103], true, false, 4095, 1),
          (ByteArray.mk #[104, 101, 105, 103, 104, 116], true, false, 60000, 0),
          (ByteArray.mk #[104, 111, 108, 100], false, true, 0, 4),
          (ByteArray.mk #[108, 97, 110, 100], false, true, 0, 6),
          (ByteArray.mk #[111, 102, 102, 101, 114], false, true, 0, -1),
          (ByteArray.mk #[115, 112, 101, 101, 100], true, false, 400, 2)]])) := by kernel_rfl
noncomputable abbrev s93L (a0 : ByteArray) (a1 : Bool) (a2 : Bool) (a3 : Int) (a4 : Int) (a5 : ByteArray) := evFuncV Try.prog T0 noCuts Try.f93 (killA 0 [sV, .s (.bx ⟨false, .str⟩)]) (showA 0 [sV, .s (.bx ⟨false, .str⟩)] ((a0, (a1, (a2, (a3, a4)))), (a5, ()))).1 (showA 0 [sV, .s (.bx ⟨false, .str⟩)] ((a0, (a1, (a2, (a3, a4)))), (a5, ()))).2
theorem s93 (a0 : ByteArray) (a1 : Bool) (a2 : Bool) (a3 : Int) (a4 : Int) (a5 : ByteArray) : s93L a0 a1 a2 a3 a4 a5 = (some (PV.sc (Value.bool (decide (a0 = a5))), [Blk.fix false [PV.sc (Value.string a5)]])) := by kernel_rfl
noncomputable abbrev s92aL (a0 : List (ByteArray × Bool × Bool × Int × Int)) (a1 : Bool) (a2 : ByteArray) (a3 : Int) (a4 : Int) := evRound Try.prog T1 noCuts 19 (loopOf (codeAt 0 (bodyF Try.f92))) kIx muIx (killA 0 kIx) [0, 1, 7, 8] [4] cIx ((a0, a1), ((a2, ()), (a3, (a4, ()))))
theorem s92a (a0 : List (ByteArray × Bool × Bool × Int × Int)) (a1 : Bool) (a2 : ByteArray) (a3 : Int) (a4 : Int) : s92aL a0 a1 a2 a3 a4 = (bif decide (a4 < a3) then
  guardB (decide (0 ≤ a4) && decide (a4 < (↑a0.length : Int)))
    (bindO a0[0 + a4.toNat]? fun x =>
      bif isV a2 (x.fst, x.snd.fst, x.snd.snd.fst, x.snd.snd.snd.fst, x.snd.snd.snd.snd) then
        some
          (Xt.ret, [PV.sc (Value.int IntKind.i64 a4)],
            [Blk.row false (Kd.str.pair (Kd.bool.pair (Kd.bool.pair ((Kd.int IntKind.i64).pair (Kd.int IntKind.i64)))))
                a0,
              Blk.fix false [PV.sc (Value.string a2)]])
      else
        guardB
          (decide
            (muIx ((List.take a0.length a0, a1), (a2, PUnit.unit), a3, IntKind.i64.wrap (a4 + 1), PUnit.unit) <
              muIx ((a0, a1), (a2, ()), a3, a4, ())))
          (guardB
            (bif decide (0 + a0.length ≤ a0.length) then preIx (List.take a0.length a0) a3 (IntKind.i64.wrap (a4 + 1))
            else false)
            (bif decide (0 ≤ isIx (List.take a0.length a0) a2 (IntKind.i64.wrap (a4 + 1))) then
              some
                (Xt.ret, [PV.sc (Value.int IntKind.i64 (isIx (List.take a0.length a0) a2 (IntKind.i64.wrap (a4 + 1))))],
                  [Blk.row false
                      (Kd.str.pair (Kd.bool.pair (Kd.bool.pair ((Kd.int IntKind.i64).pair (Kd.int IntKind.i64))))) a0,
                    Blk.fix false [PV.sc (Value.string a2)]])
            else
              some
                (Xt.exit 0, [PV.undef],
                  [Blk.row false
                      (Kd.str.pair (Kd.bool.pair (Kd.bool.pair ((Kd.int IntKind.i64).pair (Kd.int IntKind.i64))))) a0,
                    Blk.fix false [PV.sc (Value.string a2)]]))))
else
  some
    (Xt.exit 0, [PV.undef],
      [Blk.row false (Kd.str.pair (Kd.bool.pair (Kd.bool.pair ((Kd.int IntKind.i64).pair (Kd.int IntKind.i64))))) a0,
        Blk.fix false [PV.sc (Value.string a2)]])) := by kernel_rfl
noncomputable abbrev s92L (a0 : List (ByteArray × Bool × Bool × Int × Int)) (a1 : Bool) (a2 : ByteArray) := evFuncV Try.prog T1 (addCut 0 [0, 1, 7, 8] [4] (entC kIx cIx) noCuts) Try.f92 (killA 0 kIf) (showA 0 kIf ((a0, a1), ((a2, ()), ()))).1 (showA 0 kIf ((a0, a1), ((a2, ()), ()))).2
theorem s92 (a0 : List (ByteArray × Bool × Bool × Int × Int)) (a1 : Bool) (a2 : ByteArray) : s92L a0 a1 a2 = (guardB (bif decide (0 + a0.length ≤ a0.length) then preIx (List.take a0.length a0) (↑a0.length : Int) 0 else false)
  (bif decide (0 ≤ isIx (List.take a0.length a0) a2 0) then
    some
      (PV.sc (Value.int IntKind.i64 (isIx (List.take a0.length a0) a2 0)),
        [Blk.row false (Kd.str.pair (Kd.bool.pair (Kd.bool.pair ((Kd.int IntKind.i64).pair (Kd.int IntKind.i64))))) a0,
          Blk.fix false [PV.sc (Value.string a2)]])
  else
    some
      (PV.sc (Value.int IntKind.i64 (-1)),
        [Blk.row false (Kd.str.pair (Kd.bool.pair (Kd.bool.pair ((Kd.int IntKind.i64).pair (Kd.int IntKind.i64))))) a0,
          Blk.fix false [PV.sc (Value.string a2)]]))) := by kernel_rfl
noncomputable abbrev s82L (a0 : ByteArray) := evFuncV Try.prog T2 noCuts Try.f82 (killA 0 [sS]) (showA 0 [sS] (a0, ())).1 (showA 0 [sS] (a0, ())).2
theorem s82 (a0 : ByteArray) : s82L a0 = (bif
    decide
      (ixP (isV a0) 0
          [(ByteArray.mk #[97, 99, 99, 101, 112, 116], false, false, 0, -1),
            (ByteArray.mk #[99, 111, 110, 116, 97, 99, 116], false, true, 0, 5),
            (ByteArray.mk #[100, 105, 114, 101, 99, 116], false, true, 0, 3),
            (ByteArray.mk #[100, 114, 111, 112], false, false, 0, -1),
            (ByteArray.mk #[104, 101, 97, 100, 105, 110, 103], true, false, 4095, 1),
            (ByteArray.mk #[104, 101, 105, 103, 104, 116], true, false, 60000, 0),
            (ByteArray.mk #[104, 111, 108, 100], false, true, 0, 4),
            (ByteArray.mk #[108, 97, 110, 100], false, true, 0, 6),
            (ByteArray.mk #[111, 102, 102, 101, 114], false, true, 0, -1),
            (ByteArray.mk #[115, 112, 101, 101, 100], true, false, 400, 2)] <
        0) then
  some
    (PV.tup
        [PV.agg
            [PV.sc (Value.string (ByteArray.mk #[])), PV.sc (Value.bool false), PV.sc (Value.bool false),
              PV.sc (Value.int IntKind.i64 0), PV.sc (Value.int IntKind.i64 0)],
          PV.sc (Value.bool false)],
      [])
else
  guardB
    (decide
        (0 ≤
          ixP (isV a0) 0
            [(ByteArray.mk #[97, 99, 99, 101, 112, 116], false, false, 0, -1),
              (ByteArray.mk #[99, 111, 110, 116, 97, 99, 116], false, true, 0, 5),
              (ByteArray.mk #[100, 105, 114, 101, 99, 116], false, true, 0, 3),
              (ByteArray.mk #[100, 114, 111, 112], false, false, 0, -1),
              (ByteArray.mk #[104, 101, 97, 100, 105, 110, 103], true, false, 4095, 1),
              (ByteArray.mk #[104, 101, 105, 103, 104, 116], true, false, 60000, 0),
              (ByteArray.mk #[104, 111, 108, 100], false, true, 0, 4),
              (ByteArray.mk #[108, 97, 110, 100], false, true, 0, 6),
              (ByteArray.mk #[111, 102, 102, 101, 114], false, true, 0, -1),
              (ByteArray.mk #[115, 112, 101, 101, 100], true, false, 400, 2)]) &&
      decide
        (ixP (isV a0) 0
            [(ByteArray.mk #[97, 99, 99, 101, 112, 116], false, false, 0, -1),
              (ByteArray.mk #[99, 111, 110, 116, 97, 99, 116], false, true, 0, 5),
              (ByteArray.mk #[100, 105, 114, 101, 99, 116], false, true, 0, 3),
              (ByteArray.mk #[100, 114, 111, 112], false, false, 0, -1),
              (ByteArray.mk #[104, 101, 97, 100, 105, 110, 103], true, false, 4095, 1),
              (ByteArray.mk #[104, 101, 105, 103, 104, 116], true, false, 60000, 0),
              (ByteArray.mk #[104, 111, 108, 100], false, true, 0, 4),
              (ByteArray.mk #[108, 97, 110, 100], false, true, 0, 6),
              (ByteArray.mk #[111, 102, 102, 101, 114], false, true, 0, -1),
              (ByteArray.mk #[115, 112, 101, 101, 100], true, false, 400, 2)] <
          10))
    (bindO
      [(ByteArray.mk #[97, 99, 99, 101, 112, 116], false, false, 0, -1),
          (ByteArray.mk #[99, 111, 110, 116, 97, 99, 116], false, true, 0, 5),
          (ByteArray.mk #[100, 105, 114, 101, 99, 116], false, true, 0, 3),
          (ByteArray.mk #[100, 114, 111, 112], false, false, 0, -1),
          (ByteArray.mk #[104, 101, 97, 100, 105, 110, 103], true, false, 4095, 1),
          (ByteArray.mk #[104, 101, 105, 103, 104, 116], true, false, 60000, 0),
          (ByteArray.mk #[104, 111, 108, 100], false, true, 0, 4),
          (ByteArray.mk #[108, 97, 110, 100], false, true, 0, 6),
          (ByteArray.mk #[111, 102, 102, 101, 114], false, true, 0, -1),
          (ByteArray.mk #[115, 112, 101, 101, 100], true, false, 400,
            2)][0 +
          (ixP (isV a0) 0
              [(ByteArray.mk #[97, 99, 99, 101, 112, 116], false, false, 0, -1),
                (ByteArray.mk #[99, 111, 110, 116, 97, 99, 116], false, true, 0, 5),
                (ByteArray.mk #[100, 105, 114, 101, 99, 116], false, true, 0, 3),
                (ByteArray.mk #[100, 114, 111, 112], false, false, 0, -1),
                (ByteArray.mk #[104, 101, 97, 100, 105, 110, 103], true, false, 4095, 1),
                (ByteArray.mk #[104, 101, 105, 103, 104, 116], true, false, 60000, 0),
                (ByteArray.mk #[104, 111, 108, 100], false, true, 0, 4),
                (ByteArray.mk #[108, 97, 110, 100], false, true, 0, 6),
                (ByteArray.mk #[111, 102, 102, 101, 114], false, true, 0, -1),
                (ByteArray.mk #[115, 112, 101, 101, 100], true, false, 400, 2)]).toNat]?
      fun x =>
      some
        (PV.tup
            [PV.agg
                [PV.sc (Value.string x.fst), PV.sc (Value.bool x.snd.fst), PV.sc (Value.bool x.snd.snd.fst),
                  PV.sc (Value.int IntKind.i64 x.snd.snd.snd.fst), PV.sc (Value.int IntKind.i64 x.snd.snd.snd.snd)],
              PV.sc (Value.bool true)],
          []))) := by kernel_rfl
noncomputable abbrev s83aL (a0 : List Int) (a1 : Bool) (a2 : Int) (a3 : Int) := evRound Try.prog T0 noCuts 40 (loopOf (codeAt 0 (bodyF Try.f83))) kNm muNm (killA 0 kNm) [6, 7, 8] [2] cNm ((a0, a1), (a2, (a3, ())))
theorem s83a (a0 : List Int) (a1 : Bool) (a2 : Int) (a3 : Int) : s83aL a0 a1 a2 a3 = (bif decide (a3 < a2) then
  guardB (decide (0 ≤ a3) && decide (a3 < (↑a0.length : Int)))
    (bindO a0[0 + a3.toNat]? fun x =>
      bif decide (x ≥ 65) then
        bif decide (x ≤ 90) then
          guardB
            (decide
              (muNm ((List.take a0.length a0, a1), a2, IntKind.i64.wrap (a3 + 1), PUnit.unit) <
                muNm ((a0, a1), a2, a3, ())))
            (guardB
              (bif decide (0 + a0.length ≤ a0.length) then preNm (List.take a0.length a0) a2 (IntKind.i64.wrap (a3 + 1))
              else false)
              (bif
                  okL (IntKind.i64.wrap (a3 + 1))
                    (List.drop (IntKind.i64.wrap (a3 + 1)).toNat (List.take a0.length a0)) then
                some (Xt.exit 0, [PV.undef], [Blk.row false (Kd.int IntKind.u8) a0])
              else some (Xt.ret, [PV.sc (Value.bool false)], [Blk.row false (Kd.int IntKind.u8) a0])))
        else
          bif decide (a3 > 0) then
            bif decide (x ≥ 48) then
              bif !decide (x ≤ 57) then
                some (Xt.ret, [PV.sc (Value.bool false)], [Blk.row false (Kd.int IntKind.u8) a0])
              else
                guardB
                  (decide
                    (muNm ((List.take a0.length a0, a1), a2, IntKind.i64.wrap (a3 + 1), PUnit.unit) <
                      muNm ((a0, a1), a2, a3, ())))
                  (guardB
                    (bif decide (0 + a0.length ≤ a0.length) then
                      preNm (List.take a0.length a0) a2 (IntKind.i64.wrap (a3 + 1))
                    else false)
                    (bif
                        okL (IntKind.i64.wrap (a3 + 1))
                          (List.drop (IntKind.i64.wrap (a3 + 1)).toNat (List.take a0.length a0)) then
                      some (Xt.exit 0, [PV.undef], [Blk.row false (Kd.int IntKind.u8) a0])
                    else some (Xt.ret, [PV.sc (Value.bool false)], [Blk.row false (Kd.int IntKind.u8) a0])))
            else some (Xt.ret, [PV.sc (Value.bool false)], [Blk.row false (Kd.int IntKind.u8) a0])
          else some (Xt.ret, [PV.sc (Value.bool false)], [Blk.row false (Kd.int IntKind.u8) a0])
      else
        bif decide (a3 > 0) then
          bif decide (x ≥ 48) then
            bif !decide (x ≤ 57) then some (Xt.ret, [PV.sc (Value.bool false)], [Blk.row false (Kd.int IntKind.u8) a0])
            else
              guardB
                (decide
                  (muNm ((List.take a0.length a0, a1), a2, IntKind.i64.wrap (a3 + 1), PUnit.unit) <
                    muNm ((a0, a1), a2, a3, ())))
                (guardB
                  (bif decide (0 + a0.length ≤ a0.length) then
                    preNm (List.take a0.length a0) a2 (IntKind.i64.wrap (a3 + 1))
                  else false)
                  (bif
                      okL (IntKind.i64.wrap (a3 + 1))
                        (List.drop (IntKind.i64.wrap (a3 + 1)).toNat (List.take a0.length a0)) then
                    some (Xt.exit 0, [PV.undef], [Blk.row false (Kd.int IntKind.u8) a0])
                  else some (Xt.ret, [PV.sc (Value.bool false)], [Blk.row false (Kd.int IntKind.u8) a0])))
          else some (Xt.ret, [PV.sc (Value.bool false)], [Blk.row false (Kd.int IntKind.u8) a0])
        else some (Xt.ret, [PV.sc (Value.bool false)], [Blk.row false (Kd.int IntKind.u8) a0]))
else some (Xt.exit 0, [PV.undef], [Blk.row false (Kd.int IntKind.u8) a0])) := by kernel_rfl
noncomputable abbrev s83L (a0 : ByteArray) := evFuncV Try.prog T2 (addCut 0 [6, 7, 8] [2] (entC kNm cNm) noCuts) Try.f83 (killA 0 [sS]) (showA 0 [sS] (a0, ())).1 (showA 0 [sS] (a0, ())).2
theorem s83 (a0 : ByteArray) : s83L a0 = (guardB
  (bif decide (0 + a0.size ≤ (bytesI a0).length) then preNm (List.take a0.size (bytesI a0)) (↑a0.size : Int) 0
  else false)
  (bif okL 0 (List.drop (Int.toNat 0) (List.take a0.size (bytesI a0))) then
    bif !decide (a0 = ByteArray.mk #[]) then some (PV.sc (Value.bool (decide ((↑a0.size : Int) ≤ 8))), [])
    else some (PV.sc (Value.bool false), [])
  else some (PV.sc (Value.bool false), []))) := by kernel_rfl
noncomputable abbrev s50aL (a0 : ByteArray) (a1 : Int) (a2 : Int) := evRound Try.prog T0 noCuts 49 (loopOf (codeAt 0 (bodyF Try.f50))) kNr muNr (killA 0 kNr) [0, 25, 26] [2] cNr (a0, (a1, (a2, ())))
theorem s50a (a0 : ByteArray) (a1 : Int) (a2 : Int) : s50aL a0 a1 a2 = (bif decide (a2 < a1) then
  guardB (decide (0 ≤ a2))
    (bindO a0[a2.toNat]? fun x =>
      bif decide ((↑x.toNat : Int) ≥ 65) then
        bif !decide ((↑x.toNat : Int) ≤ 90) then
          bif decide ((↑x.toNat : Int) ≥ 48) then
            bif !decide ((↑x.toNat : Int) ≤ 57) then some (Xt.ret, [PV.sc (Value.bool false)], [])
            else
              guardB (decide (muNr (a0, a1, IntKind.i64.wrap (a2 + 1), PUnit.unit) < muNr (a0, a1, a2, ())))
                (guardB (preNm (bytesI a0) a1 (IntKind.i64.wrap (a2 + 1)))
                  (bif (List.drop (IntKind.i64.wrap (a2 + 1)).toNat (bytesI a0)).all alnum then
                    some (Xt.exit 0, [PV.undef], [])
                  else some (Xt.ret, [PV.sc (Value.bool false)], [])))
          else some (Xt.ret, [PV.sc (Value.bool false)], [])
        else
          guardB (decide (muNr (a0, a1, IntKind.i64.wrap (a2 + 1), PUnit.unit) < muNr (a0, a1, a2, ())))
            (guardB (preNm (bytesI a0) a1 (IntKind.i64.wrap (a2 + 1)))
              (bif (List.drop (IntKind.i64.wrap (a2 + 1)).toNat (bytesI a0)).all alnum then
                some (Xt.exit 0, [PV.undef], [])
              else some (Xt.ret, [PV.sc (Value.bool false)], [])))
      else
        bif decide ((↑x.toNat : Int) ≥ 48) then
          bif !decide ((↑x.toNat : Int) ≤ 57) then some (Xt.ret, [PV.sc (Value.bool false)], [])
          else
            guardB (decide (muNr (a0, a1, IntKind.i64.wrap (a2 + 1), PUnit.unit) < muNr (a0, a1, a2, ())))
              (guardB (preNm (bytesI a0) a1 (IntKind.i64.wrap (a2 + 1)))
                (bif (List.drop (IntKind.i64.wrap (a2 + 1)).toNat (bytesI a0)).all alnum then
                  some (Xt.exit 0, [PV.undef], [])
                else some (Xt.ret, [PV.sc (Value.bool false)], [])))
        else some (Xt.ret, [PV.sc (Value.bool false)], []))
else some (Xt.exit 0, [PV.undef], [])) := by kernel_rfl
noncomputable abbrev s50L (a0 : ByteArray) := evFuncV Try.prog T2 (addCut 0 [0, 25, 26] [2] (entC kNr cNr) noCuts) Try.f50 (killA 0 [sS]) (showA 0 [sS] (a0, ())).1 (showA 0 [sS] (a0, ())).2
theorem s50 (a0 : ByteArray) : s50L a0 = (bif decide ((↑a0.size : Int) < 1) then some (PV.sc (Value.bool false), [])
else
  bif decide ((↑a0.size : Int) > 8) then some (PV.sc (Value.bool false), [])
  else
    bindO a0[Int.toNat 0]? fun x =>
      bif decide ((↑x.toNat : Int) ≥ 65) then
        bindO a0[Int.toNat 0]? fun x =>
          bif !decide ((↑x.toNat : Int) ≤ 90) then some (PV.sc (Value.bool false), [])
          else
            guardB (preNm (bytesI a0) (↑a0.size : Int) 0)
              (bif (List.drop (Int.toNat 0) (bytesI a0)).all alnum then some (PV.sc (Value.bool true), [])
              else some (PV.sc (Value.bool false), []))
      else some (PV.sc (Value.bool false), [])) := by kernel_rfl
noncomputable abbrev s51L (a0 : ByteArray) (a1 : ByteArray) (a2 : Int) (a3 : ByteArray) := evFuncV Try.prog T3 noCuts Try.f51 (killA 0 [sCmd]) (showA 0 [sCmd] ((a0, (a1, (a2, a3))), ())).1 (showA 0 [sCmd] ((a0, (a1, (a2, a3))), ())).2
theorem s51 (a0 : ByteArray) (a1 : ByteArray) (a2 : Int) (a3 : ByteArray) : s51L a0 a1 a2 a3 = (bif !(findS a0).snd then some (PV.sc (Value.int IntKind.i64 5), [])
else
  guardB (decide (a1.size ≤ 1000000000000000000))
    (bif !namS a1 then some (PV.sc (Value.int IntKind.i64 6), [])
    else
      bif (findS a0).fst.snd.snd.fst then
        guardB (decide (a3.size ≤ 1000000000000000000))
          (bif !namS a3 then some (PV.sc (Value.int IntKind.i64 6), [])
          else
            bif !(findS a0).fst.snd.snd.fst then
              bif !decide (a3 = ByteArray.mk #[]) then some (PV.sc (Value.int IntKind.i64 3), [])
              else
                bif !(findS a0).fst.snd.fst then
                  bif a2 != 0 then some (PV.sc (Value.int IntKind.i64 3), [])
                  else
                    bif decide (a2 < 0) then some (PV.sc (Value.int IntKind.i64 4), [])
                    else
                      bif decide (a2 > (findS a0).fst.snd.snd.snd.fst) then some (PV.sc (Value.int IntKind.i64 4), [])
                      else some (PV.sc (Value.int IntKind.i64 0), [])
                else
                  bif decide (a2 < 0) then some (PV.sc (Value.int IntKind.i64 4), [])
                  else
                    bif decide (a2 > (findS a0).fst.snd.snd.snd.fst) then some (PV.sc (Value.int IntKind.i64 4), [])
                    else some (PV.sc (Value.int IntKind.i64 0), [])
            else
              bif !(findS a0).fst.snd.fst then
                bif a2 != 0 then some (PV.sc (Value.int IntKind.i64 3), [])
                else
                  bif decide (a2 < 0) then some (PV.sc (Value.int IntKind.i64 4), [])
                  else
                    bif decide (a2 > (findS a0).fst.snd.snd.snd.fst) then some (PV.sc (Value.int IntKind.i64 4), [])
                    else some (PV.sc (Value.int IntKind.i64 0), [])
              else
                bif decide (a2 < 0) then some (PV.sc (Value.int IntKind.i64 4), [])
                else
                  bif decide (a2 > (findS a0).fst.snd.snd.snd.fst) then some (PV.sc (Value.int IntKind.i64 4), [])
                  else some (PV.sc (Value.int IntKind.i64 0), []))
      else
        bif !(findS a0).fst.snd.snd.fst then
          bif !decide (a3 = ByteArray.mk #[]) then some (PV.sc (Value.int IntKind.i64 3), [])
          else
            bif !(findS a0).fst.snd.fst then
              bif a2 != 0 then some (PV.sc (Value.int IntKind.i64 3), [])
              else
                bif decide (a2 < 0) then some (PV.sc (Value.int IntKind.i64 4), [])
                else
                  bif decide (a2 > (findS a0).fst.snd.snd.snd.fst) then some (PV.sc (Value.int IntKind.i64 4), [])
                  else some (PV.sc (Value.int IntKind.i64 0), [])
            else
              bif decide (a2 < 0) then some (PV.sc (Value.int IntKind.i64 4), [])
              else
                bif decide (a2 > (findS a0).fst.snd.snd.snd.fst) then some (PV.sc (Value.int IntKind.i64 4), [])
                else some (PV.sc (Value.int IntKind.i64 0), [])
        else
          bif !(findS a0).fst.snd.fst then
            bif a2 != 0 then some (PV.sc (Value.int IntKind.i64 3), [])
            else
              bif decide (a2 < 0) then some (PV.sc (Value.int IntKind.i64 4), [])
              else
                bif decide (a2 > (findS a0).fst.snd.snd.snd.fst) then some (PV.sc (Value.int IntKind.i64 4), [])
                else some (PV.sc (Value.int IntKind.i64 0), [])
          else
            bif decide (a2 < 0) then some (PV.sc (Value.int IntKind.i64 4), [])
            else
              bif decide (a2 > (findS a0).fst.snd.snd.snd.fst) then some (PV.sc (Value.int IntKind.i64 4), [])
              else some (PV.sc (Value.int IntKind.i64 0), []))) := by kernel_rfl
noncomputable abbrev s49L (a0 : ByteArray) (a1 : ByteArray) (a2 : Int) (a3 : ByteArray) := evFuncV Try.prog T4 noCuts Try.f49 (killA 0 [sCmd]) (showA 0 [sCmd] ((a0, (a1, (a2, a3))), ())).1 (showA 0 [sCmd] ((a0, (a1, (a2, a3))), ())).2
theorem s49 (a0 : ByteArray) (a1 : ByteArray) (a2 : Int) (a3 : ByteArray) : s49L a0 a1 a2 a3 = (guardB (preC a1 a3)
  (bif chkS a0 a1 a2 a3 != 0 then
    some
      (PV.tup
          [PV.agg
              [PV.sc (Value.string (ByteArray.mk #[])), PV.sc (Value.int IntKind.i64 0),
                PV.sc (Value.int IntKind.i64 0), PV.sc (Value.string (ByteArray.mk #[]))],
            PV.sc (Value.int IntKind.i64 (chkS a0 a1 a2 a3))],
        [])
  else
    bif decide ((findS a0).fst.snd.snd.snd.snd < 0) then
      some
        (PV.tup
            [PV.agg
                [PV.sc (Value.string (ByteArray.mk #[])), PV.sc (Value.int IntKind.i64 0),
                  PV.sc (Value.int IntKind.i64 0), PV.sc (Value.string (ByteArray.mk #[]))],
              PV.sc (Value.int IntKind.i64 8)],
          [])
    else
      some
        (PV.tup
            [PV.agg
                [PV.sc (Value.string a1), PV.sc (Value.int IntKind.i64 (findS a0).fst.snd.snd.snd.snd),
                  PV.sc (Value.int IntKind.i64 a2), PV.sc (Value.string a3)],
              PV.sc (Value.int IntKind.i64 0)],
          []))) := by kernel_rfl
theorem drop_cons {α : Type} {l : List α} {k : Nat} {x : α} (h : l[k]? = some x) : l.drop k = x :: l.drop (k + 1) := by
  obtain ⟨hk, rfl⟩ := List.getElem?_eq_some_iff.1 h
  exact List.drop_eq_getElem_cons hk
theorem q92a (l : List Verb) (nl : Bool) (name : ByteArray) (n k : Int) (h : preIx l n k = true) : s92aL l nl name n k = pickA (cIx ((l, nl), (name, ()), n, k, ())).2 := by
  obtain ⟨h1, h2, h3, h4⟩ := of_decide_eq_true h
  show _ = cond (decide (0 ≤ isIx l name k)) (some (Xt.ret, [PV.sc (.int .i64 (isIx l name k))], [Blk.row false kV l, Blk.fix false [.sc (.string name)]])) (some (Xt.exit 0, [PV.undef], [Blk.row false kV l, Blk.fix false [.sc (.string name)]]))
  rw [s92a]
  refine cond_split (fun h => ?_) (fun h => ?_)
  · have h := of_decide_eq_true h
    obtain ⟨c, hc⟩ : ∃ c, l[k.toNat]? = some c := ⟨l[k.toNat]'(by omega), List.getElem?_eq_getElem _⟩
    have hd : isIx l name k = if isV name c then k else isIx l name (k + 1) := by
      unfold isIx
      rw [drop_cons hc, show (k + 1).toNat = k.toNat + 1 by omega]; rfl
    rw [hd]
    refine guard_split (by simp; omega) ?_
    rw [Nat.zero_add, hc]
    simp only [bindO, List.take_length]
    rw [IntWalk.i64_in (k + 1) (by omega)]
    refine cond_split (fun h5 => ?_) (fun h5 => ?_)
    · rw [if_pos h5, show decide (0 ≤ k) = true from decide_eq_true h2]; rfl
    · rw [if_neg (by rw [h5]; simp)]
      refine guard_split ?_ (guard_split ?_ rfl)
      · refine decide_eq_true ?_
        show (n - (k + 1)).toNat < (n - k).toNat
        omega
      · rw [show decide (0 + l.length ≤ l.length) = true by simp]
        exact decide_eq_true (by omega)
  · have h := of_decide_eq_false h
    have : isIx l name k = -1 := by
      unfold isIx
      rw [List.drop_eq_nil_of_le (by omega)]; rfl
    rw [this]; rfl
theorem ixP_ge {α : Type} (p : α → Bool) : ∀ (l : List α) (k : Int), 0 ≤ k → ixP p k l = -1 ∨ k ≤ ixP p k l
  | [], k, h => Or.inl rfl
  | x :: r, k, h => by
    unfold ixP
    split
    · right; omega
    · rcases ixP_ge p r (k + 1) (by omega) with h | h
      · exact Or.inl h
      · right; omega
theorem q92 (l : List Verb) (nl : Bool) (name : ByteArray) (h : l.length ≤ 1000000) : s92L l nl name = some (PV.sc (.int .i64 (ixP (isV name) 0 l)), [Blk.row false kV l, Blk.fix false [.sc (.string name)]]) := by
  rw [s92]
  simp only [List.take_length, Nat.zero_add]
  refine guard_split ?_ ?_
  · rw [show decide (l.length ≤ l.length) = true by simp]
    exact decide_eq_true (by omega)
  · have hi : isIx l name 0 = ixP (isV name) 0 l := rfl
    rw [hi]
    refine cond_split (fun h => rfl) (fun h => ?_)
    have h := of_decide_eq_false h
    rcases ixP_ge (isV name) l 0 (by omega) with h2 | h2
    · rw [h2]
    · exact absurd h2 h
theorem ix_find {α : Type} (p : α → Bool) : ∀ (l : List α) (k : Int), 0 ≤ k → (ixP p k l < 0 ∧ l.find? p = none) ∨ (∃ x, k ≤ ixP p k l ∧ ixP p k l < k + l.length ∧ l[(ixP p k l - k).toNat]? = some x ∧ l.find? p = some x)
  | [], k, h => Or.inl ⟨by unfold ixP; omega, rfl⟩
  | x :: r, k, h => by
    unfold ixP
    cases hx : p x with
    | true =>
      right
      refine ⟨x, ?_, ?_, ?_, ?_⟩
      · rw [if_pos rfl]; omega
      · rw [if_pos rfl, List.length_cons]; omega
      · rw [if_pos rfl, Int.sub_self]; rfl
      · simp [List.find?, hx]
    | false =>
      rw [if_neg (by simp)]
      rcases ix_find p r (k + 1) (by omega) with ⟨h1, h2⟩ | ⟨y, h1, h2, h3, h4⟩
      · exact Or.inl ⟨h1, by simp [List.find?, hx, h2]⟩
      · refine Or.inr ⟨y, by omega, by rw [List.length_cons]; omega, ?_, by simp [List.find?, hx, h4]⟩
        rw [show (ixP p (k + 1) r - k).toNat = (ixP p (k + 1) r - (k + 1)).toNat + 1 by omega]
        exact h3
theorem q82 (name : ByteArray) : s82L name = some (PV.tup [.agg [.sc (.string (findS name).1.1), .sc (.bool (findS name).1.2.1), .sc (.bool (findS name).1.2.2.1), .sc (.int .i64 (findS name).1.2.2.2.1), .sc (.int .i64 (findS name).1.2.2.2.2)], .sc (.bool (findS name).2)], []) := by
  rw [s82]
  unfold findS
  have hf := ix_find (isV name) verbsL 0 (by omega)
  have hv : verbsL.length = 10 := rfl
  rw [hv] at hf
  unfold verbsL at hf ⊢
  rcases hf with ⟨h1, h2⟩ | ⟨x, h1, h2, h3, h4⟩
  · rw [h2, show decide (_ < (0 : Int)) = true from decide_eq_true h1]; rfl
  · rw [h4, show decide (_ < (0 : Int)) = false from decide_eq_false (by omega)]
    rw [Int.sub_zero] at h3
    refine guard_split ?_ ?_
    · simp only [Bool.and_eq_true, decide_eq_true_eq]
      exact ⟨h1, h2⟩
    · rw [Nat.zero_add, h3]; rfl
theorem q83a (l : List Int) (nl : Bool) (n k : Int) (h : preNm l n k = true) : s83aL l nl n k = pickA (cNm ((l, nl), n, k, ())).2 := by
  obtain ⟨h1, h2, h3, h4⟩ := of_decide_eq_true h
  show _ = cond (okL k (l.drop k.toNat)) (some (Xt.exit 0, [PV.undef], [Blk.row false (.int .u8) l])) (some (Xt.ret, [PV.sc (.bool false)], [Blk.row false (.int .u8) l]))
  rw [s83a]
  refine cond_split (fun h => ?_) (fun h => ?_)
  · have h := of_decide_eq_true h
    obtain ⟨c, hc⟩ : ∃ c, l[k.toNat]? = some c := ⟨l[k.toNat]'(by omega), List.getElem?_eq_getElem _⟩
    refine guard_split (by simp; omega) ?_
    rw [drop_cons hc, Nat.zero_add, hc]
    simp only [bindO, List.take_length, Nat.zero_add]
    rw [IntWalk.i64_in (k + 1) (by omega), show (k + 1).toNat = k.toNat + 1 by omega]
    rw [show decide (l.length ≤ l.length) = true by simp]
    have hp : preNm l n (k + 1) = true := decide_eq_true (by omega)
    have hmu : decide (muNm ((l, nl), n, k + 1, ()) < muNm ((l, nl), n, k, ())) = true := by
      refine decide_eq_true ?_
      show (n - (k + 1)).toNat < (n - k).toNat
      omega
    have hok : okL k (c :: l.drop (k.toNat + 1)) = (okC k c && okL (k + 1) (l.drop (k.toNat + 1))) := rfl
    rw [hok]
    unfold okC
    try simp only [cond_true]
    generalize decide (c ≥ 65) = b1, decide (c ≤ 90) = b2, decide (k > 0) = b3, decide (c ≥ 48) = b4, decide (c ≤ 57) = b5
    cases b1 <;> cases b2 <;> cases b3 <;> cases b4 <;> cases b5 <;> first | rfl | exact guard_split hmu (guard_split hp rfl)
  · have h := of_decide_eq_false h
    rw [List.drop_eq_nil_of_le (by omega)]; rfl
theorem bytes_len (s : ByteArray) : (bytesI s).length = s.size := by unfold bytesI; rw [List.length_map, Array.length_toList]; rfl
theorem q83 (s : ByteArray) (h : s.size ≤ 1000000000000000000) : s83L s = some (PV.sc (.bool (namS s)), []) := by
  rw [s83]
  have hl := bytes_len s
  have ht : List.take s.size (bytesI s) = bytesI s := List.take_of_length_le (by omega)
  rw [ht, show Int.toNat 0 = 0 from rfl, List.drop_zero, hl, Nat.zero_add, show decide (s.size ≤ s.size) = true by simp]
  refine guard_split (decide_eq_true (by omega)) ?_
  unfold namS
  have e : decide (s = ByteArray.mk #[]) = !decide (0 < s.size) := by
    rw [Bool.eq_iff_iff]
    simp only [decide_eq_true_eq, Bool.not_eq_true', decide_eq_false_iff_not]
    constructor
    · rintro rfl; decide
    · intro hz
      apply ByteArray.ext
      apply Array.ext'
      have : s.data.toList.length = 0 := by rw [Array.length_toList]; exact (show s.size = 0 by omega)
      rw [List.length_eq_zero_iff.1 this]
  have e2 : decide ((s.size : Int) ≤ 8) = decide (s.size ≤ 8) := decide_eq_decide.mpr (by omega)
  rw [e, e2, Bool.not_not]
  generalize okL 0 (bytesI s) = b1, decide (0 < s.size) = b2, decide (s.size ≤ 8) = b3
  cases b1 <;> cases b2 <;> cases b3 <;> rfl
theorem bytes_get (s : ByteArray) (k : Nat) (h : k < s.size) : ∃ x : UInt8, s[k]? = some x ∧ (bytesI s)[k]? = some (x.toNat : Int) := by
  have h2 : k < s.data.size := h
  refine ⟨s[k], getElem?_pos s k h, ?_⟩
  unfold bytesI
  rw [List.getElem?_map, Array.getElem?_toList, Array.getElem?_eq_getElem h2]; rfl
theorem q50a (s : ByteArray) (n k : Int) (h : preNm (bytesI s) n k = true) : s50aL s n k = pickA (cNr (s, n, k, ())).2 := by
  obtain ⟨h1, h2, h3, h4⟩ := of_decide_eq_true h
  have hl := bytes_len s
  show _ = cond (((bytesI s).drop k.toNat).all alnum) (some (Xt.exit 0, [PV.undef], [])) (some (Xt.ret, [PV.sc (.bool false)], []))
  rw [s50a]
  refine cond_split (fun h => ?_) (fun h => ?_)
  · have h := of_decide_eq_true h
    obtain ⟨x, hx, hc⟩ := bytes_get s k.toNat (by omega)
    refine guard_split (decide_eq_true h2) ?_
    rw [drop_cons hc, hx]
    simp only [bindO]
    rw [IntWalk.i64_in (k + 1) (by omega), show (k + 1).toNat = k.toNat + 1 by omega]
    have hp : preNm (bytesI s) n (k + 1) = true := decide_eq_true (by omega)
    have hmu : decide (muNr (s, n, k + 1, ()) < muNr (s, n, k, ())) = true := by
      refine decide_eq_true ?_
      show (n - (k + 1)).toNat < (n - k).toNat
      omega
    rw [List.all_cons]
    unfold alnum
    generalize decide ((x.toNat : Int) ≥ 65) = b1, decide ((x.toNat : Int) ≤ 90) = b2, decide ((x.toNat : Int) ≥ 48) = b4, decide ((x.toNat : Int) ≤ 57) = b5
    cases b1 <;> cases b2 <;> cases b4 <;> cases b5 <;> first | rfl | exact guard_split hmu (guard_split hp rfl)
  · have h := of_decide_eq_false h
    rw [List.drop_eq_nil_of_le (by omega)]; rfl
theorem okL_pos : ∀ (l : List Int) (k : Int), 0 < k → okL k l = l.all alnum
  | [], k, h => rfl
  | c :: r, k, h => by
    unfold okL okC
    rw [List.all_cons, okL_pos r (k + 1) (by omega), show decide (k > 0) = true from decide_eq_true h]
    unfold alnum
    rw [Bool.true_and]
theorem q50 (s : ByteArray) (h : s.size ≤ 1000000000000000000) : s50L s = some (PV.sc (.bool (namS s)), []) := by
  have hl := bytes_len s
  rw [s50, show Int.toNat 0 = 0 from rfl, List.drop_zero]
  unfold namS
  refine cond_split (fun h1 => ?_) (fun h1 => cond_split (fun h2 => ?_) (fun h2 => ?_))
  · have h1 := of_decide_eq_true h1
    rw [show decide (0 < s.size) = false from decide_eq_false (by omega), Bool.false_and, Bool.and_false]
  · have h2 := of_decide_eq_true h2
    rw [show decide (s.size ≤ 8) = false from decide_eq_false (by omega), Bool.and_false, Bool.and_false]
  · have h1 := of_decide_eq_false h1
    have h2 := of_decide_eq_false h2
    obtain ⟨x, hx, hc⟩ := bytes_get s 0 (by omega)
    rw [hx]
    simp only [bindO]
    rw [show decide (0 < s.size) = true from decide_eq_true (by omega), show decide (s.size ≤ 8) = true from decide_eq_true (by omega), Bool.and_true, Bool.and_true]
    have hd : bytesI s = (x.toNat : Int) :: (bytesI s).drop 1 := by
      have := drop_cons hc
      rwa [List.drop_zero] at this
    have hp : preNm (bytesI s) s.size 0 = true := decide_eq_true (by omega)
    rw [hp, hd]
    unfold okL okC
    rw [okL_pos _ _ (by omega), List.all_cons]
    unfold alnum
    simp only [show decide ((0 : Int) > 0) = false from rfl, Bool.false_and, Bool.or_false]
    generalize decide ((x.toNat : Int) ≥ 65) = b1, decide ((x.toNat : Int) ≤ 90) = b2, decide ((x.toNat : Int) ≥ 48) = b4, decide ((x.toNat : Int) ≤ 57) = b5
    generalize List.all _ _ = b6
    cases b1 <;> cases b2 <;> cases b6 <;> rfl
theorem pre_C {c f : ByteArray} (h : preC c f = true) : c.size ≤ 1000000000000000000 ∧ f.size ≤ 1000000000000000000 := of_decide_eq_true h
theorem q51 (v c : ByteArray) (n : Int) (f : ByteArray) (h : preC c f = true) : s51L v c n f = some (PV.sc (.int .i64 (chkS v c n f)), []) := by
  obtain ⟨h1, h2⟩ := pre_C h
  rw [s51, show decide (c.size ≤ 1000000000000000000) = true from decide_eq_true h1, show decide (f.size ≤ 1000000000000000000) = true from decide_eq_true h2]
  unfold chkS chkB
  generalize (findS v).2 = b1, (findS v).1.2.2.1 = b3, (findS v).1.2.1 = b5
  generalize decide (n > _) = b8
  generalize namS c = b2, namS f = b4, decide (f = ⟨#[]⟩) = b6, (n != 0) = b7, decide (n < 0) = b9
  cases b1
  · rfl
  cases b2
  · rfl
  cases b3 <;> cases b4 <;> cases b6 <;> cases b5 <;> cases b7 <;> cases b9 <;> cases b8 <;> rfl
theorem q49 (v c : ByteArray) (n : Int) (f : ByteArray) (h : preC c f = true) : s49L v c n f = some (PV.tup [.agg [.sc (.string (clrS v c n f).1.1), .sc (.int .i64 (clrS v c n f).1.2.1), .sc (.int .i64 (clrS v c n f).1.2.2.1), .sc (.string (clrS v c n f).1.2.2.2)], .sc (.int .i64 (clrS v c n f).2)], []) := by
  rw [s49]
  refine guard_split h ?_
  unfold clrS
  refine cond_split (fun h => ?_) (fun h => ?_)
  · rw [if_pos (by simpa using h)]; rfl
  · rw [if_neg (by simpa using h)]
    refine cond_split (fun h => ?_) (fun h => ?_)
    · rw [if_pos (of_decide_eq_true h)]; rfl
    · rw [if_neg (of_decide_eq_false h)]
theorem T1_ok : TableOK Try.prog T1 :=
  ext_ok (entV_ok Try.call70 (liftV (T0_ok _) mixed Try.func70 rfl (noCuts_ok _) (by decide) fun v _ => s70))
  (ext_ok (entV_ok Try.call93 (liftV (T0_ok _) mixed Try.func93 rfl (noCuts_ok _) (by decide) fun v _ => s93 v.1.1 v.1.2.1 v.1.2.2.1 v.1.2.2.2.1 v.1.2.2.2.2 v.2.1)) (T0_ok _))
theorem T2_ok : TableOK Try.prog T2 :=
  ext_ok (entV_ok Try.call92 (liftV T1_ok mixed Try.func92 (show Try.f92.body = some (bodyF Try.f92) from rfl) (cut_cons (by kernel_rfl) (loop_cutW T1_ok mixed muIx (by kernel_rfl) (noCuts_ok _) fun v h => q92a v.1.1 v.1.2 v.2.1.1 v.2.2.1 v.2.2.2.1 h) (noCuts_ok _)) (by decide) fun v h => q92 v.1.1 v.1.2 v.2.1.1 (of_decide_eq_true h))) T1_ok
theorem T3_ok : TableOK Try.prog T3 :=
  ext_ok (entV_ok Try.call82 (liftV T2_ok mixed Try.func82 rfl (noCuts_ok _) (by decide) fun v _ => q82 v.1))
  (ext_ok (entV_ok Try.call83 (liftV T2_ok mixed Try.func83 (show Try.f83.body = some (bodyF Try.f83) from rfl) (cut_cons (by kernel_rfl) (loop_cutW (T0_ok _) mixed muNm (by kernel_rfl) (noCuts_ok _) fun v h => q83a v.1.1 v.1.2 v.2.1 v.2.2.1 h) (noCuts_ok _)) (by decide) fun v h => q83 v.1 (of_decide_eq_true h)))
  (ext_ok (entV_ok Try.call50 (liftV T2_ok mixed Try.func50 (show Try.f50.body = some (bodyF Try.f50) from rfl) (cut_cons (by kernel_rfl) (loop_cutW (T0_ok _) mixed muNr (by kernel_rfl) (noCuts_ok _) fun v h => q50a v.1 v.2.1 v.2.2.1 h) (noCuts_ok _)) (by decide) fun v h => q50 v.1 (of_decide_eq_true h))) T2_ok))
theorem T4_ok : TableOK Try.prog T4 := ext_ok (entV_ok Try.call51 (liftV T3_ok mixed Try.func51 rfl (noCuts_ok _) (by decide) fun v h => q51 v.1.1 v.1.2.1 v.1.2.2.1 v.1.2.2.2 h)) T3_ok
theorem T5_ok : TableOK Try.prog T5 := ext_ok (entV_ok Try.call49 (liftV T4_ok mixed Try.func49 rfl (noCuts_ok _) (by decide) fun v h => q49 v.1.1 v.1.2.1 v.1.2.2.1 v.1.2.2.2 h)) T4_ok
end Go.Proofs.YtlaaeighanknpaaCs
