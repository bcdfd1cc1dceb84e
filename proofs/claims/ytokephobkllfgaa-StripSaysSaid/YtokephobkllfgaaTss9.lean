/- What is proved: the law's loops over a board and a list. No condition. -/
import Derived.Test.YtokephobkllfgaaTss8
namespace Go.Proofs.YtokephobkllfgaaSs
open Go Go.Proofs Go.Proofs.YtokephobkllfgaaEv
set_option maxRecDepth 100000
set_option maxHeartbeats 4000000
set_option linter.unusedVariables false
set_option linter.unusedSimpArgs false
noncomputable abbrev s6L := evFuncV Try.prog T0 noCuts Try.f6 (killA 0 []) (showA 0 [] ()).1 (showA 0 [] ()).2
theorem s6 : s6L = (some (PV.ptr 0 0 1 0, [Blk.fix true [PV.sc (Value.slice none 0 0)]])) := by kernel_rfl
noncomputable abbrev s3vL (a0 : ByteArray) (a1 : ByteArray) (a2 : Int) (a3 : Int) (a4 : Int) (a5 : Int) := evBlock Try.prog U9 noCuts 219 (codeAt 2 (bodyF Try.f3)) kVa (killA 0 kVa) [11, 13] [13] ((a0, (a1, (a2, (a3, a4)))), (a5, ()))
theorem s3v (a0 : ByteArray) (a1 : ByteArray) (a2 : Int) (a3 : Int) (a4 : Int) (a5 : Int) : s3vL a0 a1 a2 a3 a4 a5 = (guardB (decide (a0.size ≤ 1000000000000000000))
  (bif !namS a0 then
    some
      (Xt.normal, [PV.sc (Value.int IntKind.i64 6)],
        [Blk.fix false
            [PV.sc (Value.string a0), PV.sc (Value.string a1), PV.sc (Value.int IntKind.i64 a2),
              PV.sc (Value.int IntKind.i64 a3), PV.sc (Value.int IntKind.i64 a4)]])
  else
    guardB (decide (a1.size ≤ 1000000000000000000))
      (bif !namS a1 then
        some
          (Xt.normal, [PV.sc (Value.int IntKind.i64 6)],
            [Blk.fix false
                [PV.sc (Value.string a0), PV.sc (Value.string a1), PV.sc (Value.int IntKind.i64 a2),
                  PV.sc (Value.int IntKind.i64 a3), PV.sc (Value.int IntKind.i64 a4)]])
      else
        bif !inS a2 0 200000 then
          some
            (Xt.normal, [PV.sc (Value.int IntKind.i64 4)],
              [Blk.fix false
                  [PV.sc (Value.string a0), PV.sc (Value.string a1), PV.sc (Value.int IntKind.i64 a2),
                    PV.sc (Value.int IntKind.i64 a3), PV.sc (Value.int IntKind.i64 a4)]])
        else
          bif !inS a3 0 60000 then
            some
              (Xt.normal, [PV.sc (Value.int IntKind.i64 4)],
                [Blk.fix false
                    [PV.sc (Value.string a0), PV.sc (Value.string a1), PV.sc (Value.int IntKind.i64 a2),
                      PV.sc (Value.int IntKind.i64 a3), PV.sc (Value.int IntKind.i64 a4)]])
          else
            bif !inS a4 0 3 then
              some
                (Xt.normal, [PV.sc (Value.int IntKind.i64 4)],
                  [Blk.fix false
                      [PV.sc (Value.string a0), PV.sc (Value.string a1), PV.sc (Value.int IntKind.i64 a2),
                        PV.sc (Value.int IntKind.i64 a3), PV.sc (Value.int IntKind.i64 a4)]])
            else
              some
                (Xt.normal, [PV.sc (Value.int IntKind.i64 a5)],
                  [Blk.fix false
                      [PV.sc (Value.string a0), PV.sc (Value.string a1), PV.sc (Value.int IntKind.i64 a2),
                        PV.sc (Value.int IntKind.i64 a3), PV.sc (Value.int IntKind.i64 a4)]])))) := by kernel_rfl
noncomputable abbrev s3mL (a0 : ByteArray) (a1 : ByteArray) (a2 : Int) (a3 : Int) (a4 : Int) (a5 : Int) (a6 : List (ByteArray × ByteArray × Int × Int × Int)) (a7 : Bool) (a8 : Int) (a9 : Int) := evRound Try.prog U9 noCuts 219 (loopOf (codeAt 3 (bodyF Try.f3))) kMn muMn (killA 0 kMn) [11, 14, 72, 73, 74] [14] cMn ((a0, (a1, (a2, (a3, a4)))), (a5, ((a6, a7), (a8, (a9, ())))))
theorem s3m (a0 : ByteArray) (a1 : ByteArray) (a2 : Int) (a3 : Int) (a4 : Int) (a5 : Int) (a6 : List (ByteArray × ByteArray × Int × Int × Int)) (a7 : Bool) (a8 : Int) (a9 : Int) : s3mL a0 a1 a2 a3 a4 a5 a6 a7 a8 a9 = (bif decide (a9 < a8) then
  guardB (decide (0 ≤ a9) && decide (a9 < (↑a6.length : Int)))
    (bindO a6[0 + a9.toNat]? fun x =>
      bif x.snd.snd.snd.snd == a4 then
        guardB
          (decide
            (muMn
                ((a0, a1, a2, a3, a4), IntKind.i64.wrap (a5 + 1), (List.take a6.length a6, a7), a8,
                  IntKind.i64.wrap (a9 + 1), PUnit.unit) <
              muMn ((a0, a1, a2, a3, a4), a5, (a6, a7), a8, a9, ())))
          (guardB
            (bif decide (0 + a6.length ≤ a6.length) then
              preCt (List.take a6.length a6) (IntKind.i64.wrap (a5 + 1)) a8 (IntKind.i64.wrap (a9 + 1))
            else false)
            (some
              (Xt.exit 3,
                [PV.sc
                    (Value.int IntKind.i64
                      (IntKind.i64.wrap (a5 + 1) +
                        cntS a4 (List.drop (IntKind.i64.wrap (a9 + 1)).toNat (List.take a6.length a6))))],
                [Blk.fix false
                    [PV.sc (Value.string a0), PV.sc (Value.string a1), PV.sc (Value.int IntKind.i64 a2),
                      PV.sc (Value.int IntKind.i64 a3), PV.sc (Value.int IntKind.i64 a4)],
                  Blk.row false
                    (Kd.str.pair
                      (Kd.str.pair ((Kd.int IntKind.i64).pair ((Kd.int IntKind.i64).pair (Kd.int IntKind.i64)))))
                    a6])))
      else
        guardB
          (decide
            (muMn ((a0, a1, a2, a3, a4), a5, (List.take a6.length a6, a7), a8, IntKind.i64.wrap (a9 + 1), PUnit.unit) <
              muMn ((a0, a1, a2, a3, a4), a5, (a6, a7), a8, a9, ())))
          (guardB
            (bif decide (0 + a6.length ≤ a6.length) then
              preCt (List.take a6.length a6) a5 a8 (IntKind.i64.wrap (a9 + 1))
            else false)
            (some
              (Xt.exit 3,
                [PV.sc
                    (Value.int IntKind.i64
                      (a5 + cntS a4 (List.drop (IntKind.i64.wrap (a9 + 1)).toNat (List.take a6.length a6))))],
                [Blk.fix false
                    [PV.sc (Value.string a0), PV.sc (Value.string a1), PV.sc (Value.int IntKind.i64 a2),
                      PV.sc (Value.int IntKind.i64 a3), PV.sc (Value.int IntKind.i64 a4)],
                  Blk.row false
                    (Kd.str.pair
                      (Kd.str.pair ((Kd.int IntKind.i64).pair ((Kd.int IntKind.i64).pair (Kd.int IntKind.i64)))))
                    a6]))))
else
  some
    (Xt.exit 3, [PV.sc (Value.int IntKind.i64 a5)],
      [Blk.fix false
          [PV.sc (Value.string a0), PV.sc (Value.string a1), PV.sc (Value.int IntKind.i64 a2),
            PV.sc (Value.int IntKind.i64 a3), PV.sc (Value.int IntKind.i64 a4)],
        Blk.row false
          (Kd.str.pair (Kd.str.pair ((Kd.int IntKind.i64).pair ((Kd.int IntKind.i64).pair (Kd.int IntKind.i64))))) a6])) := by kernel_rfl
noncomputable abbrev s3gL (a0 : ByteArray) (a1 : ByteArray) (a2 : ByteArray) (a3 : Int) (a4 : Int) (a5 : Int) (a6 : Int) (a7 : List (ByteArray × ByteArray × Int × Int × Int)) (a8 : Bool) (a9 : Int) (a10 : Int) := evRound Try.prog U9 noCuts 219 (loopOf (codeAt 6 (bodyF Try.f3))) kGt muGt (killA 0 kGt) [2, 19, 20, 192, 193, 194] [6] cGt (a0, ((a1, (a2, (a3, (a4, a5)))), (a6, ((a7, a8), (a9, (a10, ()))))))
theorem s3g (a0 : ByteArray) (a1 : ByteArray) (a2 : ByteArray) (a3 : Int) (a4 : Int) (a5 : Int) (a6 : Int) (a7 : List (ByteArray × ByteArray × Int × Int × Int)) (a8 : Bool) (a9 : Int) (a10 : Int) : s3gL a0 a1 a2 a3 a4 a5 a6 a7 a8 a9 a10 = (bif decide (a10 < a9) then
  guardB (decide (0 ≤ a10) && decide (a10 < (↑a7.length : Int)))
    (bindO a7[0 + a10.toNat]? fun x =>
      bif decide (x.fst = a0) then
        bif a6 != 0 then
          some
            (Xt.ret, [PV.sc (Value.bool false)],
              [Blk.fix false
                  [PV.sc (Value.string a1), PV.sc (Value.string a2), PV.sc (Value.int IntKind.i64 a3),
                    PV.sc (Value.int IntKind.i64 a4), PV.sc (Value.int IntKind.i64 a5)],
                Blk.row false
                  (Kd.str.pair
                    (Kd.str.pair ((Kd.int IntKind.i64).pair ((Kd.int IntKind.i64).pair (Kd.int IntKind.i64)))))
                  a7])
        else
          bif
              !(decide (a1 = x.fst) &&
                  (decide (a2 = x.snd.fst) &&
                    (a3 == x.snd.snd.fst && (a4 == x.snd.snd.snd.fst && (a5 == x.snd.snd.snd.snd && true))))) then
            some
              (Xt.ret, [PV.sc (Value.bool false)],
                [Blk.fix false
                    [PV.sc (Value.string a1), PV.sc (Value.string a2), PV.sc (Value.int IntKind.i64 a3),
                      PV.sc (Value.int IntKind.i64 a4), PV.sc (Value.int IntKind.i64 a5)],
                  Blk.row false
                    (Kd.str.pair
                      (Kd.str.pair ((Kd.int IntKind.i64).pair ((Kd.int IntKind.i64).pair (Kd.int IntKind.i64)))))
                    a7])
          else
            guardB
              (decide
                (muGt
                    (a0, (a1, a2, a3, a4, a5), a6, (List.take a7.length a7, a8), a9, IntKind.i64.wrap (a10 + 1),
                      PUnit.unit) <
                  muGt (a0, (a1, a2, a3, a4, a5), a6, (a7, a8), a9, a10, ())))
              (guardB
                (bif decide (0 + a7.length ≤ a7.length) then
                  preCt (List.take a7.length a7) 0 a9 (IntKind.i64.wrap (a10 + 1))
                else false)
                (bif
                    (List.drop (IntKind.i64.wrap (a10 + 1)).toNat (List.take a7.length a7)).all
                      (gtB a0 (a1, a2, a3, a4, a5) a6) then
                  some
                    (Xt.exit 6, [PV.undef],
                      [Blk.fix false
                          [PV.sc (Value.string a1), PV.sc (Value.string a2), PV.sc (Value.int IntKind.i64 a3),
                            PV.sc (Value.int IntKind.i64 a4), PV.sc (Value.int IntKind.i64 a5)],
                        Blk.row false
                          (Kd.str.pair
                            (Kd.str.pair ((Kd.int IntKind.i64).pair ((Kd.int IntKind.i64).pair (Kd.int IntKind.i64)))))
                          a7])
                else
                  some
                    (Xt.ret, [PV.sc (Value.bool false)],
                      [Blk.fix false
                          [PV.sc (Value.string a1), PV.sc (Value.string a2), PV.sc (Value.int IntKind.i64 a3),
                            PV.sc (Value.int IntKind.i64 a4), PV.sc (Value.int IntKind.i64 a5)],
                        Blk.row false
                          (Kd.str.pair
                            (Kd.str.pair ((Kd.int IntKind.i64).pair ((Kd.int IntKind.i64).pair (Kd.int IntKind.i64)))))
                          a7])))
      else
        guardB
          (decide
            (muGt
                (a0, (a1, a2, a3, a4, a5), a6, (List.take a7.length a7, a8), a9, IntKind.i64.wrap (a10 + 1),
                  PUnit.unit) <
              muGt (a0, (a1, a2, a3, a4, a5), a6, (a7, a8), a9, a10, ())))
          (guardB
            (bif decide (0 + a7.length ≤ a7.length) then
              preCt (List.take a7.length a7) 0 a9 (IntKind.i64.wrap (a10 + 1))
            else false)
            (bif
                (List.drop (IntKind.i64.wrap (a10 + 1)).toNat (List.take a7.length a7)).all
                  (gtB a0 (a1, a2, a3, a4, a5) a6) then
              some
                (Xt.exit 6, [PV.undef],
                  [Blk.fix false
                      [PV.sc (Value.string a1), PV.sc (Value.string a2), PV.sc (Value.int IntKind.i64 a3),
                        PV.sc (Value.int IntKind.i64 a4), PV.sc (Value.int IntKind.i64 a5)],
                    Blk.row false
                      (Kd.str.pair
                        (Kd.str.pair ((Kd.int IntKind.i64).pair ((Kd.int IntKind.i64).pair (Kd.int IntKind.i64)))))
                      a7])
            else
              some
                (Xt.ret, [PV.sc (Value.bool false)],
                  [Blk.fix false
                      [PV.sc (Value.string a1), PV.sc (Value.string a2), PV.sc (Value.int IntKind.i64 a3),
                        PV.sc (Value.int IntKind.i64 a4), PV.sc (Value.int IntKind.i64 a5)],
                    Blk.row false
                      (Kd.str.pair
                        (Kd.str.pair ((Kd.int IntKind.i64).pair ((Kd.int IntKind.i64).pair (Kd.int IntKind.i64)))))
                      a7]))))
else
  some
    (Xt.exit 6, [PV.undef],
      [Blk.fix false
          [PV.sc (Value.string a1), PV.sc (Value.string a2), PV.sc (Value.int IntKind.i64 a3),
            PV.sc (Value.int IntKind.i64 a4), PV.sc (Value.int IntKind.i64 a5)],
        Blk.row false
          (Kd.str.pair (Kd.str.pair ((Kd.int IntKind.i64).pair ((Kd.int IntKind.i64).pair (Kd.int IntKind.i64))))) a7])) := by kernel_rfl
noncomputable abbrev s3a0L (L : List (ByteArray × ByteArray × Int × Int × Int)) (n : Nat) (lo : Nat) (fu : Bool) (L2 : List (ByteArray × ByteArray × Int × Int × Int)) (n2 : Nat) (lo2 : Nat) (fu2 : Bool) (s1 : ByteArray) (s2 : ByteArray) (s3 : Int) (s4 : Int) (s5 : Int) (k : Int) (vd : Int) (mn : Int) := (evBlockR Try.prog U9 noCuts 219 (codeAt 5 (bodyF Try.f3)) [] [7, 8, 11, 12, 13, 14, 18, 88] [8, 17, 18]
  (st5 (.inr ((s1, s2, s3, s4, s5), vd, mn, 0, 0))).1 (st5 (.inr ((s1, s2, s3, s4, s5), vd, mn, 0, 0))).2)
theorem s3a0 (L : List (ByteArray × ByteArray × Int × Int × Int)) (n : Nat) (lo : Nat) (fu : Bool) (L2 : List (ByteArray × ByteArray × Int × Int × Int)) (n2 : Nat) (lo2 : Nat) (fu2 : Bool) (s1 : ByteArray) (s2 : ByteArray) (s3 : Int) (s4 : Int) (s5 : Int) (k : Int) (vd : Int) (mn : Int) : s3a0L L n lo fu L2 n2 lo2 fu2 s1 s2 s3 s4 s5 k vd mn = (guardB (okS (s1, s2, s3, s4, s5))
  (bif chkS (s1, s2, s3, s4, s5) == 0 then
    bif vd == 0 then
      bif vd == 0 then
        bif mn == 16 then
          some
            (Xt.normal,
              [PV.sc (Value.slice none 0 0), PV.sc (Value.int IntKind.i64 0), PV.sc (Value.int IntKind.i64 9)],
              [Blk.fix true [PV.sl 2 0 5 1 1 false false],
                Blk.fix true
                  [PV.sc (Value.string s1), PV.sc (Value.string s2), PV.sc (Value.int IntKind.i64 s3),
                    PV.sc (Value.int IntKind.i64 s4), PV.sc (Value.int IntKind.i64 s5)],
                Blk.row true
                  (Kd.str.pair
                    (Kd.str.pair ((Kd.int IntKind.i64).pair ((Kd.int IntKind.i64).pair (Kd.int IntKind.i64)))))
                  [(s1, s2, s3, s4, s5)]])
        else
          bif vd == 0 then
            some
              (Xt.normal,
                [PV.sl 2 0 5 1 1 false false, PV.sc (Value.int IntKind.i64 0), PV.sc (Value.int IntKind.i64 vd)],
                [Blk.fix true [PV.sl 3 0 5 1 1 false false],
                  Blk.fix true
                    [PV.sc (Value.string s1), PV.sc (Value.string s2), PV.sc (Value.int IntKind.i64 s3),
                      PV.sc (Value.int IntKind.i64 s4), PV.sc (Value.int IntKind.i64 s5)],
                  Blk.row true
                    (Kd.str.pair
                      (Kd.str.pair ((Kd.int IntKind.i64).pair ((Kd.int IntKind.i64).pair (Kd.int IntKind.i64)))))
                    [(s1, s2, s3, s4, s5)],
                  Blk.row true
                    (Kd.str.pair
                      (Kd.str.pair ((Kd.int IntKind.i64).pair ((Kd.int IntKind.i64).pair (Kd.int IntKind.i64)))))
                    [(s1, s2, s3, s4, s5)]])
          else
            some
              (Xt.normal,
                [PV.sc (Value.slice none 0 0), PV.sc (Value.int IntKind.i64 0), PV.sc (Value.int IntKind.i64 vd)],
                [Blk.fix true [PV.sl 2 0 5 1 1 false false],
                  Blk.fix true
                    [PV.sc (Value.string s1), PV.sc (Value.string s2), PV.sc (Value.int IntKind.i64 s3),
                      PV.sc (Value.int IntKind.i64 s4), PV.sc (Value.int IntKind.i64 s5)],
                  Blk.row true
                    (Kd.str.pair
                      (Kd.str.pair ((Kd.int IntKind.i64).pair ((Kd.int IntKind.i64).pair (Kd.int IntKind.i64)))))
                    [(s1, s2, s3, s4, s5)]])
      else
        bif vd == 0 then
          some
            (Xt.normal,
              [PV.sl 2 0 5 1 1 false false, PV.sc (Value.int IntKind.i64 0), PV.sc (Value.int IntKind.i64 vd)],
              [Blk.fix true [PV.sl 3 0 5 1 1 false false],
                Blk.fix true
                  [PV.sc (Value.string s1), PV.sc (Value.string s2), PV.sc (Value.int IntKind.i64 s3),
                    PV.sc (Value.int IntKind.i64 s4), PV.sc (Value.int IntKind.i64 s5)],
                Blk.row true
                  (Kd.str.pair
                    (Kd.str.pair ((Kd.int IntKind.i64).pair ((Kd.int IntKind.i64).pair (Kd.int IntKind.i64)))))
                  [(s1, s2, s3, s4, s5)],
                Blk.row true
                  (Kd.str.pair
                    (Kd.str.pair ((Kd.int IntKind.i64).pair ((Kd.int IntKind.i64).pair (Kd.int IntKind.i64)))))
                  [(s1, s2, s3, s4, s5)]])
        else
          some
            (Xt.normal,
              [PV.sc (Value.slice none 0 0), PV.sc (Value.int IntKind.i64 0), PV.sc (Value.int IntKind.i64 vd)],
              [Blk.fix true [PV.sl 2 0 5 1 1 false false],
                Blk.fix true
                  [PV.sc (Value.string s1), PV.sc (Value.string s2), PV.sc (Value.int IntKind.i64 s3),
                    PV.sc (Value.int IntKind.i64 s4), PV.sc (Value.int IntKind.i64 s5)],
                Blk.row true
                  (Kd.str.pair
                    (Kd.str.pair ((Kd.int IntKind.i64).pair ((Kd.int IntKind.i64).pair (Kd.int IntKind.i64)))))
                  [(s1, s2, s3, s4, s5)]])
    else
      bif vd == 0 then
        bif mn == 16 then
          some
            (Xt.normal,
              [PV.sc (Value.slice none 0 0), PV.sc (Value.int IntKind.i64 0), PV.sc (Value.int IntKind.i64 9)],
              [Blk.fix true [PV.sl 2 0 5 1 1 false false],
                Blk.fix true
                  [PV.sc (Value.string s1), PV.sc (Value.string s2), PV.sc (Value.int IntKind.i64 s3),
                    PV.sc (Value.int IntKind.i64 s4), PV.sc (Value.int IntKind.i64 s5)],
                Blk.row true
                  (Kd.str.pair
                    (Kd.str.pair ((Kd.int IntKind.i64).pair ((Kd.int IntKind.i64).pair (Kd.int IntKind.i64)))))
                  [(s1, s2, s3, s4, s5)]])
        else
          bif vd == 0 then
            some
              (Xt.normal,
                [PV.sl 2 0 5 1 1 false false, PV.sc (Value.int IntKind.i64 0), PV.sc (Value.int IntKind.i64 vd)],
                [Blk.fix true [PV.sl 3 0 5 1 1 false false],
                  Blk.fix true
                    [PV.sc (Value.string s1), PV.sc (Value.string s2), PV.sc (Value.int IntKind.i64 s3),
                      PV.sc (Value.int IntKind.i64 s4), PV.sc (Value.int IntKind.i64 s5)],
                  Blk.row true
                    (Kd.str.pair
                      (Kd.str.pair ((Kd.int IntKind.i64).pair ((Kd.int IntKind.i64).pair (Kd.int IntKind.i64)))))
                    [(s1, s2, s3, s4, s5)],
                  Blk.row true
                    (Kd.str.pair
                      (Kd.str.pair ((Kd.int IntKind.i64).pair ((Kd.int IntKind.i64).pair (Kd.int IntKind.i64)))))
                    [(s1, s2, s3, s4, s5)]])
          else
            some
              (Xt.normal,
                [PV.sc (Value.slice none 0 0), PV.sc (Value.int IntKind.i64 0), PV.sc (Value.int IntKind.i64 vd)],
                [Blk.fix true [PV.sl 2 0 5 1 1 false false],
                  Blk.fix true
                    [PV.sc (Value.string s1), PV.sc (Value.string s2), PV.sc (Value.int IntKind.i64 s3),
                      PV.sc (Value.int IntKind.i64 s4), PV.sc (Value.int IntKind.i64 s5)],
                  Blk.row true
                    (Kd.str.pair
                      (Kd.str.pair ((Kd.int IntKind.i64).pair ((Kd.int IntKind.i64).pair (Kd.int IntKind.i64)))))
                    [(s1, s2, s3, s4, s5)]])
      else
        bif vd == 0 then
          some
            (Xt.normal,
              [PV.sl 2 0 5 1 1 false false, PV.sc (Value.int IntKind.i64 0), PV.sc (Value.int IntKind.i64 vd)],
              [Blk.fix true [PV.sl 3 0 5 1 1 false false],
                Blk.fix true
                  [PV.sc (Value.string s1), PV.sc (Value.string s2), PV.sc (Value.int IntKind.i64 s3),
                    PV.sc (Value.int IntKind.i64 s4), PV.sc (Value.int IntKind.i64 s5)],
                Blk.row true
                  (Kd.str.pair
                    (Kd.str.pair ((Kd.int IntKind.i64).pair ((Kd.int IntKind.i64).pair (Kd.int IntKind.i64)))))
                  [(s1, s2, s3, s4, s5)],
                Blk.row true
                  (Kd.str.pair
                    (Kd.str.pair ((Kd.int IntKind.i64).pair ((Kd.int IntKind.i64).pair (Kd.int IntKind.i64)))))
                  [(s1, s2, s3, s4, s5)]])
        else
          some
            (Xt.normal,
              [PV.sc (Value.slice none 0 0), PV.sc (Value.int IntKind.i64 0), PV.sc (Value.int IntKind.i64 vd)],
              [Blk.fix true [PV.sl 2 0 5 1 1 false false],
                Blk.fix true
                  [PV.sc (Value.string s1), PV.sc (Value.string s2), PV.sc (Value.int IntKind.i64 s3),
                    PV.sc (Value.int IntKind.i64 s4), PV.sc (Value.int IntKind.i64 s5)],
                Blk.row true
                  (Kd.str.pair
                    (Kd.str.pair ((Kd.int IntKind.i64).pair ((Kd.int IntKind.i64).pair (Kd.int IntKind.i64)))))
                  [(s1, s2, s3, s4, s5)]])
  else
    bif vd == 0 then
      bif vd == 0 then
        bif mn == 16 then
          some
            (Xt.normal,
              [PV.sc (Value.slice none 0 0), PV.sc (Value.int IntKind.i64 (chkS (s1, s2, s3, s4, s5))),
                PV.sc (Value.int IntKind.i64 9)],
              [Blk.fix true [PV.sc (Value.slice none 0 0)],
                Blk.fix true
                  [PV.sc (Value.string s1), PV.sc (Value.string s2), PV.sc (Value.int IntKind.i64 s3),
                    PV.sc (Value.int IntKind.i64 s4), PV.sc (Value.int IntKind.i64 s5)]])
        else
          bif vd == 0 then
            some
              (Xt.normal,
                [PV.sl 2 0 5 1 1 false false, PV.sc (Value.int IntKind.i64 (chkS (s1, s2, s3, s4, s5))),
                  PV.sc (Value.int IntKind.i64 vd)],
                [Blk.fix true [PV.sc (Value.slice none 0 0)],
                  Blk.fix true
                    [PV.sc (Value.string s1), PV.sc (Value.string s2), PV.sc (Value.int IntKind.i64 s3),
                      PV.sc (Value.int IntKind.i64 s4), PV.sc (Value.int IntKind.i64 s5)],
                  Blk.row true
                    (Kd.str.pair
                      (Kd.str.pair ((Kd.int IntKind.i64).pair ((Kd.int IntKind.i64).pair (Kd.int IntKind.i64)))))
                    [(s1, s2, s3, s4, s5)]])
          else
            some
              (Xt.normal,
                [PV.sc (Value.slice none 0 0), PV.sc (Value.int IntKind.i64 (chkS (s1, s2, s3, s4, s5))),
                  PV.sc (Value.int IntKind.i64 vd)],
                [Blk.fix true [PV.sc (Value.slice none 0 0)],
                  Blk.fix true
                    [PV.sc (Value.string s1), PV.sc (Value.string s2), PV.sc (Value.int IntKind.i64 s3),
                      PV.sc (Value.int IntKind.i64 s4), PV.sc (Value.int IntKind.i64 s5)]])
      else
        bif vd == 0 then
          some
            (Xt.normal,
              [PV.sl 2 0 5 1 1 false false, PV.sc (Value.int IntKind.i64 (chkS (s1, s2, s3, s4, s5))),
                PV.sc (Value.int IntKind.i64 vd)],
              [Blk.fix true [PV.sc (Value.slice none 0 0)],
                Blk.fix true
                  [PV.sc (Value.string s1), PV.sc (Value.string s2), PV.sc (Value.int IntKind.i64 s3),
                    PV.sc (Value.int IntKind.i64 s4), PV.sc (Value.int IntKind.i64 s5)],
                Blk.row true
                  (Kd.str.pair
                    (Kd.str.pair ((Kd.int IntKind.i64).pair ((Kd.int IntKind.i64).pair (Kd.int IntKind.i64)))))
                  [(s1, s2, s3, s4, s5)]])
        else
          some
            (Xt.normal,
              [PV.sc (Value.slice none 0 0), PV.sc (Value.int IntKind.i64 (chkS (s1, s2, s3, s4, s5))),
                PV.sc (Value.int IntKind.i64 vd)],
              [Blk.fix true [PV.sc (Value.slice none 0 0)],
                Blk.fix true
                  [PV.sc (Value.string s1), PV.sc (Value.string s2), PV.sc (Value.int IntKind.i64 s3),
                    PV.sc (Value.int IntKind.i64 s4), PV.sc (Value.int IntKind.i64 s5)]])
    else
      bif vd == 0 then
        bif mn == 16 then
          some
            (Xt.normal,
              [PV.sc (Value.slice none 0 0), PV.sc (Value.int IntKind.i64 (chkS (s1, s2, s3, s4, s5))),
                PV.sc (Value.int IntKind.i64 9)],
              [Blk.fix true [PV.sc (Value.slice none 0 0)],
                Blk.fix true
                  [PV.sc (Value.string s1), PV.sc (Value.string s2), PV.sc (Value.int IntKind.i64 s3),
                    PV.sc (Value.int IntKind.i64 s4), PV.sc (Value.int IntKind.i64 s5)]])
        else
          bif vd == 0 then
            some
              (Xt.normal,
                [PV.sl 2 0 5 1 1 false false, PV.sc (Value.int IntKind.i64 (chkS (s1, s2, s3, s4, s5))),
                  PV.sc (Value.int IntKind.i64 vd)],
                [Blk.fix true [PV.sc (Value.slice none 0 0)],
                  Blk.fix true
                    [PV.sc (Value.string s1), PV.sc (Value.string s2), PV.sc (Value.int IntKind.i64 s3),
                      PV.sc (Value.int IntKind.i64 s4), PV.sc (Value.int IntKind.i64 s5)],
                  Blk.row true
                    (Kd.str.pair
                      (Kd.str.pair ((Kd.int IntKind.i64).pair ((Kd.int IntKind.i64).pair (Kd.int IntKind.i64)))))
                    [(s1, s2, s3, s4, s5)]])
          else
            some
              (Xt.normal,
                [PV.sc (Value.slice none 0 0), PV.sc (Value.int IntKind.i64 (chkS (s1, s2, s3, s4, s5))),
                  PV.sc (Value.int IntKind.i64 vd)],
                [Blk.fix true [PV.sc (Value.slice none 0 0)],
                  Blk.fix true
                    [PV.sc (Value.string s1), PV.sc (Value.string s2), PV.sc (Value.int IntKind.i64 s3),
                      PV.sc (Value.int IntKind.i64 s4), PV.sc (Value.int IntKind.i64 s5)]])
      else
        bif vd == 0 then
          some
            (Xt.normal,
              [PV.sl 2 0 5 1 1 false false, PV.sc (Value.int IntKind.i64 (chkS (s1, s2, s3, s4, s5))),
                PV.sc (Value.int IntKind.i64 vd)],
              [Blk.fix true [PV.sc (Value.slice none 0 0)],
                Blk.fix true
                  [PV.sc (Value.string s1), PV.sc (Value.string s2), PV.sc (Value.int IntKind.i64 s3),
                    PV.sc (Value.int IntKind.i64 s4), PV.sc (Value.int IntKind.i64 s5)],
                Blk.row true
                  (Kd.str.pair
                    (Kd.str.pair ((Kd.int IntKind.i64).pair ((Kd.int IntKind.i64).pair (Kd.int IntKind.i64)))))
                  [(s1, s2, s3, s4, s5)]])
        else
          some
            (Xt.normal,
              [PV.sc (Value.slice none 0 0), PV.sc (Value.int IntKind.i64 (chkS (s1, s2, s3, s4, s5))),
                PV.sc (Value.int IntKind.i64 vd)],
              [Blk.fix true [PV.sc (Value.slice none 0 0)],
                Blk.fix true
                  [PV.sc (Value.string s1), PV.sc (Value.string s2), PV.sc (Value.int IntKind.i64 s3),
                    PV.sc (Value.int IntKind.i64 s4), PV.sc (Value.int IntKind.i64 s5)]]))) := by kernel_rfl
noncomputable abbrev s3a1L (L : List (ByteArray × ByteArray × Int × Int × Int)) (n : Nat) (lo : Nat) (fu : Bool) (L2 : List (ByteArray × ByteArray × Int × Int × Int)) (n2 : Nat) (lo2 : Nat) (fu2 : Bool) (s1 : ByteArray) (s2 : ByteArray) (s3 : Int) (s4 : Int) (s5 : Int) (k : Int) (vd : Int) (mn : Int) := (evBlockR Try.prog U9 noCuts 219 (codeAt 5 (bodyF Try.f3)) [] [7, 8, 11, 12, 13, 14, 18, 88] [8, 17, 18]
  (st5 (.inr ((s1, s2, s3, s4, s5), vd, mn, 0, 1))).1 (st5 (.inr ((s1, s2, s3, s4, s5), vd, mn, 0, 1))).2)
theorem s3a1 (L : List (ByteArray × ByteArray × Int × Int × Int)) (n : Nat) (lo : Nat) (fu : Bool) (L2 : List (ByteArray × ByteArray × Int × Int × Int)) (n2 : Nat) (lo2 : Nat) (fu2 : Bool) (s1 : ByteArray) (s2 : ByteArray) (s3 : Int) (s4 : Int) (s5 : Int) (k : Int) (vd : Int) (mn : Int) : s3a1L L n lo fu L2 n2 lo2 fu2 s1 s2 s3 s4 s5 k vd mn = (some
  (Xt.normal,
    [PV.sc (Value.slice none 0 0), PV.sc (Value.int IntKind.i64 (bif !inS s5 0 3 then 4 else 8)),
      PV.sc (Value.int IntKind.i64 (bif !inS s5 0 3 then 4 else 8))],
    [Blk.fix true [PV.sc (Value.slice none 0 0)],
      Blk.fix true
        [PV.sc (Value.string s1), PV.sc (Value.string s2), PV.sc (Value.int IntKind.i64 s3),
          PV.sc (Value.int IntKind.i64 s4), PV.sc (Value.int IntKind.i64 s5)]])) := by kernel_rfl
noncomputable abbrev s3a2L (L : List (ByteArray × ByteArray × Int × Int × Int)) (n : Nat) (lo : Nat) (fu : Bool) (L2 : List (ByteArray × ByteArray × Int × Int × Int)) (n2 : Nat) (lo2 : Nat) (fu2 : Bool) (s1 : ByteArray) (s2 : ByteArray) (s3 : Int) (s4 : Int) (s5 : Int) (k : Int) (vd : Int) (mn : Int) := (evBlockR Try.prog U9 noCuts 219 (codeAt 5 (bodyF Try.f3)) [] [7, 8, 11, 12, 13, 14, 18, 88] [8, 17, 18]
  (st5 (.inr ((s1, s2, s3, s4, s5), vd, mn, 0, 2))).1 (st5 (.inr ((s1, s2, s3, s4, s5), vd, mn, 0, 2))).2)
theorem s3a2 (L : List (ByteArray × ByteArray × Int × Int × Int)) (n : Nat) (lo : Nat) (fu : Bool) (L2 : List (ByteArray × ByteArray × Int × Int × Int)) (n2 : Nat) (lo2 : Nat) (fu2 : Bool) (s1 : ByteArray) (s2 : ByteArray) (s3 : Int) (s4 : Int) (s5 : Int) (k : Int) (vd : Int) (mn : Int) : s3a2L L n lo fu L2 n2 lo2 fu2 s1 s2 s3 s4 s5 k vd mn = (guardB (okS (s1, s2, s3, s4, s5))
  (bif vd == 0 then
    some
      (Xt.normal,
        [PV.sc (Value.slice none 0 0),
          PV.sc (Value.int IntKind.i64 (bif chkS (s1, s2, s3, s4, s5) != 0 then chkS (s1, s2, s3, s4, s5) else 8)),
          PV.sc (Value.int IntKind.i64 8)],
        [Blk.fix true [PV.sc (Value.slice none 0 0)],
          Blk.fix true
            [PV.sc (Value.string s1), PV.sc (Value.string s2), PV.sc (Value.int IntKind.i64 s3),
              PV.sc (Value.int IntKind.i64 s4), PV.sc (Value.int IntKind.i64 s5)]])
  else
    bif vd == 0 then none
    else
      bif vd == 0 then none
      else
        some
          (Xt.normal,
            [PV.sc (Value.slice none 0 0),
              PV.sc (Value.int IntKind.i64 (bif chkS (s1, s2, s3, s4, s5) != 0 then chkS (s1, s2, s3, s4, s5) else 8)),
              PV.sc (Value.int IntKind.i64 vd)],
            [Blk.fix true [PV.sc (Value.slice none 0 0)],
              Blk.fix true
                [PV.sc (Value.string s1), PV.sc (Value.string s2), PV.sc (Value.int IntKind.i64 s3),
                  PV.sc (Value.int IntKind.i64 s4), PV.sc (Value.int IntKind.i64 s5)]]))) := by kernel_rfl
noncomputable abbrev s3a3L (L : List (ByteArray × ByteArray × Int × Int × Int)) (n : Nat) (lo : Nat) (fu : Bool) (L2 : List (ByteArray × ByteArray × Int × Int × Int)) (n2 : Nat) (lo2 : Nat) (fu2 : Bool) (s1 : ByteArray) (s2 : ByteArray) (s3 : Int) (s4 : Int) (s5 : Int) (k : Int) (vd : Int) (mn : Int) := (evBlockR Try.prog U9 noCuts 219 (codeAt 5 (bodyF Try.f3)) [] [7, 8, 11, 12, 13, 14, 18, 88] [8, 17, 18]
  (st5 (.inr ((s1, s2, s3, s4, s5), vd, mn, 0, 3))).1 (st5 (.inr ((s1, s2, s3, s4, s5), vd, mn, 0, 3))).2)
theorem s3a3 (L : List (ByteArray × ByteArray × Int × Int × Int)) (n : Nat) (lo : Nat) (fu : Bool) (L2 : List (ByteArray × ByteArray × Int × Int × Int)) (n2 : Nat) (lo2 : Nat) (fu2 : Bool) (s1 : ByteArray) (s2 : ByteArray) (s3 : Int) (s4 : Int) (s5 : Int) (k : Int) (vd : Int) (mn : Int) : s3a3L L n lo fu L2 n2 lo2 fu2 s1 s2 s3 s4 s5 k vd mn = (some
  (Xt.normal, [PV.sc (Value.slice none 0 0), PV.sc (Value.int IntKind.i64 8), PV.sc (Value.int IntKind.i64 8)],
    [Blk.fix true [PV.sc (Value.slice none 0 0)],
      Blk.fix true
        [PV.sc (Value.string s1), PV.sc (Value.string s2), PV.sc (Value.int IntKind.i64 s3),
          PV.sc (Value.int IntKind.i64 s4), PV.sc (Value.int IntKind.i64 s5)]])) := by kernel_rfl
noncomputable abbrev s3b0L (L : List (ByteArray × ByteArray × Int × Int × Int)) (n : Nat) (lo : Nat) (fu : Bool) (L2 : List (ByteArray × ByteArray × Int × Int × Int)) (n2 : Nat) (lo2 : Nat) (fu2 : Bool) (s1 : ByteArray) (s2 : ByteArray) (s3 : Int) (s4 : Int) (s5 : Int) (k : Int) (vd : Int) (mn : Int) := (evBlockR Try.prog U9 noCuts 219 (codeAt 5 (bodyF Try.f3)) [1, 2] [7, 8, 11, 12, 13, 14, 18, 88] [8, 17, 18]
  (st5 (.inl ((L, n, lo, fu), (L2, n2, lo2, fu2), (s1, s2, s3, s4, s5), k, vd, mn, 0, 0))).1
  (st5 (.inl ((L, n, lo, fu), (L2, n2, lo2, fu2), (s1, s2, s3, s4, s5), k, vd, mn, 0, 0))).2)
theorem s3b0 (L : List (ByteArray × ByteArray × Int × Int × Int)) (n : Nat) (lo : Nat) (fu : Bool) (L2 : List (ByteArray × ByteArray × Int × Int × Int)) (n2 : Nat) (lo2 : Nat) (fu2 : Bool) (s1 : ByteArray) (s2 : ByteArray) (s3 : Int) (s4 : Int) (s5 : Int) (k : Int) (vd : Int) (mn : Int) : s3b0L L n lo fu L2 n2 lo2 fu2 s1 s2 s3 s4 s5 k vd mn = (guardB (okV (L, n, lo, fu, false) && okS (s1, s2, s3, s4, s5))
  (bif YtokephobkllfgaaSs.putE L (s1, s2, s3, s4, s5) == 0 then
    bif vd == 0 then
      bif decide (k ≥ 0) then
        some
          (Xt.normal, [PV.sl 4 0 5 n2 n2 false false, PV.sc (Value.int IntKind.i64 0), PV.sc (Value.int IntKind.i64 7)],
            [Blk.fix true
                [PV.sl 5 0 5 (L ++ [(s1, s2, s3, s4, s5)]).length (L ++ [(s1, s2, s3, s4, s5)]).length false false],
              Blk.dead, Blk.dead,
              Blk.fix true
                [PV.sc (Value.string s1), PV.sc (Value.string s2), PV.sc (Value.int IntKind.i64 s3),
                  PV.sc (Value.int IntKind.i64 s4), PV.sc (Value.int IntKind.i64 s5)],
              Blk.row true
                (Kd.str.pair (Kd.str.pair ((Kd.int IntKind.i64).pair ((Kd.int IntKind.i64).pair (Kd.int IntKind.i64)))))
                L2,
              Blk.row true
                (Kd.str.pair (Kd.str.pair ((Kd.int IntKind.i64).pair ((Kd.int IntKind.i64).pair (Kd.int IntKind.i64)))))
                (L ++ [(s1, s2, s3, s4, s5)])])
      else
        bif vd == 0 then
          bif mn == 16 then
            some
              (Xt.normal,
                [PV.sl 4 0 5 n2 n2 false false, PV.sc (Value.int IntKind.i64 0), PV.sc (Value.int IntKind.i64 9)],
                [Blk.fix true
                    [PV.sl 5 0 5 (L ++ [(s1, s2, s3, s4, s5)]).length (L ++ [(s1, s2, s3, s4, s5)]).length false false],
                  Blk.dead, Blk.dead,
                  Blk.fix true
                    [PV.sc (Value.string s1), PV.sc (Value.string s2), PV.sc (Value.int IntKind.i64 s3),
                      PV.sc (Value.int IntKind.i64 s4), PV.sc (Value.int IntKind.i64 s5)],
                  Blk.row true
                    (Kd.str.pair
                      (Kd.str.pair ((Kd.int IntKind.i64).pair ((Kd.int IntKind.i64).pair (Kd.int IntKind.i64)))))
                    L2,
                  Blk.row true
                    (Kd.str.pair
                      (Kd.str.pair ((Kd.int IntKind.i64).pair ((Kd.int IntKind.i64).pair (Kd.int IntKind.i64)))))
                    (L ++ [(s1, s2, s3, s4, s5)])])
          else
            bif vd == 0 then
              guardB
                (decide (0 + n2 ≤ L2.length) && true && decide ((n2 + 1) * 56 ≤ 140737488355328) &&
                  decide (n2 + 1 ≤ 4611686018427387904))
                (bif fu2 && true then
                  some
                    (Xt.normal,
                      [PV.sl 4 0 5 (n2 + 1) (n2 + 1) false false, PV.sc (Value.int IntKind.i64 0),
                        PV.sc (Value.int IntKind.i64 vd)],
                      [Blk.fix true
                          [PV.sl 5 0 5 (L ++ [(s1, s2, s3, s4, s5)]).length (L ++ [(s1, s2, s3, s4, s5)]).length false
                              false],
                        Blk.dead, Blk.dead,
                        Blk.fix true
                          [PV.sc (Value.string s1), PV.sc (Value.string s2), PV.sc (Value.int IntKind.i64 s3),
                            PV.sc (Value.int IntKind.i64 s4), PV.sc (Value.int IntKind.i64 s5)],
                        Blk.row true
                          (Kd.str.pair
                            (Kd.str.pair ((Kd.int IntKind.i64).pair ((Kd.int IntKind.i64).pair (Kd.int IntKind.i64)))))
                          (List.take n2 L2 ++ [(s1, s2, s3, s4, s5)]),
                        Blk.row true
                          (Kd.str.pair
                            (Kd.str.pair ((Kd.int IntKind.i64).pair ((Kd.int IntKind.i64).pair (Kd.int IntKind.i64)))))
                          (L ++ [(s1, s2, s3, s4, s5)])])
                else
                  some
                    (Xt.normal,
                      [PV.sl 4 0 5 (n2 + 1) (n2 + 1) false false, PV.sc (Value.int IntKind.i64 0),
                        PV.sc (Value.int IntKind.i64 vd)],
                      [Blk.fix true
                          [PV.sl 5 0 5 (L ++ [(s1, s2, s3, s4, s5)]).length (L ++ [(s1, s2, s3, s4, s5)]).length false
                              false],
                        Blk.dead, Blk.dead,
                        Blk.fix true
                          [PV.sc (Value.string s1), PV.sc (Value.string s2), PV.sc (Value.int IntKind.i64 s3),
                            PV.sc (Value.int IntKind.i64 s4), PV.sc (Value.int IntKind.i64 s5)],
                        Blk.row true
                          (Kd.str.pair
                            (Kd.str.pair ((Kd.int IntKind.i64).pair ((Kd.int IntKind.i64).pair (Kd.int IntKind.i64)))))
                          (List.take n2 L2 ++ [(s1, s2, s3, s4, s5)]),
                        Blk.row true
                          (Kd.str.pair
                            (Kd.str.pair ((Kd.int IntKind.i64).pair ((Kd.int IntKind.i64).pair (Kd.int IntKind.i64)))))
                          (L ++ [(s1, s2, s3, s4, s5)])]))
            else
              some
                (Xt.normal,
                  [PV.sl 4 0 5 n2 n2 false false, PV.sc (Value.int IntKind.i64 0), PV.sc (Value.int IntKind.i64 vd)],
                  [Blk.fix true
                      [PV.sl 5 0 5 (L ++ [(s1, s2, s3, s4, s5)]).length (L ++ [(s1, s2, s3, s4, s5)]).length false
                          false],
                    Blk.dead, Blk.dead,
                    Blk.fix true
                      [PV.sc (Value.string s1), PV.sc (Value.string s2), PV.sc (Value.int IntKind.i64 s3),
                        PV.sc (Value.int IntKind.i64 s4), PV.sc (Value.int IntKind.i64 s5)],
                    Blk.row true
                      (Kd.str.pair
                        (Kd.str.pair ((Kd.int IntKind.i64).pair ((Kd.int IntKind.i64).pair (Kd.int IntKind.i64)))))
                      L2,
                    Blk.row true
                      (Kd.str.pair
                        (Kd.str.pair ((Kd.int IntKind.i64).pair ((Kd.int IntKind.i64).pair (Kd.int IntKind.i64)))))
                      (L ++ [(s1, s2, s3, s4, s5)])])
        else
          bif vd == 0 then
            guardB
              (decide (0 + n2 ≤ L2.length) && true && decide ((n2 + 1) * 56 ≤ 140737488355328) &&
                decide (n2 + 1 ≤ 4611686018427387904))
              (bif fu2 && true then
                some
                  (Xt.normal,
                    [PV.sl 4 0 5 (n2 + 1) (n2 + 1) false false, PV.sc (Value.int IntKind.i64 0),
                      PV.sc (Value.int IntKind.i64 vd)],
                    [Blk.fix true
                        [PV.sl 5 0 5 (L ++ [(s1, s2, s3, s4, s5)]).length (L ++ [(s1, s2, s3, s4, s5)]).length false
                            false],
                      Blk.dead, Blk.dead,
                      Blk.fix true
                        [PV.sc (Value.string s1), PV.sc (Value.string s2), PV.sc (Value.int IntKind.i64 s3),
                          PV.sc (Value.int IntKind.i64 s4), PV.sc (Value.int IntKind.i64 s5)],
                      Blk.row true
                        (Kd.str.pair
                          (Kd.str.pair ((Kd.int IntKind.i64).pair ((Kd.int IntKind.i64).pair (Kd.int IntKind.i64)))))
                        (List.take n2 L2 ++ [(s1, s2, s3, s4, s5)]),
                      Blk.row true
                        (Kd.str.pair
                          (Kd.str.pair ((Kd.int IntKind.i64).pair ((Kd.int IntKind.i64).pair (Kd.int IntKind.i64)))))
                        (L ++ [(s1, s2, s3, s4, s5)])])
              else
                some
                  (Xt.normal,
                    [PV.sl 4 0 5 (n2 + 1) (n2 + 1) false false, PV.sc (Value.int IntKind.i64 0),
                      PV.sc (Value.int IntKind.i64 vd)],
                    [Blk.fix true
                        [PV.sl 5 0 5 (L ++ [(s1, s2, s3, s4, s5)]).length (L ++ [(s1, s2, s3, s4, s5)]).length false
                            false],
                      Blk.dead, Blk.dead,
                      Blk.fix true
                        [PV.sc (Value.string s1), PV.sc (Value.string s2), PV.sc (Value.int IntKind.i64 s3),
                          PV.sc (Value.int IntKind.i64 s4), PV.sc (Value.int IntKind.i64 s5)],
                      Blk.row true
                        (Kd.str.pair
                          (Kd.str.pair ((Kd.int IntKind.i64).pair ((Kd.int IntKind.i64).pair (Kd.int IntKind.i64)))))
                        (List.take n2 L2 ++ [(s1, s2, s3, s4, s5)]),
                      Blk.row true
                        (Kd.str.pair
                          (Kd.str.pair ((Kd.int IntKind.i64).pair ((Kd.int IntKind.i64).pair (Kd.int IntKind.i64)))))
                        (L ++ [(s1, s2, s3, s4, s5)])]))
          else
            some
              (Xt.normal,
                [PV.sl 4 0 5 n2 n2 false false, PV.sc (Value.int IntKind.i64 0), PV.sc (Value.int IntKind.i64 vd)],
                [Blk.fix true
                    [PV.sl 5 0 5 (L ++ [(s1, s2, s3, s4, s5)]).length (L ++ [(s1, s2, s3, s4, s5)]).length false false],
                  Blk.dead, Blk.dead,
                  Blk.fix true
                    [PV.sc (Value.string s1), PV.sc (Value.string s2), PV.sc (Value.int IntKind.i64 s3),
                      PV.sc (Value.int IntKind.i64 s4), PV.sc (Value.int IntKind.i64 s5)],
                  Blk.row true
                    (Kd.str.pair
                      (Kd.str.pair ((Kd.int IntKind.i64).pair ((Kd.int IntKind.i64).pair (Kd.int IntKind.i64)))))
                    L2,
                  Blk.row true
                    (Kd.str.pair
                      (Kd.str.pair ((Kd.int IntKind.i64).pair ((Kd.int IntKind.i64).pair (Kd.int IntKind.i64)))))
                    (L ++ [(s1, s2, s3, s4, s5)])])
    else
      bif vd == 0 then
        bif mn == 16 then
          some
            (Xt.normal,
              [PV.sl 4 0 5 n2 n2 false false, PV.sc (Value.int IntKind.i64 0), PV.sc (Value.int IntKind.i64 9)],
              [Blk.fix true
                  [PV.sl 5 0 5 (L ++ [(s1, s2, s3, s4, s5)]).length (L ++ [(s1, s2, s3, s4, s5)]).length false false],
                Blk.dead, Blk.dead,
                Blk.fix true
                  [PV.sc (Value.string s1), PV.sc (Value.string s2), PV.sc (Value.int IntKind.i64 s3),
                    PV.sc (Value.int IntKind.i64 s4), PV.sc (Value.int IntKind.i64 s5)],
                Blk.row true
                  (Kd.str.pair
                    (Kd.str.pair ((Kd.int IntKind.i64).pair ((Kd.int IntKind.i64).pair (Kd.int IntKind.i64)))))
                  L2,
                Blk.row true
                  (Kd.str.pair
                    (Kd.str.pair ((Kd.int IntKind.i64).pair ((Kd.int IntKind.i64).pair (Kd.int IntKind.i64)))))
                  (L ++ [(s1, s2, s3, s4, s5)])])
        else
          bif vd == 0 then
            guardB
              (decide (0 + n2 ≤ L2.length) && true && decide ((n2 + 1) * 56 ≤ 140737488355328) &&
                decide (n2 + 1 ≤ 4611686018427387904))
              (bif fu2 && true then
                some
                  (Xt.normal,
                    [PV.sl 4 0 5 (n2 + 1) (n2 + 1) false false, PV.sc (Value.int IntKind.i64 0),
                      PV.sc (Value.int IntKind.i64 vd)],
                    [Blk.fix true
                        [PV.sl 5 0 5 (L ++ [(s1, s2, s3, s4, s5)]).length (L ++ [(s1, s2, s3, s4, s5)]).length false
                            false],
                      Blk.dead, Blk.dead,
                      Blk.fix true
                        [PV.sc (Value.string s1), PV.sc (Value.string s2), PV.sc (Value.int IntKind.i64 s3),
                          PV.sc (Value.int IntKind.i64 s4), PV.sc (Value.int IntKind.i64 s5)],
                      Blk.row true
                        (Kd.str.pair
                          (Kd.str.pair ((Kd.int IntKind.i64).pair ((Kd.int IntKind.i64).pair (Kd.int IntKind.i64)))))
                        (List.take n2 L2 ++ [(s1, s2, s3, s4, s5)]),
                      Blk.row true
                        (Kd.str.pair
                          (Kd.str.pair ((Kd.int IntKind.i64).pair ((Kd.int IntKind.i64).pair (Kd.int IntKind.i64)))))
                        (L ++ [(s1, s2, s3, s4, s5)])])
              else
                some
                  (Xt.normal,
                    [PV.sl 4 0 5 (n2 + 1) (n2 + 1) false false, PV.sc (Value.int IntKind.i64 0),
                      PV.sc (Value.int IntKind.i64 vd)],
                    [Blk.fix true
                        [PV.sl 5 0 5 (L ++ [(s1, s2, s3, s4, s5)]).length (L ++ [(s1, s2, s3, s4, s5)]).length false
                            false],
                      Blk.dead, Blk.dead,
                      Blk.fix true
                        [PV.sc (Value.string s1), PV.sc (Value.string s2), PV.sc (Value.int IntKind.i64 s3),
                          PV.sc (Value.int IntKind.i64 s4), PV.sc (Value.int IntKind.i64 s5)],
                      Blk.row true
                        (Kd.str.pair
                          (Kd.str.pair ((Kd.int IntKind.i64).pair ((Kd.int IntKind.i64).pair (Kd.int IntKind.i64)))))
                        (List.take n2 L2 ++ [(s1, s2, s3, s4, s5)]),
                      Blk.row true
                        (Kd.str.pair
                          (Kd.str.pair ((Kd.int IntKind.i64).pair ((Kd.int IntKind.i64).pair (Kd.int IntKind.i64)))))
                        (L ++ [(s1, s2, s3, s4, s5)])]))
          else
            some
              (Xt.normal,
                [PV.sl 4 0 5 n2 n2 false false, PV.sc (Value.int IntKind.i64 0), PV.sc (Value.int IntKind.i64 vd)],
                [Blk.fix true
                    [PV.sl 5 0 5 (L ++ [(s1, s2, s3, s4, s5)]).length (L ++ [(s1, s2, s3, s4, s5)]).length false false],
                  Blk.dead, Blk.dead,
                  Blk.fix true
                    [PV.sc (Value.string s1), PV.sc (Value.string s2), PV.sc (Value.int IntKind.i64 s3),
                      PV.sc (Value.int IntKind.i64 s4), PV.sc (Value.int IntKind.i64 s5)],
                  Blk.row true
                    (Kd.str.pair
                      (Kd.str.pair ((Kd.int IntKind.i64).pair ((Kd.int IntKind.i64).pair (Kd.int IntKind.i64)))))
                    L2,
                  Blk.row true
                    (Kd.str.pair
                      (Kd.str.pair ((Kd.int IntKind.i64).pair ((Kd.int IntKind.i64).pair (Kd.int IntKind.i64)))))
                    (L ++ [(s1, s2, s3, s4, s5)])])
      else
        bif vd == 0 then
          guardB
            (decide (0 + n2 ≤ L2.length) && true && decide ((n2 + 1) * 56 ≤ 140737488355328) &&
              decide (n2 + 1 ≤ 4611686018427387904))
            (bif fu2 && true then
              some
                (Xt.normal,
                  [PV.sl 4 0 5 (n2 + 1) (n2 + 1) false false, PV.sc (Value.int IntKind.i64 0),
                    PV.sc (Value.int IntKind.i64 vd)],
                  [Blk.fix true
                      [PV.sl 5 0 5 (L ++ [(s1, s2, s3, s4, s5)]).length (L ++ [(s1, s2, s3, s4, s5)]).length false
                          false],
                    Blk.dead, Blk.dead,
                    Blk.fix true
                      [PV.sc (Value.string s1), PV.sc (Value.string s2), PV.sc (Value.int IntKind.i64 s3),
                        PV.sc (Value.int IntKind.i64 s4), PV.sc (Value.int IntKind.i64 s5)],
                    Blk.row true
                      (Kd.str.pair
                        (Kd.str.pair ((Kd.int IntKind.i64).pair ((Kd.int IntKind.i64).pair (Kd.int IntKind.i64)))))
                      (List.take n2 L2 ++ [(s1, s2, s3, s4, s5)]),
                    Blk.row true
                      (Kd.str.pair
                        (Kd.str.pair ((Kd.int IntKind.i64).pair ((Kd.int IntKind.i64).pair (Kd.int IntKind.i64)))))
                      (L ++ [(s1, s2, s3, s4, s5)])])
            else
              some
                (Xt.normal,
                  [PV.sl 4 0 5 (n2 + 1) (n2 + 1) false false, PV.sc (Value.int IntKind.i64 0),
                    PV.sc (Value.int IntKind.i64 vd)],
                  [Blk.fix true
                      [PV.sl 5 0 5 (L ++ [(s1, s2, s3, s4, s5)]).length (L ++ [(s1, s2, s3, s4, s5)]).length false
                          false],
                    Blk.dead, Blk.dead,
                    Blk.fix true
                      [PV.sc (Value.string s1), PV.sc (Value.string s2), PV.sc (Value.int IntKind.i64 s3),
                        PV.sc (Value.int IntKind.i64 s4), PV.sc (Value.int IntKind.i64 s5)],
                    Blk.row true
                      (Kd.str.pair
                        (Kd.str.pair ((Kd.int IntKind.i64).pair ((Kd.int IntKind.i64).pair (Kd.int IntKind.i64)))))
                      (List.take n2 L2 ++ [(s1, s2, s3, s4, s5)]),
                    Blk.row true
                      (Kd.str.pair
                        (Kd.str.pair ((Kd.int IntKind.i64).pair ((Kd.int IntKind.i64).pair (Kd.int IntKind.i64)))))
                      (L ++ [(s1, s2, s3, s4, s5)])]))
        else
          some
            (Xt.normal,
              [PV.sl 4 0 5 n2 n2 false false, PV.sc (Value.int IntKind.i64 0), PV.sc (Value.int IntKind.i64 vd)],
              [Blk.fix true
                  [PV.sl 5 0 5 (L ++ [(s1, s2, s3, s4, s5)]).length (L ++ [(s1, s2, s3, s4, s5)]).length false false],
                Blk.dead, Blk.dead,
                Blk.fix true
                  [PV.sc (Value.string s1), PV.sc (Value.string s2), PV.sc (Value.int IntKind.i64 s3),
                    PV.sc (Value.int IntKind.i64 s4), PV.sc (Value.int IntKind.i64 s5)],
                Blk.row true
                  (Kd.str.pair
                    (Kd.str.pair ((Kd.int IntKind.i64).pair ((Kd.int IntKind.i64).pair (Kd.int IntKind.i64)))))
                  L2,
                Blk.row true
                  (Kd.str.pair
                    (Kd.str.pair ((Kd.int IntKind.i64).pair ((Kd.int IntKind.i64).pair (Kd.int IntKind.i64)))))
                  (L ++ [(s1, s2, s3, s4, s5)])])
  else
    bif vd == 0 then
      bif decide (k ≥ 0) then
        some
          (Xt.normal,
            [PV.sl 4 0 5 n2 n2 false false,
              PV.sc (Value.int IntKind.i64 (YtokephobkllfgaaSs.putE L (s1, s2, s3, s4, s5))),
              PV.sc (Value.int IntKind.i64 7)],
            [Blk.fix true [PV.sl 5 0 5 L.length L.length false false], Blk.dead, Blk.dead,
              Blk.fix true
                [PV.sc (Value.string s1), PV.sc (Value.string s2), PV.sc (Value.int IntKind.i64 s3),
                  PV.sc (Value.int IntKind.i64 s4), PV.sc (Value.int IntKind.i64 s5)],
              Blk.row true
                (Kd.str.pair (Kd.str.pair ((Kd.int IntKind.i64).pair ((Kd.int IntKind.i64).pair (Kd.int IntKind.i64)))))
                L2,
              Blk.row true
                (Kd.str.pair (Kd.str.pair ((Kd.int IntKind.i64).pair ((Kd.int IntKind.i64).pair (Kd.int IntKind.i64)))))
                L])
      else
        bif vd == 0 then
          bif mn == 16 then
            some
              (Xt.normal,
                [PV.sl 4 0 5 n2 n2 false false,
                  PV.sc (Value.int IntKind.i64 (YtokephobkllfgaaSs.putE L (s1, s2, s3, s4, s5))),
                  PV.sc (Value.int IntKind.i64 9)],
                [Blk.fix true [PV.sl 5 0 5 L.length L.length false false], Blk.dead, Blk.dead,
                  Blk.fix true
                    [PV.sc (Value.string s1), PV.sc (Value.string s2), PV.sc (Value.int IntKind.i64 s3),
                      PV.sc (Value.int IntKind.i64 s4), PV.sc (Value.int IntKind.i64 s5)],
                  Blk.row true
                    (Kd.str.pair
                      (Kd.str.pair ((Kd.int IntKind.i64).pair ((Kd.int IntKind.i64).pair (Kd.int IntKind.i64)))))
                    L2,
                  Blk.row true
                    (Kd.str.pair
                      (Kd.str.pair ((Kd.int IntKind.i64).pair ((Kd.int IntKind.i64).pair (Kd.int IntKind.i64)))))
                    L])
          else
            bif vd == 0 then
              guardB
                (decide (0 + n2 ≤ L2.length) && true && decide ((n2 + 1) * 56 ≤ 140737488355328) &&
                  decide (n2 + 1 ≤ 4611686018427387904))
                (bif fu2 && true then
                  some
                    (Xt.normal,
                      [PV.sl 4 0 5 (n2 + 1) (n2 + 1) false false,
                        PV.sc (Value.int IntKind.i64 (YtokephobkllfgaaSs.putE L (s1, s2, s3, s4, s5))),
                        PV.sc (Value.int IntKind.i64 vd)],
                      [Blk.fix true [PV.sl 5 0 5 L.length L.length false false], Blk.dead, Blk.dead,
                        Blk.fix true
                          [PV.sc (Value.string s1), PV.sc (Value.string s2), PV.sc (Value.int IntKind.i64 s3),
                            PV.sc (Value.int IntKind.i64 s4), PV.sc (Value.int IntKind.i64 s5)],
                        Blk.row true
                          (Kd.str.pair
                            (Kd.str.pair ((Kd.int IntKind.i64).pair ((Kd.int IntKind.i64).pair (Kd.int IntKind.i64)))))
                          (List.take n2 L2 ++ [(s1, s2, s3, s4, s5)]),
                        Blk.row true
                          (Kd.str.pair
                            (Kd.str.pair ((Kd.int IntKind.i64).pair ((Kd.int IntKind.i64).pair (Kd.int IntKind.i64)))))
                          L])
                else
                  some
                    (Xt.normal,
                      [PV.sl 4 0 5 (n2 + 1) (n2 + 1) false false,
                        PV.sc (Value.int IntKind.i64 (YtokephobkllfgaaSs.putE L (s1, s2, s3, s4, s5))),
                        PV.sc (Value.int IntKind.i64 vd)],
                      [Blk.fix true [PV.sl 5 0 5 L.length L.length false false], Blk.dead, Blk.dead,
                        Blk.fix true
                          [PV.sc (Value.string s1), PV.sc (Value.string s2), PV.sc (Value.int IntKind.i64 s3),
                            PV.sc (Value.int IntKind.i64 s4), PV.sc (Value.int IntKind.i64 s5)],
                        Blk.row true
                          (Kd.str.pair
                            (Kd.str.pair ((Kd.int IntKind.i64).pair ((Kd.int IntKind.i64).pair (Kd.int IntKind.i64)))))
                          (List.take n2 L2 ++ [(s1, s2, s3, s4, s5)]),
                        Blk.row true
                          (Kd.str.pair
                            (Kd.str.pair ((Kd.int IntKind.i64).pair ((Kd.int IntKind.i64).pair (Kd.int IntKind.i64)))))
                          L]))
            else
              some
                (Xt.normal,
                  [PV.sl 4 0 5 n2 n2 false false,
                    PV.sc (Value.int IntKind.i64 (YtokephobkllfgaaSs.putE L (s1, s2, s3, s4, s5))),
                    PV.sc (Value.int IntKind.i64 vd)],
                  [Blk.fix true [PV.sl 5 0 5 L.length L.length false false], Blk.dead, Blk.dead,
                    Blk.fix true
                      [PV.sc (Value.string s1), PV.sc (Value.string s2), PV.sc (Value.int IntKind.i64 s3),
                        PV.sc (Value.int IntKind.i64 s4), PV.sc (Value.int IntKind.i64 s5)],
                    Blk.row true
                      (Kd.str.pair
                        (Kd.str.pair ((Kd.int IntKind.i64).pair ((Kd.int IntKind.i64).pair (Kd.int IntKind.i64)))))
                      L2,
                    Blk.row true
                      (Kd.str.pair
                        (Kd.str.pair ((Kd.int IntKind.i64).pair ((Kd.int IntKind.i64).pair (Kd.int IntKind.i64)))))
                      L])
        else
          bif vd == 0 then
            guardB
              (decide (0 + n2 ≤ L2.length) && true && decide ((n2 + 1) * 56 ≤ 140737488355328) &&
                decide (n2 + 1 ≤ 4611686018427387904))
              (bif fu2 && true then
                some
                  (Xt.normal,
                    [PV.sl 4 0 5 (n2 + 1) (n2 + 1) false false,
                      PV.sc (Value.int IntKind.i64 (YtokephobkllfgaaSs.putE L (s1, s2, s3, s4, s5))),
                      PV.sc (Value.int IntKind.i64 vd)],
                    [Blk.fix true [PV.sl 5 0 5 L.length L.length false false], Blk.dead, Blk.dead,
                      Blk.fix true
                        [PV.sc (Value.string s1), PV.sc (Value.string s2), PV.sc (Value.int IntKind.i64 s3),
                          PV.sc (Value.int IntKind.i64 s4), PV.sc (Value.int IntKind.i64 s5)],
                      Blk.row true
                        (Kd.str.pair
                          (Kd.str.pair ((Kd.int IntKind.i64).pair ((Kd.int IntKind.i64).pair (Kd.int IntKind.i64)))))
                        (List.take n2 L2 ++ [(s1, s2, s3, s4, s5)]),
                      Blk.row true
                        (Kd.str.pair
                          (Kd.str.pair ((Kd.int IntKind.i64).pair ((Kd.int IntKind.i64).pair (Kd.int IntKind.i64)))))
                        L])
              else
                some
                  (Xt.normal,
                    [PV.sl 4 0 5 (n2 + 1) (n2 + 1) false false,
                      PV.sc (Value.int IntKind.i64 (YtokephobkllfgaaSs.putE L (s1, s2, s3, s4, s5))),
                      PV.sc (Value.int IntKind.i64 vd)],
                    [Blk.fix true [PV.sl 5 0 5 L.length L.length false false], Blk.dead, Blk.dead,
                      Blk.fix true
                        [PV.sc (Value.string s1), PV.sc (Value.string s2), PV.sc (Value.int IntKind.i64 s3),
                          PV.sc (Value.int IntKind.i64 s4), PV.sc (Value.int IntKind.i64 s5)],
                      Blk.row true
                        (Kd.str.pair
                          (Kd.str.pair ((Kd.int IntKind.i64).pair ((Kd.int IntKind.i64).pair (Kd.int IntKind.i64)))))
                        (List.take n2 L2 ++ [(s1, s2, s3, s4, s5)]),
                      Blk.row true
                        (Kd.str.pair
                          (Kd.str.pair ((Kd.int IntKind.i64).pair ((Kd.int IntKind.i64).pair (Kd.int IntKind.i64)))))
                        L]))
          else
            some
              (Xt.normal,
                [PV.sl 4 0 5 n2 n2 false false,
                  PV.sc (Value.int IntKind.i64 (YtokephobkllfgaaSs.putE L (s1, s2, s3, s4, s5))),
                  PV.sc (Value.int IntKind.i64 vd)],
                [Blk.fix true [PV.sl 5 0 5 L.length L.length false false], Blk.dead, Blk.dead,
                  Blk.fix true
                    [PV.sc (Value.string s1), PV.sc (Value.string s2), PV.sc (Value.int IntKind.i64 s3),
                      PV.sc (Value.int IntKind.i64 s4), PV.sc (Value.int IntKind.i64 s5)],
                  Blk.row true
                    (Kd.str.pair
                      (Kd.str.pair ((Kd.int IntKind.i64).pair ((Kd.int IntKind.i64).pair (Kd.int IntKind.i64)))))
                    L2,
                  Blk.row true
                    (Kd.str.pair
                      (Kd.str.pair ((Kd.int IntKind.i64).pair ((Kd.int IntKind.i64).pair (Kd.int IntKind.i64)))))
                    L])
    else
      bif vd == 0 then
        bif mn == 16 then
          some
            (Xt.normal,
              [PV.sl 4 0 5 n2 n2 false false,
                PV.sc (Value.int IntKind.i64 (YtokephobkllfgaaSs.putE L (s1, s2, s3, s4, s5))),
                PV.sc (Value.int IntKind.i64 9)],
              [Blk.fix true [PV.sl 5 0 5 L.length L.length false false], Blk.dead, Blk.dead,
                Blk.fix true
                  [PV.sc (Value.string s1), PV.sc (Value.string s2), PV.sc (Value.int IntKind.i64 s3),
                    PV.sc (Value.int IntKind.i64 s4), PV.sc (Value.int IntKind.i64 s5)],
                Blk.row true
                  (Kd.str.pair
                    (Kd.str.pair ((Kd.int IntKind.i64).pair ((Kd.int IntKind.i64).pair (Kd.int IntKind.i64)))))
                  L2,
                Blk.row true
                  (Kd.str.pair
                    (Kd.str.pair ((Kd.int IntKind.i64).pair ((Kd.int IntKind.i64).pair (Kd.int IntKind.i64)))))
                  L])
        else
          bif vd == 0 then
            guardB
              (decide (0 + n2 ≤ L2.length) && true && decide ((n2 + 1) * 56 ≤ 140737488355328) &&
                decide (n2 + 1 ≤ 4611686018427387904))
              (bif fu2 && true then
                some
                  (Xt.normal,
                    [PV.sl 4 0 5 (n2 + 1) (n2 + 1) false false,
                      PV.sc (Value.int IntKind.i64 (YtokephobkllfgaaSs.putE L (s1, s2, s3, s4, s5))),
                      PV.sc (Value.int IntKind.i64 vd)],
                    [Blk.fix true [PV.sl 5 0 5 L.length L.length false false], Blk.dead, Blk.dead,
                      Blk.fix true
                        [PV.sc (Value.string s1), PV.sc (Value.string s2), PV.sc (Value.int IntKind.i64 s3),
                          PV.sc (Value.int IntKind.i64 s4), PV.sc (Value.int IntKind.i64 s5)],
                      Blk.row true
                        (Kd.str.pair
                          (Kd.str.pair ((Kd.int IntKind.i64).pair ((Kd.int IntKind.i64).pair (Kd.int IntKind.i64)))))
                        (List.take n2 L2 ++ [(s1, s2, s3, s4, s5)]),
                      Blk.row true
                        (Kd.str.pair
                          (Kd.str.pair ((Kd.int IntKind.i64).pair ((Kd.int IntKind.i64).pair (Kd.int IntKind.i64)))))
                        L])
              else
                some
                  (Xt.normal,
                    [PV.sl 4 0 5 (n2 + 1) (n2 + 1) false false,
                      PV.sc (Value.int IntKind.i64 (YtokephobkllfgaaSs.putE L (s1, s2, s3, s4, s5))),
                      PV.sc (Value.int IntKind.i64 vd)],
                    [Blk.fix true [PV.sl 5 0 5 L.length L.length false false], Blk.dead, Blk.dead,
                      Blk.fix true
                        [PV.sc (Value.string s1), PV.sc (Value.string s2), PV.sc (Value.int IntKind.i64 s3),
                          PV.sc (Value.int IntKind.i64 s4), PV.sc (Value.int IntKind.i64 s5)],
                      Blk.row true
                        (Kd.str.pair
                          (Kd.str.pair ((Kd.int IntKind.i64).pair ((Kd.int IntKind.i64).pair (Kd.int IntKind.i64)))))
                        (List.take n2 L2 ++ [(s1, s2, s3, s4, s5)]),
                      Blk.row true
                        (Kd.str.pair
                          (Kd.str.pair ((Kd.int IntKind.i64).pair ((Kd.int IntKind.i64).pair (Kd.int IntKind.i64)))))
                        L]))
          else
            some
              (Xt.normal,
                [PV.sl 4 0 5 n2 n2 false false,
                  PV.sc (Value.int IntKind.i64 (YtokephobkllfgaaSs.putE L (s1, s2, s3, s4, s5))),
                  PV.sc (Value.int IntKind.i64 vd)],
                [Blk.fix true [PV.sl 5 0 5 L.length L.length false false], Blk.dead, Blk.dead,
                  Blk.fix true
                    [PV.sc (Value.string s1), PV.sc (Value.string s2), PV.sc (Value.int IntKind.i64 s3),
                      PV.sc (Value.int IntKind.i64 s4), PV.sc (Value.int IntKind.i64 s5)],
                  Blk.row true
                    (Kd.str.pair
                      (Kd.str.pair ((Kd.int IntKind.i64).pair ((Kd.int IntKind.i64).pair (Kd.int IntKind.i64)))))
                    L2,
                  Blk.row true
                    (Kd.str.pair
                      (Kd.str.pair ((Kd.int IntKind.i64).pair ((Kd.int IntKind.i64).pair (Kd.int IntKind.i64)))))
                    L])
      else
        bif vd == 0 then
          guardB
            (decide (0 + n2 ≤ L2.length) && true && decide ((n2 + 1) * 56 ≤ 140737488355328) &&
              decide (n2 + 1 ≤ 4611686018427387904))
            (bif fu2 && true then
              some
                (Xt.normal,
                  [PV.sl 4 0 5 (n2 + 1) (n2 + 1) false false,
                    PV.sc (Value.int IntKind.i64 (YtokephobkllfgaaSs.putE L (s1, s2, s3, s4, s5))),
                    PV.sc (Value.int IntKind.i64 vd)],
                  [Blk.fix true [PV.sl 5 0 5 L.length L.length false false], Blk.dead, Blk.dead,
                    Blk.fix true
                      [PV.sc (Value.string s1), PV.sc (Value.string s2), PV.sc (Value.int IntKind.i64 s3),
                        PV.sc (Value.int IntKind.i64 s4), PV.sc (Value.int IntKind.i64 s5)],
                    Blk.row true
                      (Kd.str.pair
                        (Kd.str.pair ((Kd.int IntKind.i64).pair ((Kd.int IntKind.i64).pair (Kd.int IntKind.i64)))))
                      (List.take n2 L2 ++ [(s1, s2, s3, s4, s5)]),
                    Blk.row true
                      (Kd.str.pair
                        (Kd.str.pair ((Kd.int IntKind.i64).pair ((Kd.int IntKind.i64).pair (Kd.int IntKind.i64)))))
                      L])
            else
              some
                (Xt.normal,
                  [PV.sl 4 0 5 (n2 + 1) (n2 + 1) false false,
                    PV.sc (Value.int IntKind.i64 (YtokephobkllfgaaSs.putE L (s1, s2, s3, s4, s5))),
                    PV.sc (Value.int IntKind.i64 vd)],
                  [Blk.fix true [PV.sl 5 0 5 L.length L.length false false], Blk.dead, Blk.dead,
                    Blk.fix true
                      [PV.sc (Value.string s1), PV.sc (Value.string s2), PV.sc (Value.int IntKind.i64 s3),
                        PV.sc (Value.int IntKind.i64 s4), PV.sc (Value.int IntKind.i64 s5)],
                    Blk.row true
                      (Kd.str.pair
                        (Kd.str.pair ((Kd.int IntKind.i64).pair ((Kd.int IntKind.i64).pair (Kd.int IntKind.i64)))))
                      (List.take n2 L2 ++ [(s1, s2, s3, s4, s5)]),
                    Blk.row true
                      (Kd.str.pair
                        (Kd.str.pair ((Kd.int IntKind.i64).pair ((Kd.int IntKind.i64).pair (Kd.int IntKind.i64)))))
                      L]))
        else
          some
            (Xt.normal,
              [PV.sl 4 0 5 n2 n2 false false,
                PV.sc (Value.int IntKind.i64 (YtokephobkllfgaaSs.putE L (s1, s2, s3, s4, s5))),
                PV.sc (Value.int IntKind.i64 vd)],
              [Blk.fix true [PV.sl 5 0 5 L.length L.length false false], Blk.dead, Blk.dead,
                Blk.fix true
                  [PV.sc (Value.string s1), PV.sc (Value.string s2), PV.sc (Value.int IntKind.i64 s3),
                    PV.sc (Value.int IntKind.i64 s4), PV.sc (Value.int IntKind.i64 s5)],
                Blk.row true
                  (Kd.str.pair
                    (Kd.str.pair ((Kd.int IntKind.i64).pair ((Kd.int IntKind.i64).pair (Kd.int IntKind.i64)))))
                  L2,
                Blk.row true
                  (Kd.str.pair
                    (Kd.str.pair ((Kd.int IntKind.i64).pair ((Kd.int IntKind.i64).pair (Kd.int IntKind.i64)))))
                  L]))) := by kernel_rfl
noncomputable abbrev s3b1L (L : List (ByteArray × ByteArray × Int × Int × Int)) (n : Nat) (lo : Nat) (fu : Bool) (L2 : List (ByteArray × ByteArray × Int × Int × Int)) (n2 : Nat) (lo2 : Nat) (fu2 : Bool) (s1 : ByteArray) (s2 : ByteArray) (s3 : Int) (s4 : Int) (s5 : Int) (k : Int) (vd : Int) (mn : Int) := (evBlockR Try.prog U9 noCuts 219 (codeAt 5 (bodyF Try.f3)) [1, 2] [7, 8, 11, 12, 13, 14, 18, 88] [8, 17, 18]
  (st5 (.inl ((L, n, lo, fu), (L2, n2, lo2, fu2), (s1, s2, s3, s4, s5), k, vd, mn, 0, 1))).1
  (st5 (.inl ((L, n, lo, fu), (L2, n2, lo2, fu2), (s1, s2, s3, s4, s5), k, vd, mn, 0, 1))).2)
theorem s3b1 (L : List (ByteArray × ByteArray × Int × Int × Int)) (n : Nat) (lo : Nat) (fu : Bool) (L2 : List (ByteArray × ByteArray × Int × Int × Int)) (n2 : Nat) (lo2 : Nat) (fu2 : Bool) (s1 : ByteArray) (s2 : ByteArray) (s3 : Int) (s4 : Int) (s5 : Int) (k : Int) (vd : Int) (mn : Int) : s3b1L L n lo fu L2 n2 lo2 fu2 s1 s2 s3 s4 s5 k vd mn = (guardB (okV (L, n, lo, fu, false))
  (bif movE L s1 s5 == 0 then
    guardB (okV (L2, n2, lo2, fu2, false) && pre14 k L2)
      (bif mvdE L2 k s5 mn == 0 then
        some
          (Xt.normal, [PV.sl 4 0 5 n2 n2 false false, PV.sc (Value.int IntKind.i64 0), PV.sc (Value.int IntKind.i64 0)],
            [Blk.fix true
                [PV.sl 5 0 5 (L.set (ixC s1 L).toNat (YtokephobkllfgaaSs.setB (atS L (ixC s1 L)) s5)).length
                    (L.set (ixC s1 L).toNat (YtokephobkllfgaaSs.setB (atS L (ixC s1 L)) s5)).length false false],
              Blk.dead, Blk.dead,
              Blk.fix true
                [PV.sc (Value.string s1), PV.sc (Value.string s2), PV.sc (Value.int IntKind.i64 s3),
                  PV.sc (Value.int IntKind.i64 s4), PV.sc (Value.int IntKind.i64 s5)],
              Blk.row true
                (Kd.str.pair (Kd.str.pair ((Kd.int IntKind.i64).pair ((Kd.int IntKind.i64).pair (Kd.int IntKind.i64)))))
                (L2.set k.toNat
                  ((atS L2 k).fst, (atS L2 k).snd.fst, (atS L2 k).snd.snd.fst, (atS L2 k).snd.snd.snd.fst, s5)),
              Blk.row true
                (Kd.str.pair (Kd.str.pair ((Kd.int IntKind.i64).pair ((Kd.int IntKind.i64).pair (Kd.int IntKind.i64)))))
                (L.set (ixC s1 L).toNat
                  ((atS L (ixC s1 L)).fst, (atS L (ixC s1 L)).snd.fst, (atS L (ixC s1 L)).snd.snd.fst,
                    (atS L (ixC s1 L)).snd.snd.snd.fst, s5))])
      else
        some
          (Xt.normal,
            [PV.sl 4 0 5 n2 n2 false false, PV.sc (Value.int IntKind.i64 0),
              PV.sc (Value.int IntKind.i64 (mvdE L2 k s5 mn))],
            [Blk.fix true
                [PV.sl 5 0 5 (L.set (ixC s1 L).toNat (YtokephobkllfgaaSs.setB (atS L (ixC s1 L)) s5)).length
                    (L.set (ixC s1 L).toNat (YtokephobkllfgaaSs.setB (atS L (ixC s1 L)) s5)).length false false],
              Blk.dead, Blk.dead,
              Blk.fix true
                [PV.sc (Value.string s1), PV.sc (Value.string s2), PV.sc (Value.int IntKind.i64 s3),
                  PV.sc (Value.int IntKind.i64 s4), PV.sc (Value.int IntKind.i64 s5)],
              Blk.row true
                (Kd.str.pair (Kd.str.pair ((Kd.int IntKind.i64).pair ((Kd.int IntKind.i64).pair (Kd.int IntKind.i64)))))
                L2,
              Blk.row true
                (Kd.str.pair (Kd.str.pair ((Kd.int IntKind.i64).pair ((Kd.int IntKind.i64).pair (Kd.int IntKind.i64)))))
                (L.set (ixC s1 L).toNat
                  ((atS L (ixC s1 L)).fst, (atS L (ixC s1 L)).snd.fst, (atS L (ixC s1 L)).snd.snd.fst,
                    (atS L (ixC s1 L)).snd.snd.snd.fst, s5))]))
  else
    guardB (okV (L2, n2, lo2, fu2, false) && pre14 k L2)
      (bif mvdE L2 k s5 mn == 0 then
        some
          (Xt.normal,
            [PV.sl 4 0 5 n2 n2 false false, PV.sc (Value.int IntKind.i64 (movE L s1 s5)),
              PV.sc (Value.int IntKind.i64 0)],
            [Blk.fix true [PV.sl 5 0 5 L.length L.length false false], Blk.dead, Blk.dead,
              Blk.fix true
                [PV.sc (Value.string s1), PV.sc (Value.string s2), PV.sc (Value.int IntKind.i64 s3),
                  PV.sc (Value.int IntKind.i64 s4), PV.sc (Value.int IntKind.i64 s5)],
              Blk.row true
                (Kd.str.pair (Kd.str.pair ((Kd.int IntKind.i64).pair ((Kd.int IntKind.i64).pair (Kd.int IntKind.i64)))))
                (L2.set k.toNat
                  ((atS L2 k).fst, (atS L2 k).snd.fst, (atS L2 k).snd.snd.fst, (atS L2 k).snd.snd.snd.fst, s5)),
              Blk.row true
                (Kd.str.pair (Kd.str.pair ((Kd.int IntKind.i64).pair ((Kd.int IntKind.i64).pair (Kd.int IntKind.i64)))))
                L])
      else
        some
          (Xt.normal,
            [PV.sl 4 0 5 n2 n2 false false, PV.sc (Value.int IntKind.i64 (movE L s1 s5)),
              PV.sc (Value.int IntKind.i64 (mvdE L2 k s5 mn))],
            [Blk.fix true [PV.sl 5 0 5 L.length L.length false false], Blk.dead, Blk.dead,
              Blk.fix true
                [PV.sc (Value.string s1), PV.sc (Value.string s2), PV.sc (Value.int IntKind.i64 s3),
                  PV.sc (Value.int IntKind.i64 s4), PV.sc (Value.int IntKind.i64 s5)],
              Blk.row true
                (Kd.str.pair (Kd.str.pair ((Kd.int IntKind.i64).pair ((Kd.int IntKind.i64).pair (Kd.int IntKind.i64)))))
                L2,
              Blk.row true
                (Kd.str.pair (Kd.str.pair ((Kd.int IntKind.i64).pair ((Kd.int IntKind.i64).pair (Kd.int IntKind.i64)))))
                L])))) := by kernel_rfl
noncomputable abbrev s3b2L (L : List (ByteArray × ByteArray × Int × Int × Int)) (n : Nat) (lo : Nat) (fu : Bool) (L2 : List (ByteArray × ByteArray × Int × Int × Int)) (n2 : Nat) (lo2 : Nat) (fu2 : Bool) (s1 : ByteArray) (s2 : ByteArray) (s3 : Int) (s4 : Int) (s5 : Int) (k : Int) (vd : Int) (mn : Int) := (evBlockR Try.prog U9 noCuts 219 (codeAt 5 (bodyF Try.f3)) [1, 2] [7, 8, 11, 12, 13, 14, 18, 88] [8, 17, 18]
  (st5 (.inl ((L, n, lo, fu), (L2, n2, lo2, fu2), (s1, s2, s3, s4, s5), k, vd, mn, 0, 2))).1
  (st5 (.inl ((L, n, lo, fu), (L2, n2, lo2, fu2), (s1, s2, s3, s4, s5), k, vd, mn, 0, 2))).2)
theorem s3b2 (L : List (ByteArray × ByteArray × Int × Int × Int)) (n : Nat) (lo : Nat) (fu : Bool) (L2 : List (ByteArray × ByteArray × Int × Int × Int)) (n2 : Nat) (lo2 : Nat) (fu2 : Bool) (s1 : ByteArray) (s2 : ByteArray) (s3 : Int) (s4 : Int) (s5 : Int) (k : Int) (vd : Int) (mn : Int) : s3b2L L n lo fu L2 n2 lo2 fu2 s1 s2 s3 s4 s5 k vd mn = (guardB (okV (L, n, lo, fu, false) && okS (s1, s2, s3, s4, s5))
  (bif chgE L (s1, s2, s3, s4, s5) == 0 then
    bif vd == 0 then
      bif decide (k < 0) then
        some
          (Xt.normal, [PV.sl 4 0 5 n2 n2 false false, PV.sc (Value.int IntKind.i64 0), PV.sc (Value.int IntKind.i64 8)],
            [Blk.fix true
                [PV.sl 5 0 5 (L.set (ixC s1 L).toNat (s1, s2, s3, s4, s5)).length
                    (L.set (ixC s1 L).toNat (s1, s2, s3, s4, s5)).length false false],
              Blk.dead, Blk.dead,
              Blk.fix true
                [PV.sc (Value.string s1), PV.sc (Value.string s2), PV.sc (Value.int IntKind.i64 s3),
                  PV.sc (Value.int IntKind.i64 s4), PV.sc (Value.int IntKind.i64 s5)],
              Blk.row true
                (Kd.str.pair (Kd.str.pair ((Kd.int IntKind.i64).pair ((Kd.int IntKind.i64).pair (Kd.int IntKind.i64)))))
                L2,
              Blk.row true
                (Kd.str.pair (Kd.str.pair ((Kd.int IntKind.i64).pair ((Kd.int IntKind.i64).pair (Kd.int IntKind.i64)))))
                (L.set (ixC s1 L).toNat (s1, s2, s3, s4, s5))])
      else
        bif vd == 0 then
          guardB (decide (0 ≤ k) && decide (k < (↑n2 : Int)))
            (bindO L2[0 + k.toNat]? fun x =>
              bif x.snd.snd.snd.snd == 3 then
                some
                  (Xt.normal,
                    [PV.sl 4 0 5 n2 n2 false false, PV.sc (Value.int IntKind.i64 0), PV.sc (Value.int IntKind.i64 11)],
                    [Blk.fix true
                        [PV.sl 5 0 5 (L.set (ixC s1 L).toNat (s1, s2, s3, s4, s5)).length
                            (L.set (ixC s1 L).toNat (s1, s2, s3, s4, s5)).length false false],
                      Blk.dead, Blk.dead,
                      Blk.fix true
                        [PV.sc (Value.string s1), PV.sc (Value.string s2), PV.sc (Value.int IntKind.i64 s3),
                          PV.sc (Value.int IntKind.i64 s4), PV.sc (Value.int IntKind.i64 s5)],
                      Blk.row true
                        (Kd.str.pair
                          (Kd.str.pair ((Kd.int IntKind.i64).pair ((Kd.int IntKind.i64).pair (Kd.int IntKind.i64)))))
                        L2,
                      Blk.row true
                        (Kd.str.pair
                          (Kd.str.pair ((Kd.int IntKind.i64).pair ((Kd.int IntKind.i64).pair (Kd.int IntKind.i64)))))
                        (L.set (ixC s1 L).toNat (s1, s2, s3, s4, s5))])
              else
                guardB (decide (0 ≤ k) && decide (k < (↑n2 : Int)))
                  (bindO L2[0 + k.toNat]? fun x =>
                    bif x.snd.snd.snd.snd != s5 then
                      some
                        (Xt.normal,
                          [PV.sl 4 0 5 n2 n2 false false, PV.sc (Value.int IntKind.i64 0),
                            PV.sc (Value.int IntKind.i64 11)],
                          [Blk.fix true
                              [PV.sl 5 0 5 (L.set (ixC s1 L).toNat (s1, s2, s3, s4, s5)).length
                                  (L.set (ixC s1 L).toNat (s1, s2, s3, s4, s5)).length false false],
                            Blk.dead, Blk.dead,
                            Blk.fix true
                              [PV.sc (Value.string s1), PV.sc (Value.string s2), PV.sc (Value.int IntKind.i64 s3),
                                PV.sc (Value.int IntKind.i64 s4), PV.sc (Value.int IntKind.i64 s5)],
                            Blk.row true
                              (Kd.str.pair
                                (Kd.str.pair
                                  ((Kd.int IntKind.i64).pair ((Kd.int IntKind.i64).pair (Kd.int IntKind.i64)))))
                              L2,
                            Blk.row true
                              (Kd.str.pair
                                (Kd.str.pair
                                  ((Kd.int IntKind.i64).pair ((Kd.int IntKind.i64).pair (Kd.int IntKind.i64)))))
                              (L.set (ixC s1 L).toNat (s1, s2, s3, s4, s5))])
                    else
                      bif vd == 0 then
                        guardB (decide (0 ≤ k) && decide (k < (↑n2 : Int)))
                          (bindO L2[0 + k.toNat]? fun x =>
                            some
                              (Xt.normal,
                                [PV.sl 4 0 5 n2 n2 false false, PV.sc (Value.int IntKind.i64 0),
                                  PV.sc (Value.int IntKind.i64 vd)],
                                [Blk.fix true
                                    [PV.sl 5 0 5 (L.set (ixC s1 L).toNat (s1, s2, s3, s4, s5)).length
                                        (L.set (ixC s1 L).toNat (s1, s2, s3, s4, s5)).length false false],
                                  Blk.dead, Blk.dead,
                                  Blk.fix true
                                    [PV.sc (Value.string s1), PV.sc (Value.string s2), PV.sc (Value.int IntKind.i64 s3),
                                      PV.sc (Value.int IntKind.i64 s4), PV.sc (Value.int IntKind.i64 s5)],
                                  Blk.row true
                                    (Kd.str.pair
                                      (Kd.str.pair
                                        ((Kd.int IntKind.i64).pair ((Kd.int IntKind.i64).pair (Kd.int IntKind.i64)))))
                                    (L2.set (0 + k.toNat) (s1, s2, s3, s4, s5)),
                                  Blk.row true
                                    (Kd.str.pair
                                      (Kd.str.pair
                                        ((Kd.int IntKind.i64).pair ((Kd.int IntKind.i64).pair (Kd.int IntKind.i64)))))
                                    (L.set (ixC s1 L).toNat (s1, s2, s3, s4, s5))]))
                      else
                        some
                          (Xt.normal,
                            [PV.sl 4 0 5 n2 n2 false false, PV.sc (Value.int IntKind.i64 0),
                              PV.sc (Value.int IntKind.i64 vd)],
                            [Blk.fix true
                                [PV.sl 5 0 5 (L.set (ixC s1 L).toNat (s1, s2, s3, s4, s5)).length
                                    (L.set (ixC s1 L).toNat (s1, s2, s3, s4, s5)).length false false],
                              Blk.dead, Blk.dead,
                              Blk.fix true
                                [PV.sc (Value.string s1), PV.sc (Value.string s2), PV.sc (Value.int IntKind.i64 s3),
                                  PV.sc (Value.int IntKind.i64 s4), PV.sc (Value.int IntKind.i64 s5)],
                              Blk.row true
                                (Kd.str.pair
                                  (Kd.str.pair
                                    ((Kd.int IntKind.i64).pair ((Kd.int IntKind.i64).pair (Kd.int IntKind.i64)))))
                                L2,
                              Blk.row true
                                (Kd.str.pair
                                  (Kd.str.pair
                                    ((Kd.int IntKind.i64).pair ((Kd.int IntKind.i64).pair (Kd.int IntKind.i64)))))
                                (L.set (ixC s1 L).toNat (s1, s2, s3, s4, s5))])))
        else
          bif vd == 0 then
            guardB (decide (0 ≤ k) && decide (k < (↑n2 : Int)))
              (bindO L2[0 + k.toNat]? fun x =>
                some
                  (Xt.normal,
                    [PV.sl 4 0 5 n2 n2 false false, PV.sc (Value.int IntKind.i64 0), PV.sc (Value.int IntKind.i64 vd)],
                    [Blk.fix true
                        [PV.sl 5 0 5 (L.set (ixC s1 L).toNat (s1, s2, s3, s4, s5)).length
                            (L.set (ixC s1 L).toNat (s1, s2, s3, s4, s5)).length false false],
                      Blk.dead, Blk.dead,
                      Blk.fix true
                        [PV.sc (Value.string s1), PV.sc (Value.string s2), PV.sc (Value.int IntKind.i64 s3),
                          PV.sc (Value.int IntKind.i64 s4), PV.sc (Value.int IntKind.i64 s5)],
                      Blk.row true
                        (Kd.str.pair
                          (Kd.str.pair ((Kd.int IntKind.i64).pair ((Kd.int IntKind.i64).pair (Kd.int IntKind.i64)))))
                        (L2.set (0 + k.toNat) (s1, s2, s3, s4, s5)),
                      Blk.row true
                        (Kd.str.pair
                          (Kd.str.pair ((Kd.int IntKind.i64).pair ((Kd.int IntKind.i64).pair (Kd.int IntKind.i64)))))
                        (L.set (ixC s1 L).toNat (s1, s2, s3, s4, s5))]))
          else
            some
              (Xt.normal,
                [PV.sl 4 0 5 n2 n2 false false, PV.sc (Value.int IntKind.i64 0), PV.sc (Value.int IntKind.i64 vd)],
                [Blk.fix true
                    [PV.sl 5 0 5 (L.set (ixC s1 L).toNat (s1, s2, s3, s4, s5)).length
                        (L.set (ixC s1 L).toNat (s1, s2, s3, s4, s5)).length false false],
                  Blk.dead, Blk.dead,
                  Blk.fix true
                    [PV.sc (Value.string s1), PV.sc (Value.string s2), PV.sc (Value.int IntKind.i64 s3),
                      PV.sc (Value.int IntKind.i64 s4), PV.sc (Value.int IntKind.i64 s5)],
                  Blk.row true
                    (Kd.str.pair
                      (Kd.str.pair ((Kd.int IntKind.i64).pair ((Kd.int IntKind.i64).pair (Kd.int IntKind.i64)))))
                    L2,
                  Blk.row true
                    (Kd.str.pair
                      (Kd.str.pair ((Kd.int IntKind.i64).pair ((Kd.int IntKind.i64).pair (Kd.int IntKind.i64)))))
                    (L.set (ixC s1 L).toNat (s1, s2, s3, s4, s5))])
    else
      bif vd == 0 then
        guardB (decide (0 ≤ k) && decide (k < (↑n2 : Int)))
          (bindO L2[0 + k.toNat]? fun x =>
            bif x.snd.snd.snd.snd == 3 then
              some
                (Xt.normal,
                  [PV.sl 4 0 5 n2 n2 false false, PV.sc (Value.int IntKind.i64 0), PV.sc (Value.int IntKind.i64 11)],
                  [Blk.fix true
                      [PV.sl 5 0 5 (L.set (ixC s1 L).toNat (s1, s2, s3, s4, s5)).length
                          (L.set (ixC s1 L).toNat (s1, s2, s3, s4, s5)).length false false],
                    Blk.dead, Blk.dead,
                    Blk.fix true
                      [PV.sc (Value.string s1), PV.sc (Value.string s2), PV.sc (Value.int IntKind.i64 s3),
                        PV.sc (Value.int IntKind.i64 s4), PV.sc (Value.int IntKind.i64 s5)],
                    Blk.row true
                      (Kd.str.pair
                        (Kd.str.pair ((Kd.int IntKind.i64).pair ((Kd.int IntKind.i64).pair (Kd.int IntKind.i64)))))
                      L2,
                    Blk.row true
                      (Kd.str.pair
                        (Kd.str.pair ((Kd.int IntKind.i64).pair ((Kd.int IntKind.i64).pair (Kd.int IntKind.i64)))))
                      (L.set (ixC s1 L).toNat (s1, s2, s3, s4, s5))])
            else
              guardB (decide (0 ≤ k) && decide (k < (↑n2 : Int)))
                (bindO L2[0 + k.toNat]? fun x =>
                  bif x.snd.snd.snd.snd != s5 then
                    some
                      (Xt.normal,
                        [PV.sl 4 0 5 n2 n2 false false, PV.sc (Value.int IntKind.i64 0),
                          PV.sc (Value.int IntKind.i64 11)],
                        [Blk.fix true
                            [PV.sl 5 0 5 (L.set (ixC s1 L).toNat (s1, s2, s3, s4, s5)).length
                                (L.set (ixC s1 L).toNat (s1, s2, s3, s4, s5)).length false false],
                          Blk.dead, Blk.dead,
                          Blk.fix true
                            [PV.sc (Value.string s1), PV.sc (Value.string s2), PV.sc (Value.int IntKind.i64 s3),
                              PV.sc (Value.int IntKind.i64 s4), PV.sc (Value.int IntKind.i64 s5)],
                          Blk.row true
                            (Kd.str.pair
                              (Kd.str.pair
                                ((Kd.int IntKind.i64).pair ((Kd.int IntKind.i64).pair (Kd.int IntKind.i64)))))
                            L2,
                          Blk.row true
                            (Kd.str.pair
                              (Kd.str.pair
                                ((Kd.int IntKind.i64).pair ((Kd.int IntKind.i64).pair (Kd.int IntKind.i64)))))
                            (L.set (ixC s1 L).toNat (s1, s2, s3, s4, s5))])
                  else
                    bif vd == 0 then
                      guardB (decide (0 ≤ k) && decide (k < (↑n2 : Int)))
                        (bindO L2[0 + k.toNat]? fun x =>
                          some
                            (Xt.normal,
                              [PV.sl 4 0 5 n2 n2 false false, PV.sc (Value.int IntKind.i64 0),
                                PV.sc (Value.int IntKind.i64 vd)],
                              [Blk.fix true
                                  [PV.sl 5 0 5 (L.set (ixC s1 L).toNat (s1, s2, s3, s4, s5)).length
                                      (L.set (ixC s1 L).toNat (s1, s2, s3, s4, s5)).length false false],
                                Blk.dead, Blk.dead,
                                Blk.fix true
                                  [PV.sc (Value.string s1), PV.sc (Value.string s2), PV.sc (Value.int IntKind.i64 s3),
                                    PV.sc (Value.int IntKind.i64 s4), PV.sc (Value.int IntKind.i64 s5)],
                                Blk.row true
                                  (Kd.str.pair
                                    (Kd.str.pair
                                      ((Kd.int IntKind.i64).pair ((Kd.int IntKind.i64).pair (Kd.int IntKind.i64)))))
                                  (L2.set (0 + k.toNat) (s1, s2, s3, s4, s5)),
                                Blk.row true
                                  (Kd.str.pair
                                    (Kd.str.pair
                                      ((Kd.int IntKind.i64).pair ((Kd.int IntKind.i64).pair (Kd.int IntKind.i64)))))
                                  (L.set (ixC s1 L).toNat (s1, s2, s3, s4, s5))]))
                    else
                      some
                        (Xt.normal,
                          [PV.sl 4 0 5 n2 n2 false false, PV.sc (Value.int IntKind.i64 0),
                            PV.sc (Value.int IntKind.i64 vd)],
                          [Blk.fix true
                              [PV.sl 5 0 5 (L.set (ixC s1 L).toNat (s1, s2, s3, s4, s5)).length
                                  (L.set (ixC s1 L).toNat (s1, s2, s3, s4, s5)).length false false],
                            Blk.dead, Blk.dead,
                            Blk.fix true
                              [PV.sc (Value.string s1), PV.sc (Value.string s2), PV.sc (Value.int IntKind.i64 s3),
                                PV.sc (Value.int IntKind.i64 s4), PV.sc (Value.int IntKind.i64 s5)],
                            Blk.row true
                              (Kd.str.pair
                                (Kd.str.pair
                                  ((Kd.int IntKind.i64).pair ((Kd.int IntKind.i64).pair (Kd.int IntKind.i64)))))
                              L2,
                            Blk.row true
                              (Kd.str.pair
                                (Kd.str.pair
                                  ((Kd.int IntKind.i64).pair ((Kd.int IntKind.i64).pair (Kd.int IntKind.i64)))))
                              (L.set (ixC s1 L).toNat (s1, s2, s3, s4, s5))])))
      else
        bif vd == 0 then
          guardB (decide (0 ≤ k) && decide (k < (↑n2 : Int)))
            (bindO L2[0 + k.toNat]? fun x =>
              some
                (Xt.normal,
                  [PV.sl 4 0 5 n2 n2 false false, PV.sc (Value.int IntKind.i64 0), PV.sc (Value.int IntKind.i64 vd)],
                  [Blk.fix true
                      [PV.sl 5 0 5 (L.set (ixC s1 L).toNat (s1, s2, s3, s4, s5)).length
                          (L.set (ixC s1 L).toNat (s1, s2, s3, s4, s5)).length false false],
                    Blk.dead, Blk.dead,
                    Blk.fix true
                      [PV.sc (Value.string s1), PV.sc (Value.string s2), PV.sc (Value.int IntKind.i64 s3),
                        PV.sc (Value.int IntKind.i64 s4), PV.sc (Value.int IntKind.i64 s5)],
                    Blk.row true
                      (Kd.str.pair
                        (Kd.str.pair ((Kd.int IntKind.i64).pair ((Kd.int IntKind.i64).pair (Kd.int IntKind.i64)))))
                      (L2.set (0 + k.toNat) (s1, s2, s3, s4, s5)),
                    Blk.row true
                      (Kd.str.pair
                        (Kd.str.pair ((Kd.int IntKind.i64).pair ((Kd.int IntKind.i64).pair (Kd.int IntKind.i64)))))
                      (L.set (ixC s1 L).toNat (s1, s2, s3, s4, s5))]))
        else
          some
            (Xt.normal,
              [PV.sl 4 0 5 n2 n2 false false, PV.sc (Value.int IntKind.i64 0), PV.sc (Value.int IntKind.i64 vd)],
              [Blk.fix true
                  [PV.sl 5 0 5 (L.set (ixC s1 L).toNat (s1, s2, s3, s4, s5)).length
                      (L.set (ixC s1 L).toNat (s1, s2, s3, s4, s5)).length false false],
                Blk.dead, Blk.dead,
                Blk.fix true
                  [PV.sc (Value.string s1), PV.sc (Value.string s2), PV.sc (Value.int IntKind.i64 s3),
                    PV.sc (Value.int IntKind.i64 s4), PV.sc (Value.int IntKind.i64 s5)],
                Blk.row true
                  (Kd.str.pair
                    (Kd.str.pair ((Kd.int IntKind.i64).pair ((Kd.int IntKind.i64).pair (Kd.int IntKind.i64)))))
                  L2,
                Blk.row true
                  (Kd.str.pair
                    (Kd.str.pair ((Kd.int IntKind.i64).pair ((Kd.int IntKind.i64).pair (Kd.int IntKind.i64)))))
                  (L.set (ixC s1 L).toNat (s1, s2, s3, s4, s5))])
  else
    bif vd == 0 then
      bif decide (k < 0) then
        some
          (Xt.normal,
            [PV.sl 4 0 5 n2 n2 false false, PV.sc (Value.int IntKind.i64 (chgE L (s1, s2, s3, s4, s5))),
              PV.sc (Value.int IntKind.i64 8)],
            [Blk.fix true [PV.sl 5 0 5 L.length L.length false false], Blk.dead, Blk.dead,
              Blk.fix true
                [PV.sc (Value.string s1), PV.sc (Value.string s2), PV.sc (Value.int IntKind.i64 s3),
                  PV.sc (Value.int IntKind.i64 s4), PV.sc (Value.int IntKind.i64 s5)],
              Blk.row true
                (Kd.str.pair (Kd.str.pair ((Kd.int IntKind.i64).pair ((Kd.int IntKind.i64).pair (Kd.int IntKind.i64)))))
                L2,
              Blk.row true
                (Kd.str.pair (Kd.str.pair ((Kd.int IntKind.i64).pair ((Kd.int IntKind.i64).pair (Kd.int IntKind.i64)))))
                L])
      else
        bif vd == 0 then
          guardB (decide (0 ≤ k) && decide (k < (↑n2 : Int)))
            (bindO L2[0 + k.toNat]? fun x =>
              bif x.snd.snd.snd.snd == 3 then
                some
                  (Xt.normal,
                    [PV.sl 4 0 5 n2 n2 false false, PV.sc (Value.int IntKind.i64 (chgE L (s1, s2, s3, s4, s5))),
                      PV.sc (Value.int IntKind.i64 11)],
                    [Blk.fix true [PV.sl 5 0 5 L.length L.length false false], Blk.dead, Blk.dead,
                      Blk.fix true
                        [PV.sc (Value.string s1), PV.sc (Value.string s2), PV.sc (Value.int IntKind.i64 s3),
                          PV.sc (Value.int IntKind.i64 s4), PV.sc (Value.int IntKind.i64 s5)],
                      Blk.row true
                        (Kd.str.pair
                          (Kd.str.pair ((Kd.int IntKind.i64).pair ((Kd.int IntKind.i64).pair (Kd.int IntKind.i64)))))
                        L2,
                      Blk.row true
                        (Kd.str.pair
                          (Kd.str.pair ((Kd.int IntKind.i64).pair ((Kd.int IntKind.i64).pair (Kd.int IntKind.i64)))))
                        L])
              else
                guardB (decide (0 ≤ k) && decide (k < (↑n2 : Int)))
                  (bindO L2[0 + k.toNat]? fun x =>
                    bif x.snd.snd.snd.snd != s5 then
                      some
                        (Xt.normal,
                          [PV.sl 4 0 5 n2 n2 false false, PV.sc (Value.int IntKind.i64 (chgE L (s1, s2, s3, s4, s5))),
                            PV.sc (Value.int IntKind.i64 11)],
                          [Blk.fix true [PV.sl 5 0 5 L.length L.length false false], Blk.dead, Blk.dead,
                            Blk.fix true
                              [PV.sc (Value.string s1), PV.sc (Value.string s2), PV.sc (Value.int IntKind.i64 s3),
                                PV.sc (Value.int IntKind.i64 s4), PV.sc (Value.int IntKind.i64 s5)],
                            Blk.row true
                              (Kd.str.pair
                                (Kd.str.pair
                                  ((Kd.int IntKind.i64).pair ((Kd.int IntKind.i64).pair (Kd.int IntKind.i64)))))
                              L2,
                            Blk.row true
                              (Kd.str.pair
                                (Kd.str.pair
                                  ((Kd.int IntKind.i64).pair ((Kd.int IntKind.i64).pair (Kd.int IntKind.i64)))))
                              L])
                    else
                      bif vd == 0 then
                        guardB (decide (0 ≤ k) && decide (k < (↑n2 : Int)))
                          (bindO L2[0 + k.toNat]? fun x =>
                            some
                              (Xt.normal,
                                [PV.sl 4 0 5 n2 n2 false false,
                                  PV.sc (Value.int IntKind.i64 (chgE L (s1, s2, s3, s4, s5))),
                                  PV.sc (Value.int IntKind.i64 vd)],
                                [Blk.fix true [PV.sl 5 0 5 L.length L.length false false], Blk.dead, Blk.dead,
                                  Blk.fix true
                                    [PV.sc (Value.string s1), PV.sc (Value.string s2), PV.sc (Value.int IntKind.i64 s3),
                                      PV.sc (Value.int IntKind.i64 s4), PV.sc (Value.int IntKind.i64 s5)],
                                  Blk.row true
                                    (Kd.str.pair
                                      (Kd.str.pair
                                        ((Kd.int IntKind.i64).pair ((Kd.int IntKind.i64).pair (Kd.int IntKind.i64)))))
                                    (L2.set (0 + k.toNat) (s1, s2, s3, s4, s5)),
                                  Blk.row true
                                    (Kd.str.pair
                                      (Kd.str.pair
                                        ((Kd.int IntKind.i64).pair ((Kd.int IntKind.i64).pair (Kd.int IntKind.i64)))))
                                    L]))
                      else
                        some
                          (Xt.normal,
                            [PV.sl 4 0 5 n2 n2 false false, PV.sc (Value.int IntKind.i64 (chgE L (s1, s2, s3, s4, s5))),
                              PV.sc (Value.int IntKind.i64 vd)],
                            [Blk.fix true [PV.sl 5 0 5 L.length L.length false false], Blk.dead, Blk.dead,
                              Blk.fix true
                                [PV.sc (Value.string s1), PV.sc (Value.string s2), PV.sc (Value.int IntKind.i64 s3),
                                  PV.sc (Value.int IntKind.i64 s4), PV.sc (Value.int IntKind.i64 s5)],
                              Blk.row true
                                (Kd.str.pair
                                  (Kd.str.pair
                                    ((Kd.int IntKind.i64).pair ((Kd.int IntKind.i64).pair (Kd.int IntKind.i64)))))
                                L2,
                              Blk.row true
                                (Kd.str.pair
                                  (Kd.str.pair
                                    ((Kd.int IntKind.i64).pair ((Kd.int IntKind.i64).pair (Kd.int IntKind.i64)))))
                                L])))
        else
          bif vd == 0 then
            guardB (decide (0 ≤ k) && decide (k < (↑n2 : Int)))
              (bindO L2[0 + k.toNat]? fun x =>
                some
                  (Xt.normal,
                    [PV.sl 4 0 5 n2 n2 false false, PV.sc (Value.int IntKind.i64 (chgE L (s1, s2, s3, s4, s5))),
                      PV.sc (Value.int IntKind.i64 vd)],
                    [Blk.fix true [PV.sl 5 0 5 L.length L.length false false], Blk.dead, Blk.dead,
                      Blk.fix true
                        [PV.sc (Value.string s1), PV.sc (Value.string s2), PV.sc (Value.int IntKind.i64 s3),
                          PV.sc (Value.int IntKind.i64 s4), PV.sc (Value.int IntKind.i64 s5)],
                      Blk.row true
                        (Kd.str.pair
                          (Kd.str.pair ((Kd.int IntKind.i64).pair ((Kd.int IntKind.i64).pair (Kd.int IntKind.i64)))))
                        (L2.set (0 + k.toNat) (s1, s2, s3, s4, s5)),
                      Blk.row true
                        (Kd.str.pair
                          (Kd.str.pair ((Kd.int IntKind.i64).pair ((Kd.int IntKind.i64).pair (Kd.int IntKind.i64)))))
                        L]))
          else
            some
              (Xt.normal,
                [PV.sl 4 0 5 n2 n2 false false, PV.sc (Value.int IntKind.i64 (chgE L (s1, s2, s3, s4, s5))),
                  PV.sc (Value.int IntKind.i64 vd)],
                [Blk.fix true [PV.sl 5 0 5 L.length L.length false false], Blk.dead, Blk.dead,
                  Blk.fix true
                    [PV.sc (Value.string s1), PV.sc (Value.string s2), PV.sc (Value.int IntKind.i64 s3),
                      PV.sc (Value.int IntKind.i64 s4), PV.sc (Value.int IntKind.i64 s5)],
                  Blk.row true
                    (Kd.str.pair
                      (Kd.str.pair ((Kd.int IntKind.i64).pair ((Kd.int IntKind.i64).pair (Kd.int IntKind.i64)))))
                    L2,
                  Blk.row true
                    (Kd.str.pair
                      (Kd.str.pair ((Kd.int IntKind.i64).pair ((Kd.int IntKind.i64).pair (Kd.int IntKind.i64)))))
                    L])
    else
      bif vd == 0 then
        guardB (decide (0 ≤ k) && decide (k < (↑n2 : Int)))
          (bindO L2[0 + k.toNat]? fun x =>
            bif x.snd.snd.snd.snd == 3 then
              some
                (Xt.normal,
                  [PV.sl 4 0 5 n2 n2 false false, PV.sc (Value.int IntKind.i64 (chgE L (s1, s2, s3, s4, s5))),
                    PV.sc (Value.int IntKind.i64 11)],
                  [Blk.fix true [PV.sl 5 0 5 L.length L.length false false], Blk.dead, Blk.dead,
                    Blk.fix true
                      [PV.sc (Value.string s1), PV.sc (Value.string s2), PV.sc (Value.int IntKind.i64 s3),
                        PV.sc (Value.int IntKind.i64 s4), PV.sc (Value.int IntKind.i64 s5)],
                    Blk.row true
                      (Kd.str.pair
                        (Kd.str.pair ((Kd.int IntKind.i64).pair ((Kd.int IntKind.i64).pair (Kd.int IntKind.i64)))))
                      L2,
                    Blk.row true
                      (Kd.str.pair
                        (Kd.str.pair ((Kd.int IntKind.i64).pair ((Kd.int IntKind.i64).pair (Kd.int IntKind.i64)))))
                      L])
            else
              guardB (decide (0 ≤ k) && decide (k < (↑n2 : Int)))
                (bindO L2[0 + k.toNat]? fun x =>
                  bif x.snd.snd.snd.snd != s5 then
                    some
                      (Xt.normal,
                        [PV.sl 4 0 5 n2 n2 false false, PV.sc (Value.int IntKind.i64 (chgE L (s1, s2, s3, s4, s5))),
                          PV.sc (Value.int IntKind.i64 11)],
                        [Blk.fix true [PV.sl 5 0 5 L.length L.length false false], Blk.dead, Blk.dead,
                          Blk.fix true
                            [PV.sc (Value.string s1), PV.sc (Value.string s2), PV.sc (Value.int IntKind.i64 s3),
                              PV.sc (Value.int IntKind.i64 s4), PV.sc (Value.int IntKind.i64 s5)],
                          Blk.row true
                            (Kd.str.pair
                              (Kd.str.pair
                                ((Kd.int IntKind.i64).pair ((Kd.int IntKind.i64).pair (Kd.int IntKind.i64)))))
                            L2,
                          Blk.row true
                            (Kd.str.pair
                              (Kd.str.pair
                                ((Kd.int IntKind.i64).pair ((Kd.int IntKind.i64).pair (Kd.int IntKind.i64)))))
                            L])
                  else
                    bif vd == 0 then
                      guardB (decide (0 ≤ k) && decide (k < (↑n2 : Int)))
                        (bindO L2[0 + k.toNat]? fun x =>
                          some
                            (Xt.normal,
                              [PV.sl 4 0 5 n2 n2 false false,
                                PV.sc (Value.int IntKind.i64 (chgE L (s1, s2, s3, s4, s5))),
                                PV.sc (Value.int IntKind.i64 vd)],
                              [Blk.fix true [PV.sl 5 0 5 L.length L.length false false], Blk.dead, Blk.dead,
                                Blk.fix true
                                  [PV.sc (Value.string s1), PV.sc (Value.string s2), PV.sc (Value.int IntKind.i64 s3),
                                    PV.sc (Value.int IntKind.i64 s4), PV.sc (Value.int IntKind.i64 s5)],
                                Blk.row true
                                  (Kd.str.pair
                                    (Kd.str.pair
                                      ((Kd.int IntKind.i64).pair ((Kd.int IntKind.i64).pair (Kd.int IntKind.i64)))))
                                  (L2.set (0 + k.toNat) (s1, s2, s3, s4, s5)),
                                Blk.row true
                                  (Kd.str.pair
                                    (Kd.str.pair
                                      ((Kd.int IntKind.i64).pair ((Kd.int IntKind.i64).pair (Kd.int IntKind.i64)))))
                                  L]))
                    else
                      some
                        (Xt.normal,
                          [PV.sl 4 0 5 n2 n2 false false, PV.sc (Value.int IntKind.i64 (chgE L (s1, s2, s3, s4, s5))),
                            PV.sc (Value.int IntKind.i64 vd)],
                          [Blk.fix true [PV.sl 5 0 5 L.length L.length false false], Blk.dead, Blk.dead,
                            Blk.fix true
                              [PV.sc (Value.string s1), PV.sc (Value.string s2), PV.sc (Value.int IntKind.i64 s3),
                                PV.sc (Value.int IntKind.i64 s4), PV.sc (Value.int IntKind.i64 s5)],
                            Blk.row true
                              (Kd.str.pair
                                (Kd.str.pair
                                  ((Kd.int IntKind.i64).pair ((Kd.int IntKind.i64).pair (Kd.int IntKind.i64)))))
                              L2,
                            Blk.row true
                              (Kd.str.pair
                                (Kd.str.pair
                                  ((Kd.int IntKind.i64).pair ((Kd.int IntKind.i64).pair (Kd.int IntKind.i64)))))
                              L])))
      else
        bif vd == 0 then
          guardB (decide (0 ≤ k) && decide (k < (↑n2 : Int)))
            (bindO L2[0 + k.toNat]? fun x =>
              some
                (Xt.normal,
                  [PV.sl 4 0 5 n2 n2 false false, PV.sc (Value.int IntKind.i64 (chgE L (s1, s2, s3, s4, s5))),
                    PV.sc (Value.int IntKind.i64 vd)],
                  [Blk.fix true [PV.sl 5 0 5 L.length L.length false false], Blk.dead, Blk.dead,
                    Blk.fix true
                      [PV.sc (Value.string s1), PV.sc (Value.string s2), PV.sc (Value.int IntKind.i64 s3),
                        PV.sc (Value.int IntKind.i64 s4), PV.sc (Value.int IntKind.i64 s5)],
                    Blk.row true
                      (Kd.str.pair
                        (Kd.str.pair ((Kd.int IntKind.i64).pair ((Kd.int IntKind.i64).pair (Kd.int IntKind.i64)))))
                      (L2.set (0 + k.toNat) (s1, s2, s3, s4, s5)),
                    Blk.row true
                      (Kd.str.pair
                        (Kd.str.pair ((Kd.int IntKind.i64).pair ((Kd.int IntKind.i64).pair (Kd.int IntKind.i64)))))
                      L]))
        else
          some
            (Xt.normal,
              [PV.sl 4 0 5 n2 n2 false false, PV.sc (Value.int IntKind.i64 (chgE L (s1, s2, s3, s4, s5))),
                PV.sc (Value.int IntKind.i64 vd)],
              [Blk.fix true [PV.sl 5 0 5 L.length L.length false false], Blk.dead, Blk.dead,
                Blk.fix true
                  [PV.sc (Value.string s1), PV.sc (Value.string s2), PV.sc (Value.int IntKind.i64 s3),
                    PV.sc (Value.int IntKind.i64 s4), PV.sc (Value.int IntKind.i64 s5)],
                Blk.row true
                  (Kd.str.pair
                    (Kd.str.pair ((Kd.int IntKind.i64).pair ((Kd.int IntKind.i64).pair (Kd.int IntKind.i64)))))
                  L2,
                Blk.row true
                  (Kd.str.pair
                    (Kd.str.pair ((Kd.int IntKind.i64).pair ((Kd.int IntKind.i64).pair (Kd.int IntKind.i64)))))
                  L]))) := by kernel_rfl
noncomputable abbrev s3b3L (L : List (ByteArray × ByteArray × Int × Int × Int)) (n : Nat) (lo : Nat) (fu : Bool) (L2 : List (ByteArray × ByteArray × Int × Int × Int)) (n2 : Nat) (lo2 : Nat) (fu2 : Bool) (s1 : ByteArray) (s2 : ByteArray) (s3 : Int) (s4 : Int) (s5 : Int) (k : Int) (vd : Int) (mn : Int) := (evBlockR Try.prog U9 noCuts 219 (codeAt 5 (bodyF Try.f3)) [1, 2] [7, 8, 11, 12, 13, 14, 18, 88] [8, 17, 18]
  (st5 (.inl ((L, n, lo, fu), (L2, n2, lo2, fu2), (s1, s2, s3, s4, s5), k, vd, mn, 0, 3))).1
  (st5 (.inl ((L, n, lo, fu), (L2, n2, lo2, fu2), (s1, s2, s3, s4, s5), k, vd, mn, 0, 3))).2)
theorem s3b3 (L : List (ByteArray × ByteArray × Int × Int × Int)) (n : Nat) (lo : Nat) (fu : Bool) (L2 : List (ByteArray × ByteArray × Int × Int × Int)) (n2 : Nat) (lo2 : Nat) (fu2 : Bool) (s1 : ByteArray) (s2 : ByteArray) (s3 : Int) (s4 : Int) (s5 : Int) (k : Int) (vd : Int) (mn : Int) : s3b3L L n lo fu L2 n2 lo2 fu2 s1 s2 s3 s4 s5 k vd mn = (guardB (okV (L, n, lo, fu, false))
  (bif remE L s1 == 0 then
    bif decide (k < 0) then
      some
        (Xt.normal, [PV.sl 4 0 5 n2 n2 false false, PV.sc (Value.int IntKind.i64 0), PV.sc (Value.int IntKind.i64 8)],
          [Blk.fix true
              [PV.sl 5 0 5 (L.eraseIdx (ixC s1 L).toNat).length (L.eraseIdx (ixC s1 L).toNat).length false false],
            Blk.dead, Blk.dead,
            Blk.fix true
              [PV.sc (Value.string s1), PV.sc (Value.string s2), PV.sc (Value.int IntKind.i64 s3),
                PV.sc (Value.int IntKind.i64 s4), PV.sc (Value.int IntKind.i64 s5)],
            Blk.row true
              (Kd.str.pair (Kd.str.pair ((Kd.int IntKind.i64).pair ((Kd.int IntKind.i64).pair (Kd.int IntKind.i64)))))
              L2,
            Blk.row true
              (Kd.str.pair (Kd.str.pair ((Kd.int IntKind.i64).pair ((Kd.int IntKind.i64).pair (Kd.int IntKind.i64)))))
              (L.eraseIdx (ixC s1 L).toNat)])
    else
      guardB (decide (0 ≤ k) && decide (k < (↑n2 : Int)))
        (bindO L2[0 + k.toNat]? fun x =>
          bif x.snd.snd.snd.snd != 3 then
            some
              (Xt.normal,
                [PV.sl 4 0 5 n2 n2 false false, PV.sc (Value.int IntKind.i64 0), PV.sc (Value.int IntKind.i64 11)],
                [Blk.fix true
                    [PV.sl 5 0 5 (L.eraseIdx (ixC s1 L).toNat).length (L.eraseIdx (ixC s1 L).toNat).length false false],
                  Blk.dead, Blk.dead,
                  Blk.fix true
                    [PV.sc (Value.string s1), PV.sc (Value.string s2), PV.sc (Value.int IntKind.i64 s3),
                      PV.sc (Value.int IntKind.i64 s4), PV.sc (Value.int IntKind.i64 s5)],
                  Blk.row true
                    (Kd.str.pair
                      (Kd.str.pair ((Kd.int IntKind.i64).pair ((Kd.int IntKind.i64).pair (Kd.int IntKind.i64)))))
                    L2,
                  Blk.row true
                    (Kd.str.pair
                      (Kd.str.pair ((Kd.int IntKind.i64).pair ((Kd.int IntKind.i64).pair (Kd.int IntKind.i64)))))
                    (L.eraseIdx (ixC s1 L).toNat)])
          else
            guardB (okV (L2, n2, lo2, fu2, false) && pre17 k (IntKind.i64.wrap (k + 1)) L2)
              (some
                (Xt.normal,
                  [PV.sl 4 0 5 (L2.eraseIdx k.toNat).length (L2.eraseIdx k.toNat).length false false,
                    PV.sc (Value.int IntKind.i64 0), PV.sc (Value.int IntKind.i64 0)],
                  [Blk.fix true
                      [PV.sl 5 0 5 (L.eraseIdx (ixC s1 L).toNat).length (L.eraseIdx (ixC s1 L).toNat).length false
                          false],
                    Blk.dead, Blk.dead,
                    Blk.fix true
                      [PV.sc (Value.string s1), PV.sc (Value.string s2), PV.sc (Value.int IntKind.i64 s3),
                        PV.sc (Value.int IntKind.i64 s4), PV.sc (Value.int IntKind.i64 s5)],
                    Blk.row true
                      (Kd.str.pair
                        (Kd.str.pair ((Kd.int IntKind.i64).pair ((Kd.int IntKind.i64).pair (Kd.int IntKind.i64)))))
                      (L2.eraseIdx k.toNat),
                    Blk.row true
                      (Kd.str.pair
                        (Kd.str.pair ((Kd.int IntKind.i64).pair ((Kd.int IntKind.i64).pair (Kd.int IntKind.i64)))))
                      (L.eraseIdx (ixC s1 L).toNat)])))
  else
    bif decide (k < 0) then
      some
        (Xt.normal,
          [PV.sl 4 0 5 n2 n2 false false, PV.sc (Value.int IntKind.i64 (remE L s1)), PV.sc (Value.int IntKind.i64 8)],
          [Blk.fix true [PV.sl 5 0 5 L.length L.length false false], Blk.dead, Blk.dead,
            Blk.fix true
              [PV.sc (Value.string s1), PV.sc (Value.string s2), PV.sc (Value.int IntKind.i64 s3),
                PV.sc (Value.int IntKind.i64 s4), PV.sc (Value.int IntKind.i64 s5)],
            Blk.row true
              (Kd.str.pair (Kd.str.pair ((Kd.int IntKind.i64).pair ((Kd.int IntKind.i64).pair (Kd.int IntKind.i64)))))
              L2,
            Blk.row true
              (Kd.str.pair (Kd.str.pair ((Kd.int IntKind.i64).pair ((Kd.int IntKind.i64).pair (Kd.int IntKind.i64)))))
              L])
    else
      guardB (decide (0 ≤ k) && decide (k < (↑n2 : Int)))
        (bindO L2[0 + k.toNat]? fun x =>
          bif x.snd.snd.snd.snd != 3 then
            some
              (Xt.normal,
                [PV.sl 4 0 5 n2 n2 false false, PV.sc (Value.int IntKind.i64 (remE L s1)),
                  PV.sc (Value.int IntKind.i64 11)],
                [Blk.fix true [PV.sl 5 0 5 L.length L.length false false], Blk.dead, Blk.dead,
                  Blk.fix true
                    [PV.sc (Value.string s1), PV.sc (Value.string s2), PV.sc (Value.int IntKind.i64 s3),
                      PV.sc (Value.int IntKind.i64 s4), PV.sc (Value.int IntKind.i64 s5)],
                  Blk.row true
                    (Kd.str.pair
                      (Kd.str.pair ((Kd.int IntKind.i64).pair ((Kd.int IntKind.i64).pair (Kd.int IntKind.i64)))))
                    L2,
                  Blk.row true
                    (Kd.str.pair
                      (Kd.str.pair ((Kd.int IntKind.i64).pair ((Kd.int IntKind.i64).pair (Kd.int IntKind.i64)))))
                    L])
          else
            guardB (okV (L2, n2, lo2, fu2, false) && pre17 k (IntKind.i64.wrap (k + 1)) L2)
              (some
                (Xt.normal,
                  [PV.sl 4 0 5 (L2.eraseIdx k.toNat).length (L2.eraseIdx k.toNat).length false false,
                    PV.sc (Value.int IntKind.i64 (remE L s1)), PV.sc (Value.int IntKind.i64 0)],
                  [Blk.fix true [PV.sl 5 0 5 L.length L.length false false], Blk.dead, Blk.dead,
                    Blk.fix true
                      [PV.sc (Value.string s1), PV.sc (Value.string s2), PV.sc (Value.int IntKind.i64 s3),
                        PV.sc (Value.int IntKind.i64 s4), PV.sc (Value.int IntKind.i64 s5)],
                    Blk.row true
                      (Kd.str.pair
                        (Kd.str.pair ((Kd.int IntKind.i64).pair ((Kd.int IntKind.i64).pair (Kd.int IntKind.i64)))))
                      (L2.eraseIdx k.toNat),
                    Blk.row true
                      (Kd.str.pair
                        (Kd.str.pair ((Kd.int IntKind.i64).pair ((Kd.int IntKind.i64).pair (Kd.int IntKind.i64)))))
                      L]))))) := by kernel_rfl
noncomputable abbrev s3laL (L : List (ByteArray × ByteArray × Int × Int × Int)) (n : Nat) (lo : Nat) (fu : Bool) (L2 : List (ByteArray × ByteArray × Int × Int × Int)) (n2 : Nat) (lo2 : Nat) (fu2 : Bool) (C : List (Int × ByteArray × ByteArray × Int × Int × Int)) (nc : Nat) (loc : Nat) (fuc : Bool) (nlc : Bool) (m : Int) (k : Int) := (evRoundR Try.prog U9
  (addCut 2 [11, 13] [13] (entC kVa cVa)
    (addCut 3 [11, 14, 72, 73, 74] [14] (entC kMn cMn)
      (addCut 5 [7, 8, 11, 12, 13, 14, 18, 88] [8, 17, 18] (entR p5 sp5) noCuts)))
  219 (loopOf (codeAt 0 (bodyF Try.f3))) pL muL [] [7, 8, 33, 34, 35] [8] spL
  (stL (.inr ((C, nc, loc, fuc, nlc), m, k))).1 (stL (.inr ((C, nc, loc, fuc, nlc), m, k))).2
  (.inr ((C, nc, loc, fuc, nlc), m, k)))
theorem s3la (L : List (ByteArray × ByteArray × Int × Int × Int)) (n : Nat) (lo : Nat) (fu : Bool) (L2 : List (ByteArray × ByteArray × Int × Int × Int)) (n2 : Nat) (lo2 : Nat) (fu2 : Bool) (C : List (Int × ByteArray × ByteArray × Int × Int × Int)) (nc : Nat) (loc : Nat) (fuc : Bool) (nlc : Bool) (m : Int) (k : Int) : s3laL L n lo fu L2 n2 lo2 fu2 C nc loc fuc nlc m k = (bif decide (k < m) then
  guardB (decide (0 ≤ k) && decide (k < (↑nc : Int)))
    (bindO C[0 + k.toNat]? fun x =>
      guardB (okS x.snd && true)
        (guardB (bp (pre5 x.snd [] (-1) (chkS x.snd) 0 0 (cutS x.fst 3)))
          (bif cutS x.fst 3 == 0 && chkS x.snd == 0 then
            guardB
              (decide
                (muL
                    (Sum.inl
                      (([x.snd], 1, 1, false), ([x.snd], 1, 1, false), (C, nc, loc, fuc, nlc), m,
                        IntKind.i64.wrap (k + 1))) <
                  muL (Sum.inr ((C, nc, loc, fuc, nlc), m, k))))
              (guardB
                (bp
                  (okW ([x.snd], 1, 1, false) [x.snd] ∧
                    okW ([x.snd], 1, 1, false) [x.snd] ∧
                      okK C (↑nc : Int) m (IntKind.i64.wrap (k + 1)) ∧
                        invS [x.snd] ∧ (↑[x.snd].length : Int) ≤ IntKind.i64.wrap (k + 1)))
                (some
                  (Xt.exit 0,
                    [PV.sl 2 0 5 (runS [x.snd] (restC (C, nc, loc, fuc, nlc) (IntKind.i64.wrap (k + 1)))).length
                        (runS [x.snd] (restC (C, nc, loc, fuc, nlc) (IntKind.i64.wrap (k + 1)))).length false false],
                    [Blk.fix true
                        [PV.sl 3 0 5 (runS [x.snd] (restC (C, nc, loc, fuc, nlc) (IntKind.i64.wrap (k + 1)))).length
                            (runS [x.snd] (restC (C, nc, loc, fuc, nlc) (IntKind.i64.wrap (k + 1)))).length false
                            false],
                      Blk.row false
                        ((Kd.int IntKind.i64).pair
                          (Kd.str.pair
                            (Kd.str.pair ((Kd.int IntKind.i64).pair ((Kd.int IntKind.i64).pair (Kd.int IntKind.i64))))))
                        C,
                      Blk.row true
                        (Kd.str.pair
                          (Kd.str.pair ((Kd.int IntKind.i64).pair ((Kd.int IntKind.i64).pair (Kd.int IntKind.i64)))))
                        (runS [x.snd] (restC (C, nc, loc, fuc, nlc) (IntKind.i64.wrap (k + 1)))),
                      Blk.row true
                        (Kd.str.pair
                          (Kd.str.pair ((Kd.int IntKind.i64).pair ((Kd.int IntKind.i64).pair (Kd.int IntKind.i64)))))
                        (runS [x.snd] (restC (C, nc, loc, fuc, nlc) (IntKind.i64.wrap (k + 1))))])))
          else
            bif errE [] (cutS x.fst 3) x.snd != errE [] (cutS x.fst 3) x.snd then
              some
                (Xt.ret, [PV.sc (Value.slice none 0 0)],
                  [Blk.fix true [PV.sc (Value.slice none 0 0)],
                    Blk.row false
                      ((Kd.int IntKind.i64).pair
                        (Kd.str.pair
                          (Kd.str.pair ((Kd.int IntKind.i64).pair ((Kd.int IntKind.i64).pair (Kd.int IntKind.i64))))))
                      C])
            else
              guardB
                (decide
                  (muL (Sum.inr ((C, nc, loc, fuc, nlc), m, IntKind.i64.wrap (k + 1))) <
                    muL (Sum.inr ((C, nc, loc, fuc, nlc), m, k))))
                (guardB (bp (okK C (↑nc : Int) m (IntKind.i64.wrap (k + 1))))
                  (bif (runA (restC (C, nc, loc, fuc, nlc) (IntKind.i64.wrap (k + 1)))).isSome then
                    some
                      (Xt.exit 0,
                        [PV.sl 2 0 5 ((runA (restC (C, nc, loc, fuc, nlc) (IntKind.i64.wrap (k + 1)))).getD []).length
                            ((runA (restC (C, nc, loc, fuc, nlc) (IntKind.i64.wrap (k + 1)))).getD []).length false
                            false],
                        [Blk.fix true
                            [PV.sl 3 0 5
                                ((runA (restC (C, nc, loc, fuc, nlc) (IntKind.i64.wrap (k + 1)))).getD []).length
                                ((runA (restC (C, nc, loc, fuc, nlc) (IntKind.i64.wrap (k + 1)))).getD []).length false
                                false],
                          Blk.row false
                            ((Kd.int IntKind.i64).pair
                              (Kd.str.pair
                                (Kd.str.pair
                                  ((Kd.int IntKind.i64).pair ((Kd.int IntKind.i64).pair (Kd.int IntKind.i64))))))
                            C,
                          Blk.row true
                            (Kd.str.pair
                              (Kd.str.pair
                                ((Kd.int IntKind.i64).pair ((Kd.int IntKind.i64).pair (Kd.int IntKind.i64)))))
                            ((runA (restC (C, nc, loc, fuc, nlc) (IntKind.i64.wrap (k + 1)))).getD []),
                          Blk.row true
                            (Kd.str.pair
                              (Kd.str.pair
                                ((Kd.int IntKind.i64).pair ((Kd.int IntKind.i64).pair (Kd.int IntKind.i64)))))
                            ((runA (restC (C, nc, loc, fuc, nlc) (IntKind.i64.wrap (k + 1)))).getD [])])
                  else
                    some
                      (Xt.exit 0, [PV.sc (Value.slice none 0 0)],
                        [Blk.fix true [PV.sc (Value.slice none 0 0)],
                          Blk.row false
                            ((Kd.int IntKind.i64).pair
                              (Kd.str.pair
                                (Kd.str.pair
                                  ((Kd.int IntKind.i64).pair ((Kd.int IntKind.i64).pair (Kd.int IntKind.i64))))))
                            C]))))))
else
  some
    (Xt.exit 0, [PV.sc (Value.slice none 0 0)],
      [Blk.fix true [PV.sc (Value.slice none 0 0)],
        Blk.row false
          ((Kd.int IntKind.i64).pair
            (Kd.str.pair (Kd.str.pair ((Kd.int IntKind.i64).pair ((Kd.int IntKind.i64).pair (Kd.int IntKind.i64))))))
          C])) := by kernel_rfl
noncomputable abbrev s3lbL (L : List (ByteArray × ByteArray × Int × Int × Int)) (n : Nat) (lo : Nat) (fu : Bool) (L2 : List (ByteArray × ByteArray × Int × Int × Int)) (n2 : Nat) (lo2 : Nat) (fu2 : Bool) (C : List (Int × ByteArray × ByteArray × Int × Int × Int)) (nc : Nat) (loc : Nat) (fuc : Bool) (nlc : Bool) (m : Int) (k : Int) := (evRoundR Try.prog U9
  (addCut 2 [11, 13] [13] (entC kVa cVa)
    (addCut 3 [11, 14, 72, 73, 74] [14] (entC kMn cMn)
      (addCut 5 [7, 8, 11, 12, 13, 14, 18, 88] [8, 17, 18] (entR p5 sp5) noCuts)))
  219 (loopOf (codeAt 0 (bodyF Try.f3))) pL muL [] [7, 8, 33, 34, 35] [8] spL
  (stL (.inl ((L, n, lo, fu), (L2, n2, lo2, fu2), (C, nc, loc, fuc, nlc), m, k))).1
  (stL (.inl ((L, n, lo, fu), (L2, n2, lo2, fu2), (C, nc, loc, fuc, nlc), m, k))).2
  (.inl ((L, n, lo, fu), (L2, n2, lo2, fu2), (C, nc, loc, fuc, nlc), m, k)))
theorem s3lb (L : List (ByteArray × ByteArray × Int × Int × Int)) (n : Nat) (lo : Nat) (fu : Bool) (L2 : List (ByteArray × ByteArray × Int × Int × Int)) (n2 : Nat) (lo2 : Nat) (fu2 : Bool) (C : List (Int × ByteArray × ByteArray × Int × Int × Int)) (nc : Nat) (loc : Nat) (fuc : Bool) (nlc : Bool) (m : Int) (k : Int) : s3lbL L n lo fu L2 n2 lo2 fu2 C nc loc fuc nlc m k = (bif decide (k < m) then
  guardB (decide (0 ≤ k) && decide (k < (↑nc : Int)))
    (bindO C[0 + k.toNat]? fun x =>
      guardB (bif decide (0 + n2 ≤ L2.length) then decide ((List.take n2 L2).length ≤ 1000000) else false)
        (guardB (okS x.snd && true)
          (guardB (bif decide (0 + n2 ≤ L2.length) then preCt (List.take n2 L2) 0 (↑n2 : Int) 0 else false)
            (guardB
              (bp
                (okW (L, n, lo, fu) L ∧
                  okW (L2, n2, lo2, fu2) L ∧
                    pre5 x.snd L (ixC x.snd.fst (List.take n2 L2)) (chkS x.snd)
                      (0 + cntS x.snd.snd.snd.snd.snd (List.drop (Int.toNat 0) (List.take n2 L2))) 0 (cutS x.fst 3)))
              (bif errE L (cutS x.fst 3) x.snd != errE L (cutS x.fst 3) x.snd then
                some
                  (Xt.ret,
                    [PV.sl 4 0 5 (newL L (cutS x.fst 3) x.snd).length (newL L (cutS x.fst 3) x.snd).length false false],
                    [Blk.fix true
                        [PV.sl 5 0 5 (newL L (cutS x.fst 3) x.snd).length (newL L (cutS x.fst 3) x.snd).length false
                            false],
                      Blk.dead, Blk.dead,
                      Blk.row false
                        ((Kd.int IntKind.i64).pair
                          (Kd.str.pair
                            (Kd.str.pair ((Kd.int IntKind.i64).pair ((Kd.int IntKind.i64).pair (Kd.int IntKind.i64))))))
                        C,
                      Blk.row true
                        (Kd.str.pair
                          (Kd.str.pair ((Kd.int IntKind.i64).pair ((Kd.int IntKind.i64).pair (Kd.int IntKind.i64)))))
                        (newL L (cutS x.fst 3) x.snd),
                      Blk.row true
                        (Kd.str.pair
                          (Kd.str.pair ((Kd.int IntKind.i64).pair ((Kd.int IntKind.i64).pair (Kd.int IntKind.i64)))))
                        (newL L (cutS x.fst 3) x.snd)])
              else
                guardB
                  (decide
                    (muL
                        (Sum.inl
                          ((newL L (cutS x.fst 3) x.snd, (newL L (cutS x.fst 3) x.snd).length,
                              (newL L (cutS x.fst 3) x.snd).length, false),
                            (newL L (cutS x.fst 3) x.snd, (newL L (cutS x.fst 3) x.snd).length,
                              (newL L (cutS x.fst 3) x.snd).length, false),
                            (C, nc, loc, fuc, nlc), m, IntKind.i64.wrap (k + 1))) <
                      muL (Sum.inl ((L, n, lo, fu), (L2, n2, lo2, fu2), (C, nc, loc, fuc, nlc), m, k))))
                  (guardB
                    (bp
                      (okW
                          (newL L (cutS x.fst 3) x.snd, (newL L (cutS x.fst 3) x.snd).length,
                            (newL L (cutS x.fst 3) x.snd).length, false)
                          (newL L (cutS x.fst 3) x.snd) ∧
                        okW
                            (newL L (cutS x.fst 3) x.snd, (newL L (cutS x.fst 3) x.snd).length,
                              (newL L (cutS x.fst 3) x.snd).length, false)
                            (newL L (cutS x.fst 3) x.snd) ∧
                          okK C (↑nc : Int) m (IntKind.i64.wrap (k + 1)) ∧
                            invS (newL L (cutS x.fst 3) x.snd) ∧
                              (↑(newL L (cutS x.fst 3) x.snd).length : Int) ≤ IntKind.i64.wrap (k + 1)))
                    (some
                      (Xt.exit 0,
                        [PV.sl 4 0 5
                            (runS (newL L (cutS x.fst 3) x.snd)
                                (restC (C, nc, loc, fuc, nlc) (IntKind.i64.wrap (k + 1)))).length
                            (runS (newL L (cutS x.fst 3) x.snd)
                                (restC (C, nc, loc, fuc, nlc) (IntKind.i64.wrap (k + 1)))).length
                            false false],
                        [Blk.fix true
                            [PV.sl 5 0 5
                                (runS (newL L (cutS x.fst 3) x.snd)
                                    (restC (C, nc, loc, fuc, nlc) (IntKind.i64.wrap (k + 1)))).length
                                (runS (newL L (cutS x.fst 3) x.snd)
                                    (restC (C, nc, loc, fuc, nlc) (IntKind.i64.wrap (k + 1)))).length
                                false false],
                          Blk.dead, Blk.dead,
                          Blk.row false
                            ((Kd.int IntKind.i64).pair
                              (Kd.str.pair
                                (Kd.str.pair
                                  ((Kd.int IntKind.i64).pair ((Kd.int IntKind.i64).pair (Kd.int IntKind.i64))))))
                            C,
                          Blk.row true
                            (Kd.str.pair
                              (Kd.str.pair
                                ((Kd.int IntKind.i64).pair ((Kd.int IntKind.i64).pair (Kd.int IntKind.i64)))))
                            (runS (newL L (cutS x.fst 3) x.snd)
                              (restC (C, nc, loc, fuc, nlc) (IntKind.i64.wrap (k + 1)))),
                          Blk.row true
                            (Kd.str.pair
                              (Kd.str.pair
                                ((Kd.int IntKind.i64).pair ((Kd.int IntKind.i64).pair (Kd.int IntKind.i64)))))
                            (runS (newL L (cutS x.fst 3) x.snd)
                              (restC (C, nc, loc, fuc, nlc) (IntKind.i64.wrap (k + 1))))]))))))))
else
  some
    (Xt.exit 0, [PV.sl 4 0 5 n2 n2 false false],
      [Blk.fix true [PV.sl 5 0 5 n n false false], Blk.dead, Blk.dead,
        Blk.row false
          ((Kd.int IntKind.i64).pair
            (Kd.str.pair (Kd.str.pair ((Kd.int IntKind.i64).pair ((Kd.int IntKind.i64).pair (Kd.int IntKind.i64))))))
          C,
        Blk.row true
          (Kd.str.pair (Kd.str.pair ((Kd.int IntKind.i64).pair ((Kd.int IntKind.i64).pair (Kd.int IntKind.i64))))) L2,
        Blk.row true
          (Kd.str.pair (Kd.str.pair ((Kd.int IntKind.i64).pair ((Kd.int IntKind.i64).pair (Kd.int IntKind.i64))))) L])) := by kernel_rfl
noncomputable abbrev s3L (C : List (Int × ByteArray × ByteArray × Int × Int × Int)) (nl : Bool) (b : Int) (c : ByteArray) := (evFuncV Try.prog U10
  (addCut 0 [7, 8, 33, 34, 35] [8] (entR pL spL) (addCut 6 [2, 19, 20, 192, 193, 194] [6] (entC kGt cGt) noCuts)) Try.f3
  [] [.sl 0 0 6 C.length C.length false nl, .sc (.int .i64 b), .sc (.string c)] [rowC C])
theorem s3 (C : List (Int × ByteArray × ByteArray × Int × Int × Int)) (nl : Bool) (b : Int) (c : ByteArray) : s3L C nl b c = (guardB (decide (0 ≤ min (↑C.length : Int) 20) && decide (min (↑C.length : Int) 20 ≤ (↑C.length : Int)))
  (guardB (bp (okK C (↑((min (↑C.length : Int) 20).toNat - 0) : Int) (↑((min (↑C.length : Int) 20).toNat - 0) : Int) 0))
    (bif (runA (restC (C, (min (↑C.length : Int) 20).toNat - 0, C.length - 0, false, nl) 0)).isSome then
      guardB
        (okV
          ((runA (restC (C, (min (↑C.length : Int) 20).toNat - 0, C.length - 0, false, nl) 0)).getD [],
            ((runA (restC (C, (min (↑C.length : Int) 20).toNat - 0, C.length - 0, false, nl) 0)).getD []).length,
            ((runA (restC (C, (min (↑C.length : Int) 20).toNat - 0, C.length - 0, false, nl) 0)).getD []).length, false,
            false))
        (bif
            decide
              (ixC c ((runA (restC (C, (min (↑C.length : Int) 20).toNat - 0, C.length - 0, false, nl) 0)).getD []) <
                0) then
          guardB
            (bif
                decide
                  (0 +
                      ((runA (restC (C, (min (↑C.length : Int) 20).toNat - 0, C.length - 0, false, nl) 0)).getD
                          []).length ≤
                    ((runA (restC (C, (min (↑C.length : Int) 20).toNat - 0, C.length - 0, false, nl) 0)).getD
                        []).length) then
              preCt
                (List.take
                  ((runA (restC (C, (min (↑C.length : Int) 20).toNat - 0, C.length - 0, false, nl) 0)).getD []).length
                  ((runA (restC (C, (min (↑C.length : Int) 20).toNat - 0, C.length - 0, false, nl) 0)).getD []))
                0
                (↑((runA (restC (C, (min (↑C.length : Int) 20).toNat - 0, C.length - 0, false, nl) 0)).getD []).length :
                  Int)
                0
            else false)
            (bif
                (List.drop (Int.toNat 0)
                      (List.take
                        ((runA (restC (C, (min (↑C.length : Int) 20).toNat - 0, C.length - 0, false, nl) 0)).getD
                            []).length
                        ((runA (restC (C, (min (↑C.length : Int) 20).toNat - 0, C.length - 0, false, nl) 0)).getD
                          []))).all
                  (gtB c (ByteArray.mk #[], ByteArray.mk #[], 0, 0, 0) 8) then
              guardB
                (okV
                  ((runA (restC (C, (min (↑C.length : Int) 20).toNat - 0, C.length - 0, false, nl) 0)).getD [],
                    ((runA (restC (C, (min (↑C.length : Int) 20).toNat - 0, C.length - 0, false, nl) 0)).getD
                        []).length,
                    ((runA (restC (C, (min (↑C.length : Int) 20).toNat - 0, C.length - 0, false, nl) 0)).getD
                        []).length,
                    false, false))
                (guardB
                  (bif
                      decide
                        (0 +
                            ((runA (restC (C, (min (↑C.length : Int) 20).toNat - 0, C.length - 0, false, nl) 0)).getD
                                []).length ≤
                          ((runA (restC (C, (min (↑C.length : Int) 20).toNat - 0, C.length - 0, false, nl) 0)).getD
                              []).length) then
                    decide
                      ((List.take
                            ((runA (restC (C, (min (↑C.length : Int) 20).toNat - 0, C.length - 0, false, nl) 0)).getD
                                []).length
                            ((runA (restC (C, (min (↑C.length : Int) 20).toNat - 0, C.length - 0, false, nl) 0)).getD
                              [])).length ≤
                        100)
                  else false)
                  (guardB
                    (bif
                        decide
                          (0 +
                              (baR b ([], true)
                                    ((runA
                                          (restC (C, (min (↑C.length : Int) 20).toNat - 0, C.length - 0, false, nl)
                                            0)).getD
                                      [])).fst.length ≤
                            (srtT
                                (baR b ([], true)
                                    ((runA
                                          (restC (C, (min (↑C.length : Int) 20).toNat - 0, C.length - 0, false, nl)
                                            0)).getD
                                      [])).fst).length) then
                      bif
                          decide
                            (0 +
                                (soR b ([], true)
                                      (List.take
                                        ((runA
                                                (restC
                                                  (C, (min (↑C.length : Int) 20).toNat - 0, C.length - 0, false, nl)
                                                  0)).getD
                                            []).length
                                        ((runA
                                              (restC (C, (min (↑C.length : Int) 20).toNat - 0, C.length - 0, false, nl)
                                                0)).getD
                                          []))).fst.length ≤
                              (soR b ([], true)
                                    (List.take
                                      ((runA
                                              (restC (C, (min (↑C.length : Int) 20).toNat - 0, C.length - 0, false, nl)
                                                0)).getD
                                          []).length
                                      ((runA
                                            (restC (C, (min (↑C.length : Int) 20).toNat - 0, C.length - 0, false, nl)
                                              0)).getD
                                        []))).fst.length) then
                        decide
                          ((List.take
                                  (baR b ([], true)
                                        ((runA
                                              (restC (C, (min (↑C.length : Int) 20).toNat - 0, C.length - 0, false, nl)
                                                0)).getD
                                          [])).fst.length
                                  (srtT
                                    (baR b ([], true)
                                        ((runA
                                              (restC (C, (min (↑C.length : Int) 20).toNat - 0, C.length - 0, false, nl)
                                                0)).getD
                                          [])).fst)).length ≤
                              100 ∧
                            (List.take
                                  (soR b ([], true)
                                        (List.take
                                          ((runA
                                                  (restC
                                                    (C, (min (↑C.length : Int) 20).toNat - 0, C.length - 0, false, nl)
                                                    0)).getD
                                              []).length
                                          ((runA
                                                (restC
                                                  (C, (min (↑C.length : Int) 20).toNat - 0, C.length - 0, false, nl)
                                                  0)).getD
                                            []))).fst.length
                                  (soR b ([], true)
                                      (List.take
                                        ((runA
                                                (restC
                                                  (C, (min (↑C.length : Int) 20).toNat - 0, C.length - 0, false, nl)
                                                  0)).getD
                                            []).length
                                        ((runA
                                              (restC (C, (min (↑C.length : Int) 20).toNat - 0, C.length - 0, false, nl)
                                                0)).getD
                                          []))).fst).length ≤
                              100)
                      else false
                    else false)
                    (some
                      (PV.sc
                          (Value.bool
                            (eqL
                              (List.take
                                (baR b ([], true)
                                      ((runA
                                            (restC (C, (min (↑C.length : Int) 20).toNat - 0, C.length - 0, false, nl)
                                              0)).getD
                                        [])).fst.length
                                (srtT
                                  (baR b ([], true)
                                      ((runA
                                            (restC (C, (min (↑C.length : Int) 20).toNat - 0, C.length - 0, false, nl)
                                              0)).getD
                                        [])).fst))
                              (List.take
                                (soR b ([], true)
                                      (List.take
                                        ((runA
                                                (restC
                                                  (C, (min (↑C.length : Int) 20).toNat - 0, C.length - 0, false, nl)
                                                  0)).getD
                                            []).length
                                        ((runA
                                              (restC (C, (min (↑C.length : Int) 20).toNat - 0, C.length - 0, false, nl)
                                                0)).getD
                                          []))).fst.length
                                (soR b ([], true)
                                    (List.take
                                      ((runA
                                              (restC (C, (min (↑C.length : Int) 20).toNat - 0, C.length - 0, false, nl)
                                                0)).getD
                                          []).length
                                      ((runA
                                            (restC (C, (min (↑C.length : Int) 20).toNat - 0, C.length - 0, false, nl)
                                              0)).getD
                                        []))).fst))),
                        [Blk.row false
                            ((Kd.int IntKind.i64).pair
                              (Kd.str.pair
                                (Kd.str.pair
                                  ((Kd.int IntKind.i64).pair ((Kd.int IntKind.i64).pair (Kd.int IntKind.i64))))))
                            C]))))
            else
              some
                (PV.sc (Value.bool false),
                  [Blk.row false
                      ((Kd.int IntKind.i64).pair
                        (Kd.str.pair
                          (Kd.str.pair ((Kd.int IntKind.i64).pair ((Kd.int IntKind.i64).pair (Kd.int IntKind.i64))))))
                      C]))
        else
          guardB
            (bif
                decide
                  (0 +
                      ((runA (restC (C, (min (↑C.length : Int) 20).toNat - 0, C.length - 0, false, nl) 0)).getD
                          []).length ≤
                    ((runA (restC (C, (min (↑C.length : Int) 20).toNat - 0, C.length - 0, false, nl) 0)).getD
                        []).length) then
              preCt
                (List.take
                  ((runA (restC (C, (min (↑C.length : Int) 20).toNat - 0, C.length - 0, false, nl) 0)).getD []).length
                  ((runA (restC (C, (min (↑C.length : Int) 20).toNat - 0, C.length - 0, false, nl) 0)).getD []))
                0
                (↑((runA (restC (C, (min (↑C.length : Int) 20).toNat - 0, C.length - 0, false, nl) 0)).getD []).length :
                  Int)
                0
            else false)
            (bif
                (List.drop (Int.toNat 0)
                      (List.take
                        ((runA (restC (C, (min (↑C.length : Int) 20).toNat - 0, C.length - 0, false, nl) 0)).getD
                            []).length
                        ((runA (restC (C, (min (↑C.length : Int) 20).toNat - 0, C.length - 0, false, nl) 0)).getD
                          []))).all
                  (gtB c
                    (atS ((runA (restC (C, (min (↑C.length : Int) 20).toNat - 0, C.length - 0, false, nl) 0)).getD [])
                      (ixC c
                        ((runA (restC (C, (min (↑C.length : Int) 20).toNat - 0, C.length - 0, false, nl) 0)).getD [])))
                    0) then
              guardB
                (okV
                  ((runA (restC (C, (min (↑C.length : Int) 20).toNat - 0, C.length - 0, false, nl) 0)).getD [],
                    ((runA (restC (C, (min (↑C.length : Int) 20).toNat - 0, C.length - 0, false, nl) 0)).getD
                        []).length,
                    ((runA (restC (C, (min (↑C.length : Int) 20).toNat - 0, C.length - 0, false, nl) 0)).getD
                        []).length,
                    false, false))
                (guardB
                  (bif
                      decide
                        (0 +
                            ((runA (restC (C, (min (↑C.length : Int) 20).toNat - 0, C.length - 0, false, nl) 0)).getD
                                []).length ≤
                          ((runA (restC (C, (min (↑C.length : Int) 20).toNat - 0, C.length - 0, false, nl) 0)).getD
                              []).length) then
                    decide
                      ((List.take
                            ((runA (restC (C, (min (↑C.length : Int) 20).toNat - 0, C.length - 0, false, nl) 0)).getD
                                []).length
                            ((runA (restC (C, (min (↑C.length : Int) 20).toNat - 0, C.length - 0, false, nl) 0)).getD
                              [])).length ≤
                        100)
                  else false)
                  (guardB
                    (bif
                        decide
                          (0 +
                              (baR b ([], true)
                                    ((runA
                                          (restC (C, (min (↑C.length : Int) 20).toNat - 0, C.length - 0, false, nl)
                                            0)).getD
                                      [])).fst.length ≤
                            (srtT
                                (baR b ([], true)
                                    ((runA
                                          (restC (C, (min (↑C.length : Int) 20).toNat - 0, C.length - 0, false, nl)
                                            0)).getD
                                      [])).fst).length) then
                      bif
                          decide
                            (0 +
                                (soR b ([], true)
                                      (List.take
                                        ((runA
                                                (restC
                                                  (C, (min (↑C.length : Int) 20).toNat - 0, C.length - 0, false, nl)
                                                  0)).getD
                                            []).length
                                        ((runA
                                              (restC (C, (min (↑C.length : Int) 20).toNat - 0, C.length - 0, false, nl)
                                                0)).getD
                                          []))).fst.length ≤
                              (soR b ([], true)
                                    (List.take
                                      ((runA
                                              (restC (C, (min (↑C.length : Int) 20).toNat - 0, C.length - 0, false, nl)
                                                0)).getD
                                          []).length
                                      ((runA
                                            (restC (C, (min (↑C.length : Int) 20).toNat - 0, C.length - 0, false, nl)
                                              0)).getD
                                        []))).fst.length) then
                        decide
                          ((List.take
                                  (baR b ([], true)
                                        ((runA
                                              (restC (C, (min (↑C.length : Int) 20).toNat - 0, C.length - 0, false, nl)
                                                0)).getD
                                          [])).fst.length
                                  (srtT
                                    (baR b ([], true)
                                        ((runA
                                              (restC (C, (min (↑C.length : Int) 20).toNat - 0, C.length - 0, false, nl)
                                                0)).getD
                                          [])).fst)).length ≤
                              100 ∧
                            (List.take
                                  (soR b ([], true)
                                        (List.take
                                          ((runA
                                                  (restC
                                                    (C, (min (↑C.length : Int) 20).toNat - 0, C.length - 0, false, nl)
                                                    0)).getD
                                              []).length
                                          ((runA
                                                (restC
                                                  (C, (min (↑C.length : Int) 20).toNat - 0, C.length - 0, false, nl)
                                                  0)).getD
                                            []))).fst.length
                                  (soR b ([], true)
                                      (List.take
                                        ((runA
                                                (restC
                                                  (C, (min (↑C.length : Int) 20).toNat - 0, C.length - 0, false, nl)
                                                  0)).getD
                                            []).length
                                        ((runA
                                              (restC (C, (min (↑C.length : Int) 20).toNat - 0, C.length - 0, false, nl)
                                                0)).getD
                                          []))).fst).length ≤
                              100)
                      else false
                    else false)
                    (some
                      (PV.sc
                          (Value.bool
                            (eqL
                              (List.take
                                (baR b ([], true)
                                      ((runA
                                            (restC (C, (min (↑C.length : Int) 20).toNat - 0, C.length - 0, false, nl)
                                              0)).getD
                                        [])).fst.length
                                (srtT
                                  (baR b ([], true)
                                      ((runA
                                            (restC (C, (min (↑C.length : Int) 20).toNat - 0, C.length - 0, false, nl)
                                              0)).getD
                                        [])).fst))
                              (List.take
                                (soR b ([], true)
                                      (List.take
                                        ((runA
                                                (restC
                                                  (C, (min (↑C.length : Int) 20).toNat - 0, C.length - 0, false, nl)
                                                  0)).getD
                                            []).length
                                        ((runA
                                              (restC (C, (min (↑C.length : Int) 20).toNat - 0, C.length - 0, false, nl)
                                                0)).getD
                                          []))).fst.length
                                (soR b ([], true)
                                    (List.take
                                      ((runA
                                              (restC (C, (min (↑C.length : Int) 20).toNat - 0, C.length - 0, false, nl)
                                                0)).getD
                                          []).length
                                      ((runA
                                            (restC (C, (min (↑C.length : Int) 20).toNat - 0, C.length - 0, false, nl)
                                              0)).getD
                                        []))).fst))),
                        [Blk.row false
                            ((Kd.int IntKind.i64).pair
                              (Kd.str.pair
                                (Kd.str.pair
                                  ((Kd.int IntKind.i64).pair ((Kd.int IntKind.i64).pair (Kd.int IntKind.i64))))))
                            C]))))
            else
              some
                (PV.sc (Value.bool false),
                  [Blk.row false
                      ((Kd.int IntKind.i64).pair
                        (Kd.str.pair
                          (Kd.str.pair ((Kd.int IntKind.i64).pair ((Kd.int IntKind.i64).pair (Kd.int IntKind.i64))))))
                      C])))
    else
      some
        (PV.sc (Value.bool true),
          [Blk.row false
              ((Kd.int IntKind.i64).pair
                (Kd.str.pair
                  (Kd.str.pair ((Kd.int IntKind.i64).pair ((Kd.int IntKind.i64).pair (Kd.int IntKind.i64))))))
              C])))) := by kernel_rfl
theorem q3v (s : Strip) (z : Int) (h : (okS s && z == 0) = true) : s3vL s.1 s.2.1 s.2.2.1 s.2.2.2.1 s.2.2.2.2 z = some (.normal, [iV (chkS s)], [.fix false (pS s)]) := by
  rw [Bool.and_eq_true] at h
  obtain ⟨hs, hz⟩ := h
  obtain rfl : z = 0 := by simpa using hz
  obtain ⟨h1, h2⟩ := of_decide_eq_true hs
  rw [s3v]
  unfold chkS
  refine guard_split (decide_eq_true h1) ?_
  refine cond_split (fun h => by rw [h]; rfl) (fun h => ?_)
  rw [h, Bool.false_or]
  refine guard_split (decide_eq_true h2) ?_
  refine cond_split (fun h => by rw [h]; rfl) (fun h => ?_)
  rw [h, cond_false]
  refine cond_split (fun h => by rw [h]; rfl) (fun h => ?_)
  rw [h, Bool.false_or]
  refine cond_split (fun h => by rw [h]; rfl) (fun h => ?_)
  rw [h, Bool.false_or]
  exact cond_split (fun h => by rw [h]; rfl) (fun h => by rw [h]; rfl)
theorem q3m (s : Strip) (c : Int) (l : List Strip) (nl : Bool) (n k : Int) (h : preCt l c n k = true) : s3mL s.1 s.2.1 s.2.2.1 s.2.2.2.1 s.2.2.2.2 c l nl n k = some (.exit 3, [iV (c + cntS s.2.2.2.2 (l.drop k.toNat))], [.fix false (pS s), .row false kS l]) := by
  obtain ⟨h1, h2, h3, h4, h5, h6⟩ := of_decide_eq_true h
  obtain ⟨s1, s2, s3, s4, s5⟩ := s
  rw [s3m]
  simp only [List.take_length, Nat.zero_add, len_true, cond_true]
  refine cond_split (fun hk => ?_) (fun hk => ?_)
  · have hk := of_decide_eq_true hk
    obtain ⟨x, hx⟩ := get_ex (l := l) (k := k.toNat) (by omega)
    rw [hx, drop_cons hx, cnt_cons, IntWalk.i64_in (k + 1) (by omega), IntWalk.i64_in (c + 1) (by omega), show (k + 1).toNat = k.toNat + 1 by omega]
    refine guard_split (by simp; omega) ?_
    simp only [bindO]
    refine cond_split (fun hc => ?_) (fun hc => ?_)
    · rw [hc]
      refine guard_split (decide_eq_true (show (n - (k + 1)).toNat < (n - k).toNat by omega)) (guard_split (decide_eq_true (by omega)) ?_)
      rw [cond_true, Int.add_assoc]
    · rw [hc]
      refine guard_split (decide_eq_true (show (n - (k + 1)).toNat < (n - k).toNat by omega)) (guard_split (decide_eq_true (by omega)) ?_)
      rw [cond_false, Int.zero_add]
  · rw [List.drop_eq_nil_of_le (by have := of_decide_eq_false hk; omega)]
    show _ = some (Xt.exit 3, [PV.sc (.int .i64 (c + 0))], _)
    rw [Int.add_zero]
theorem q3g (c : ByteArray) (g : Strip) (e : Int) (l : List Strip) (nl : Bool) (n k : Int) (h : preCt l 0 n k = true) : s3gL c g.1 g.2.1 g.2.2.1 g.2.2.2.1 g.2.2.2.2 e l nl n k =
    cond ((l.drop k.toNat).all (gtB c g e)) (some (.exit 6, [.undef], [.fix false (pS g), .row false kS l])) (some (.ret, [.sc (.bool false)], [.fix false (pS g), .row false kS l])) := by
  obtain ⟨h1, h2, h3, h4, h5, h6⟩ := of_decide_eq_true h
  obtain ⟨g1, g2, g3, g4, g5⟩ := g
  rw [s3g]
  simp only [List.take_length, Nat.zero_add, len_true, cond_true]
  refine cond_split (fun hk => ?_) (fun hk => ?_)
  · have hk := of_decide_eq_true hk
    obtain ⟨x, hx⟩ := get_ex (l := l) (k := k.toNat) (by omega)
    rw [hx, drop_cons hx, IntWalk.i64_in (k + 1) (by omega), show (k + 1).toNat = k.toNat + 1 by omega, List.all_cons]
    have goOn : guardB (decide (muGt (c, (g1, g2, g3, g4, g5), e, (l, nl), n, k + 1, PUnit.unit) < muGt (c, (g1, g2, g3, g4, g5), e, (l, nl), n, k, ()))) (guardB (preCt l 0 n (k + 1))
        (cond ((l.drop (k.toNat + 1)).all (gtB c (g1, g2, g3, g4, g5) e)) (some (Xt.exit 6, [PV.undef], [Blk.fix false (pS (g1, g2, g3, g4, g5)), Blk.row false kS l])) (some (Xt.ret, [PV.sc (.bool false)], [Blk.fix false (pS (g1, g2, g3, g4, g5)), Blk.row false kS l])))) =
        cond ((l.drop (k.toNat + 1)).all (gtB c (g1, g2, g3, g4, g5) e)) (some (Xt.exit 6, [PV.undef], [Blk.fix false (pS (g1, g2, g3, g4, g5)), Blk.row false kS l])) (some (Xt.ret, [PV.sc (.bool false)], [Blk.fix false (pS (g1, g2, g3, g4, g5)), Blk.row false kS l])) :=
      guard_split (decide_eq_true (show (n - (k + 1)).toNat < (n - k).toNat by omega)) (guard_split (decide_eq_true (by omega)) rfl)
    refine guard_split (by simp; omega) ?_
    simp only [bindO]
    refine cond_split (fun hc => ?_) (fun hc => ?_)
    · refine cond_split (fun he => ?_) (fun he => ?_)
      · rw [show gtB c (g1, g2, g3, g4, g5) e x = false by unfold gtB; rw [hc, show (e == 0) = false by simpa [bne] using he]; rfl]; rfl
      · have he0 : (e == 0) = true := by simpa [bne] using he
        have eg : gtB c (g1, g2, g3, g4, g5) e x = eqS (g1, g2, g3, g4, g5) x := by unfold gtB; rw [hc, he0]; rfl
        rw [eg]
        change cond (!eqS (g1, g2, g3, g4, g5) x) _ _ = _
        cases eqS (g1, g2, g3, g4, g5) x with
        | false => rfl
        | true => simp only [Bool.not_true, cond_false, Bool.true_and]; exact goOn
    · rw [show gtB c (g1, g2, g3, g4, g5) e x = true by unfold gtB; rw [hc]; rfl, Bool.true_and]; exact goOn
  · rw [List.drop_eq_nil_of_le (by have := of_decide_eq_false hk; omega)]
    rfl
/-! ### The switch -/
theorem chk_bne (s : Strip) : (chkS s != 0) = !(chkS s == 0) := rfl
theorem bnot {b : Bool} (h : (!b) = true) : b = false := by simpa using h
theorem q3a0 (s : Strip) (h : okS s = true) (k : Int) : s3a0L [] 0 0 false [] 0 0 false s.1 s.2.1 s.2.2.1 s.2.2.2.1 s.2.2.2.2 k (chkS s) 0 = cond (chkS s == 0) (some (.normal, [slN 2 [s], iV 0, iV 0], [fixNw 3 [s], .fix true (pS s), rowS [s], rowS [s]])) (some (.normal, [nilV, iV (errE [] 0 s), iV (errE [] 0 s)], [fixN, .fix true (pS s)])) := by
  obtain ⟨s1, s2, s3, s4, s5⟩ := s
  rw [s3a0]
  refine guard_split h ?_
  have e : errE [] 0 (s1, s2, s3, s4, s5) = bif chkS (s1, s2, s3, s4, s5) != 0 then chkS (s1, s2, s3, s4, s5) else 0 := rfl
  rw [e, chk_bne]
  cases hc : chkS (s1, s2, s3, s4, s5) == 0 with
  | true =>
    have hz : chkS (s1, s2, s3, s4, s5) = 0 := by simpa using hc
    rw [hz]; rfl
  | false => rfl
theorem q3a2 (s : Strip) (h : okS s = true) (k : Int) : s3a2L [] 0 0 false [] 0 0 false s.1 s.2.1 s.2.2.1 s.2.2.2.1 s.2.2.2.2 k (chkS s) 0 = some (.normal, [nilV, iV (errE [] 2 s), iV (errE [] 2 s)], [fixN, .fix true (pS s)]) := by
  obtain ⟨s1, s2, s3, s4, s5⟩ := s
  rw [s3a2]
  refine guard_split h ?_
  have e : errE [] 2 (s1, s2, s3, s4, s5) = bif chkS (s1, s2, s3, s4, s5) != 0 then chkS (s1, s2, s3, s4, s5) else 8 := rfl
  rw [e, chk_bne]
  cases hc : chkS (s1, s2, s3, s4, s5) == 0 with
  | true => rfl
  | false => rfl
theorem q3a1 (s : Strip) : s3a1L [] 0 0 false [] 0 0 false s.1 s.2.1 s.2.2.1 s.2.2.2.1 s.2.2.2.2 0 (chkS s) 0 = some (.normal, [nilV, iV (errE [] 1 s), iV (errE [] 1 s)], [fixN, .fix true (pS s)]) := by
  obtain ⟨s1, s2, s3, s4, s5⟩ := s
  rw [s3a1]; rfl
theorem q3a3 (s : Strip) : s3a3L [] 0 0 false [] 0 0 false s.1 s.2.1 s.2.2.1 s.2.2.2.1 s.2.2.2.2 0 (chkS s) 0 = some (.normal, [nilV, iV (errE [] 3 s), iV (errE [] 3 s)], [fixN, .fix true (pS s)]) := by
  obtain ⟨s1, s2, s3, s4, s5⟩ := s
  rw [s3a3]; rfl
theorem kd_cases {kd : Int} (h1 : 0 ≤ kd) (h2 : kd ≤ 3) : kd = 0 ∨ kd = 1 ∨ kd = 2 ∨ kd = 3 := by omega
abbrev ansB (L' : List Strip) (e : Int) (s : Strip) : Option (Xt × List PV × List Blk) := some (.normal, [slN 4 L', iV e, iV e], [fixNw 5 L', .dead, .dead, .fix true (pS s), rowS L', rowS L'])
theorem ansB_len (L' : List Strip) (m : Nat) (e : Int) (s : Strip) (h : L'.length = m) : some (Xt.normal, [PV.sl 4 0 5 m m false false, iV e, iV e], [Blk.fix true [PV.sl 5 0 5 m m false false], Blk.dead, Blk.dead, Blk.fix true (pS s), rowS L', rowS L']) = ansB L' e s := by subst h; rfl
theorem app_len2 (L : List Strip) (s : Strip) : (L ++ [s]).length = L.length + 1 := by simp
theorem q3b0 (s : Strip) (L : List Strip) (n lo : Nat) (fu : Bool) (n2 lo2 : Nat) (fu2 : Bool) (h1 : okV (L, n, lo, fu, false) = true) (h2 : okV (L, n2, lo2, fu2, false) = true) (hs : okS s = true) :
    s3b0L L n lo fu L n2 lo2 fu2 s.1 s.2.1 s.2.2.1 s.2.2.2.1 s.2.2.2.2 (ixC s.1 L) (chkS s) (cntS s.2.2.2.2 L) = ansB (newL L 0 s) (errE L 0 s) s := by
  obtain ⟨s1, s2, s3, s4, s5⟩ := s
  rw [s3b0]
  have hh := h1
  obtain ⟨rfl, g2, g3⟩ := okV_at h1
  obtain ⟨rfl, g4, g5⟩ := okV_at h2
  refine guard_split (by rw [hh, hs]; rfl) ?_
  have e1 : newL L 0 (s1, s2, s3, s4, s5) = bif putE L (s1, s2, s3, s4, s5) == 0 then L ++ [(s1, s2, s3, s4, s5)] else L := rfl
  have e2 : errE L 0 (s1, s2, s3, s4, s5) = putE L (s1, s2, s3, s4, s5) := rfl
  rw [e1, e2]
  have hp : putE L (s1, s2, s3, s4, s5) = bif !(chkS (s1, s2, s3, s4, s5) == 0) then chkS (s1, s2, s3, s4, s5) else bif decide (ixC s1 L ≥ 0) then 7 else bif cntS s5 L == 16 then 9 else 0 := rfl
  have hg : (decide (0 + L.length ≤ L.length) && true && decide ((L.length + 1) * 56 ≤ 140737488355328) && decide (L.length + 1 ≤ 4611686018427387904)) = true := by simp; omega
  simp only [hg, List.take_length, app_len2, guardB, cond_true]
  rw [hp]
  cases hc : chkS (s1, s2, s3, s4, s5) == 0 with
  | false =>
    simp only [Bool.not_false, cond_true, hc, cond_false]
  | true =>
    have hz : chkS (s1, s2, s3, s4, s5) = 0 := by simpa using hc
    rw [hz]
    simp only [Bool.not_true, cond_false]
    cases hk : decide (ixC s1 L ≥ 0) with
    | true => rfl
    | false =>
      cases hm : cntS s5 L == 16 with
      | true => rfl
      | false => cases fu2 <;> exact ansB_len (L ++ [(s1, s2, s3, s4, s5)]) (L.length + 1) 0 (s1, s2, s3, s4, s5) (app_len2 _ _)
theorem mvd_eq (L : List Strip) (c : ByteArray) (b : Int) : mvdE L (ixC c L) b (cntS b L) = movE L c b := rfl
theorem setB_eq' (x : Strip) (b : Int) : (x.1, x.2.1, x.2.2.1, x.2.2.2.1, b) = setB x b := rfl
theorem q3b1 (s : Strip) (L : List Strip) (n lo : Nat) (fu : Bool) (n2 lo2 : Nat) (fu2 : Bool) (h1 : okV (L, n, lo, fu, false) = true) (h2 : okV (L, n2, lo2, fu2, false) = true) (hg : goodS L = true) :
    s3b1L L n lo fu L n2 lo2 fu2 s.1 s.2.1 s.2.2.1 s.2.2.2.1 s.2.2.2.2 (ixC s.1 L) (chkS s) (cntS s.2.2.2.2 L) = ansB (newL L 1 s) (errE L 1 s) s := by
  obtain ⟨s1, s2, s3, s4, s5⟩ := s
  rw [s3b1]
  have hh := h1
  have hh2 := h2
  obtain ⟨rfl, g2, g3⟩ := okV_at h1
  obtain ⟨rfl, g4, g5⟩ := okV_at h2
  have hp : (okV (L, L.length, lo2, fu2, false) && pre14 (ixC s1 L) L) = true := by
    rw [hh2, Bool.true_and]; unfold pre14; rw [hg, Bool.and_true]
    rcases ixC_cases s1 L with h | h <;> exact decide_eq_true (by omega)
  refine guard_split hh ?_
  have e1 : newL L 1 (s1, s2, s3, s4, s5) = bif movE L s1 s5 == 0 then L.set (ixC s1 L).toNat (setB (atS L (ixC s1 L)) s5) else L := rfl
  have e2 : errE L 1 (s1, s2, s3, s4, s5) = movE L s1 s5 := rfl
  rw [e1, e2, hp]
  simp only [mvd_eq]
  cases hm : movE L s1 s5 == 0 with
  | true =>
    have hz : movE L s1 s5 = 0 := by simpa using hm
    rw [hz]
    simp only [guardB, cond_true, List.length_set]
    exact ansB_len (L.set (ixC s1 L).toNat (setB (atS L (ixC s1 L)) s5)) L.length 0 (s1, s2, s3, s4, s5) (List.length_set ..)
  | false => rfl
theorem q3b2 (s : Strip) (L : List Strip) (n lo : Nat) (fu : Bool) (n2 lo2 : Nat) (fu2 : Bool) (h1 : okV (L, n, lo, fu, false) = true) (h2 : okV (L, n2, lo2, fu2, false) = true) (hs : okS s = true) :
    s3b2L L n lo fu L n2 lo2 fu2 s.1 s.2.1 s.2.2.1 s.2.2.2.1 s.2.2.2.2 (ixC s.1 L) (chkS s) (cntS s.2.2.2.2 L) = ansB (newL L 2 s) (errE L 2 s) s := by
  obtain ⟨s1, s2, s3, s4, s5⟩ := s
  rw [s3b2]
  have hh := h1
  obtain ⟨rfl, g2, g3⟩ := okV_at h1
  obtain ⟨rfl, g4, g5⟩ := okV_at h2
  refine guard_split (by rw [hh, hs]; rfl) ?_
  have e1 : newL L 2 (s1, s2, s3, s4, s5) = bif chgE L (s1, s2, s3, s4, s5) == 0 then L.set (ixC s1 L).toNat (s1, s2, s3, s4, s5) else L := rfl
  have e2 : errE L 2 (s1, s2, s3, s4, s5) = chgE L (s1, s2, s3, s4, s5) := rfl
  rw [e1, e2]
  have hp : chgE L (s1, s2, s3, s4, s5) = bif !(chkS (s1, s2, s3, s4, s5) == 0) then chkS (s1, s2, s3, s4, s5) else bif decide (ixC s1 L < 0) then 8 else bif (atS L (ixC s1 L)).2.2.2.2 == 3 || (atS L (ixC s1 L)).2.2.2.2 != s5 then 11 else 0 := rfl
  simp only [List.length_set]
  rw [hp]
  cases hc : chkS (s1, s2, s3, s4, s5) == 0 with
  | false => simp only [Bool.not_false, cond_true, hc, cond_false]
  | true =>
    have hz : chkS (s1, s2, s3, s4, s5) = 0 := by simpa using hc
    rw [hz]
    simp only [Bool.not_true, cond_false, show ((0 : Int) == 0) = true from rfl, cond_true]
    cases hk : decide (ixC s1 L < 0) with
    | true => rfl
    | false =>
      have h0 := of_decide_eq_false hk
      have hb : 0 ≤ ixC s1 L ∧ ixC s1 L < (L.length : Int) := by rcases ixC_cases s1 L with h | h <;> omega
      have hgd : (decide (0 ≤ ixC s1 L) && decide (ixC s1 L < (L.length : Int))) = true := by simp; omega
      rw [at_ex hb.1 hb.2, hgd, Nat.zero_add]
      simp only [guardB, cond_true, cond_false, bindO]
      cases h3 : (atS L (ixC s1 L)).2.2.2.2 == 3 with
      | true => rfl
      | false =>
        cases h4 : (atS L (ixC s1 L)).2.2.2.2 != s5 with
        | true => rfl
        | false => exact ansB_len (L.set (ixC s1 L).toNat (s1, s2, s3, s4, s5)) L.length 0 (s1, s2, s3, s4, s5) (List.length_set ..)
theorem q3b3 (s : Strip) (L : List Strip) (n lo : Nat) (fu : Bool) (n2 lo2 : Nat) (fu2 : Bool) (h1 : okV (L, n, lo, fu, false) = true) (h2 : okV (L, n2, lo2, fu2, false) = true) :
    s3b3L L n lo fu L n2 lo2 fu2 s.1 s.2.1 s.2.2.1 s.2.2.2.1 s.2.2.2.2 (ixC s.1 L) (chkS s) (cntS s.2.2.2.2 L) = ansB (newL L 3 s) (errE L 3 s) s := by
  obtain ⟨s1, s2, s3, s4, s5⟩ := s
  rw [s3b3]
  have hh := h1
  have hh2 := h2
  obtain ⟨rfl, g2, g3⟩ := okV_at h1
  obtain ⟨rfl, g4, g5⟩ := okV_at h2
  refine guard_split hh ?_
  have e1 : newL L 3 (s1, s2, s3, s4, s5) = bif remE L s1 == 0 then L.eraseIdx (ixC s1 L).toNat else L := rfl
  have e2 : errE L 3 (s1, s2, s3, s4, s5) = remE L s1 := rfl
  rw [e1, e2]
  have hp : remE L s1 = bif decide (ixC s1 L < 0) then 8 else bif (atS L (ixC s1 L)).2.2.2.2 != 3 then 11 else 0 := rfl
  rw [hp]
  cases hk : decide (ixC s1 L < 0) with
  | true => rfl
  | false =>
    have h0 := of_decide_eq_false hk
    have hb : 0 ≤ ixC s1 L ∧ ixC s1 L < (L.length : Int) := by rcases ixC_cases s1 L with h | h <;> omega
    have hgd : (decide (0 ≤ ixC s1 L) && decide (ixC s1 L < (L.length : Int))) = true := by simp; omega
    rw [at_ex hb.1 hb.2, hgd, IntWalk.i64_in (ixC s1 L + 1) (by omega), hh2]
    have hpr : pre17 (ixC s1 L) (ixC s1 L + 1) L = true := decide_eq_true ⟨rfl, hb⟩
    rw [hpr]
    simp only [guardB, cond_true, cond_false, bindO, Bool.and_true]
    cases h3 : (atS L (ixC s1 L)).2.2.2.2 != 3 with
    | true => rfl
    | false => rfl
/-! ### The switch as a block -/
theorem p5_st : ∀ xs H v, p5 xs H = some v → (xs, H) = st5 v := by
  intro xs H v h
  unfold p5 at h
  split at h
  · obtain ⟨k0, rfl⟩ := cond_some h
    obtain ⟨rfl, k1⟩ := eqN_cons k0
    obtain ⟨rfl, k2⟩ := eqN_cons k1
    obtain ⟨rfl, k3⟩ := eqN_cons k2
    obtain ⟨rfl, k4⟩ := eqN_cons k3
    obtain ⟨rfl, k5⟩ := eqN_cons k4
    obtain ⟨rfl, k6⟩ := eqN_cons k5
    obtain ⟨rfl, k7⟩ := eqN_cons k6
    obtain ⟨rfl, k8⟩ := eqN_cons k7
    obtain ⟨rfl, k9⟩ := eqN_cons k8
    obtain ⟨rfl, k10⟩ := eqN_cons k9
    obtain ⟨rfl, k11⟩ := eqN_cons k10
    obtain ⟨rfl, k12⟩ := eqN_cons k11
    obtain ⟨rfl, k13⟩ := eqN_cons k12
    obtain ⟨rfl, k14⟩ := eqN_cons k13
    rfl
  · obtain ⟨k0, rfl⟩ := cond_some h
    obtain ⟨rfl, k1⟩ := eqN_cons k0
    obtain ⟨rfl, k2⟩ := eqN_cons k1
    obtain ⟨rfl, k3⟩ := eqN_cons k2
    obtain ⟨rfl, k4⟩ := eqN_cons k3
    obtain ⟨rfl, k5⟩ := eqN_cons k4
    obtain ⟨rfl, k6⟩ := eqN_cons k5
    obtain ⟨rfl, k7⟩ := eqN_cons k6
    obtain ⟨rfl, k8⟩ := eqN_cons k7
    rfl
  · cases h
theorem pL_st : ∀ xs H v, pL xs H = some v → (xs, H) = stL v := by
  intro xs H v h
  unfold pL at h
  split at h
  · obtain ⟨k0, rfl⟩ := cond_some h
    obtain ⟨rfl, k1⟩ := eqN_cons k0
    obtain ⟨rfl, k2⟩ := eqN_cons k1
    obtain ⟨rfl, k3⟩ := eqN_cons k2
    obtain ⟨rfl, k4⟩ := eqN_cons k3
    obtain ⟨rfl, k5⟩ := eqN_cons k4
    obtain ⟨rfl, k6⟩ := eqN_cons k5
    obtain ⟨rfl, k7⟩ := eqN_cons k6
    obtain ⟨rfl, k8⟩ := eqN_cons k7
    obtain ⟨rfl, k9⟩ := eqN_cons k8
    obtain ⟨rfl, k10⟩ := eqN_cons k9
    obtain ⟨rfl, k11⟩ := eqN_cons k10
    obtain ⟨rfl, k12⟩ := eqN_cons k11
    obtain ⟨rfl, k13⟩ := eqN_cons k12
    rfl
  · obtain ⟨k0, rfl⟩ := cond_some h
    obtain ⟨rfl, k1⟩ := eqN_cons k0
    obtain ⟨rfl, k2⟩ := eqN_cons k1
    obtain ⟨rfl, k3⟩ := eqN_cons k2
    obtain ⟨rfl, k4⟩ := eqN_cons k3
    obtain ⟨rfl, k5⟩ := eqN_cons k4
    obtain ⟨rfl, k6⟩ := eqN_cons k5
    obtain ⟨rfl, k7⟩ := eqN_cons k6
    rfl
  · cases h
theorem okV_of {v : VW} {L : List Strip} (h : okW v L) (hl : L.length ≤ 60) : v.1 = L ∧ okV (L, v.2.1, v.2.2.1, v.2.2.2, false) = true := ⟨h.1, decide_eq_true ⟨h.2.1, by show L.length ≤ 100; omega, h.2.2⟩⟩
theorem in5 : CutOK Try.prog Try.f3.ntmps (codeAt 5 (bodyF Try.f3)) [7, 8, 11, 12, 13, 14, 18, 88] [8, 17, 18] (entR p5 sp5) := by
  refine cut_sum (block_cutR (kill := [1, 2]) (st0 := fun v => st5 (.inl v)) U9_ok mixed (leftR_st p5_st) (noCuts_ok _) ?_) (block_cutR (kill := []) (st0 := fun v => st5 (.inr v)) U9_ok mixed (rightR_st p5_st) (noCuts_ok _) ?_)
  · rintro ⟨⟨L, n, lo, fu⟩, ⟨L2, n2, lo2, fu2⟩, s, k, vd, mn, z, kd⟩ hpre
    obtain ⟨hw1, hw2, hl, hg, hs, hk, hvd, hmn, hz, g1, g2⟩ := bp_true.1 hpre
    obtain ⟨_, h1⟩ := okV_of hw1 hl
    obtain ⟨hL, h2⟩ := okV_of hw2 hl
    obtain rfl : L2 = L := hL
    obtain rfl : k = ixC s.1 L2 := hk
    obtain rfl : vd = chkS s := hvd
    obtain rfl : mn = cntS s.2.2.2.2 L2 := hmn
    obtain rfl : z = 0 := hz
    have g1 : (0 : Int) ≤ kd := g1
    have g2 : kd ≤ 3 := g2
    rcases kd_cases g1 g2 with rfl | rfl | rfl | rfl
    · exact q3b0 s L2 n lo fu n2 lo2 fu2 h1 h2 hs
    · exact q3b1 s L2 n lo fu n2 lo2 fu2 h1 h2 hg
    · exact q3b2 s L2 n lo fu n2 lo2 fu2 h1 h2 hs
    · exact q3b3 s L2 n lo fu n2 lo2 fu2 h1 h2
  · rintro ⟨s, vd, mn, z, kd⟩ hpre
    obtain ⟨_, _, hs, _, hvd, hmn, hz, g1, g2⟩ := bp_true.1 hpre
    obtain rfl : vd = chkS s := hvd
    obtain rfl : mn = 0 := hmn
    obtain rfl : z = 0 := hz
    have g1 : (0 : Int) ≤ kd := g1
    have g2 : kd ≤ 3 := g2
    rcases kd_cases g1 g2 with rfl | rfl | rfl | rfl
    · exact q3a0 s hs 0
    · exact q3a1 s
    · exact q3a2 s hs 0
    · exact q3a3 s
/-! ### The loop -/
theorem cut03 (n : Int) : 0 ≤ cutS n 3 ∧ cutS n 3 ≤ 3 := by
  unfold cutS
  have h1 := Int.tmod_lt_of_pos n (b := 4) (by omega)
  have h2 : -4 < n.tmod 4 := Int.lt_tmod_of_pos n (by omega)
  show 0 ≤ (bif decide (n.tmod 4 < 0) then n.tmod 4 + 4 else n.tmod 4) ∧ (bif decide (n.tmod 4 < 0) then n.tmod 4 + 4 else n.tmod 4) ≤ 3
  by_cases h : n.tmod 4 < 0
  · rw [decide_eq_true h]; simp only [cond_true]; omega
  · rw [decide_eq_false h]; simp only [cond_false]; omega
theorem rest_cons {C : List Call} {nc loc : Nat} {fuc nlc : Bool} {k : Int} {x : Call} (h0 : 0 ≤ k) (h : k < (nc : Int)) (hx : C[k.toNat]? = some x) : restC (C, nc, loc, fuc, nlc) k = x :: restC (C, nc, loc, fuc, nlc) (k + 1) := by
  unfold restC
  have : (C.take nc)[k.toNat]? = some x := by rw [List.getElem?_take, if_pos (by omega)]; exact hx
  rw [drop_cons this, show (k + 1).toNat = k.toNat + 1 by omega]
theorem rest_nil {C : List Call} {nc loc : Nat} {fuc nlc : Bool} {k : Int} (h : (nc : Int) ≤ k) : restC (C, nc, loc, fuc, nlc) k = [] := by
  show (C.take nc).drop k.toNat = []
  exact List.drop_eq_nil_of_le (by rw [List.length_take]; omega)
theorem cnt_nil (b : Int) : cntS b [] = 0 := rfl
abbrev ansLB (C : List Call) (R : List Strip) : Option (Xt × List PV × List Blk) := some (.exit 0, [slN 4 R], [fixNw 5 R, .dead, .dead, rowC C, rowS R, rowS R])
theorem q3lb (L : List Strip) (n lo : Nat) (fu : Bool) (L2 : List Strip) (n2 lo2 : Nat) (fu2 : Bool) (C : List Call) (nc loc : Nat) (fuc nlc : Bool) (m k : Int)
    (h : (spL (.inl ((L, n, lo, fu), (L2, n2, lo2, fu2), (C, nc, loc, fuc, nlc), m, k))).1 = true) : s3lbL L n lo fu L2 n2 lo2 fu2 C nc loc fuc nlc m k = ansLB C (runS L (restC (C, nc, loc, fuc, nlc) k)) := by
  obtain ⟨hw1, ⟨hL, hn2, hlo2⟩, ⟨hm, hnc, hk0, hkm, hm20, hok⟩, hinv, hlen⟩ := bp_true.1 h
  obtain rfl : L2 = L := hL
  obtain ⟨_, hn, hlo⟩ := hw1
  obtain rfl : n = L2.length := hn
  obtain rfl : n2 = L2.length := hn2
  have hm : m = (nc : Int) := hm
  have hnc : (nc : Int) ≤ (C.length : Int) := hnc
  have hk0 : 0 ≤ k := hk0
  have hkm : k ≤ m := hkm
  have hm20 : m ≤ 20 := hm20
  have hlen : (L2.length : Int) ≤ k := hlen
  rw [s3lb]
  simp only [List.take_length, Nat.zero_add, len_true, cond_true, show Int.toNat 0 = 0 from rfl, List.drop_zero, Int.zero_add]
  refine cond_split (fun hk => ?_) (fun hk => ?_)
  · have hk := of_decide_eq_true hk
    obtain ⟨x, hx⟩ := get_ex (l := C) (k := k.toNat) (by omega)
    rw [hx, IntWalk.i64_in (k + 1) (by omega), rest_cons hk0 (by omega) hx]
    refine guard_split (by simp; omega) ?_
    simp only [bindO]
    have hs : okS x.2 = true := hok x (List.mem_of_getElem? hx)
    obtain ⟨hc1, hc2⟩ := cut03 x.1
    obtain ⟨hi1, hi2⟩ := inv_new (L := L2) (kd := cutS x.1 3) (s := x.2) hinv
    refine guard_split (decide_eq_true (by omega)) (guard_split (by rw [hs]; rfl) (guard_split (decide_eq_true (by omega)) (guard_split (bp_mk ⟨⟨rfl, rfl, hlo⟩, ⟨rfl, rfl, hlo2⟩, by show L2.length ≤ 60; omega, hinv.1, hs, rfl, rfl, rfl, rfl, hc1, hc2⟩) ?_)))
    rw [bne_self_eq_false, cond_false]
    refine guard_split (decide_eq_true (show (m - (k + 1)).toNat < (m - k).toNat by omega)) (guard_split (bp_mk ⟨⟨rfl, rfl, Nat.le_refl _⟩, ⟨rfl, rfl, Nat.le_refl _⟩, ⟨hm, hnc, by show 0 ≤ k + 1; omega, by show k + 1 ≤ m; omega, hm20, hok⟩, hi1, by show _ ≤ k + 1; omega⟩) rfl)
  · have hk := of_decide_eq_false hk
    rw [rest_nil (by omega)]
    rfl
abbrev ansLA (C : List Call) (R : Option (List Strip)) : Option (Xt × List PV × List Blk) := cond R.isSome (some (.exit 0, [slN 2 (R.getD [])], [fixNw 3 (R.getD []), rowC C, rowS (R.getD []), rowS (R.getD [])])) (some (.exit 0, [nilV], [fixN, rowC C]))
theorem q3la (C : List Call) (nc loc : Nat) (fuc nlc : Bool) (m k : Int)
    (h : (spL (.inr ((C, nc, loc, fuc, nlc), m, k))).1 = true) : s3laL [] 0 0 false [] 0 0 false C nc loc fuc nlc m k = ansLA C (runA (restC (C, nc, loc, fuc, nlc) k)) := by
  obtain ⟨hm, hnc, hk0, hkm, hm20, hok⟩ := bp_true.1 h
  have hm : m = (nc : Int) := hm
  have hnc : (nc : Int) ≤ (C.length : Int) := hnc
  have hk0 : 0 ≤ k := hk0
  have hkm : k ≤ m := hkm
  have hm20 : m ≤ 20 := hm20
  rw [s3la]
  simp only [Nat.zero_add]
  refine cond_split (fun hk => ?_) (fun hk => ?_)
  · have hk := of_decide_eq_true hk
    obtain ⟨x, hx⟩ := get_ex (l := C) (k := k.toNat) (by omega)
    rw [hx, IntWalk.i64_in (k + 1) (by omega), rest_cons hk0 (by omega) hx]
    refine guard_split (by simp; omega) ?_
    simp only [bindO]
    have hs : okS x.2 = true := hok x (List.mem_of_getElem? hx)
    obtain ⟨hc1, hc2⟩ := cut03 x.1
    refine guard_split (by rw [hs]; rfl) (guard_split (bp_mk ⟨by decide, rfl, hs, rfl, rfl, rfl, rfl, hc1, hc2⟩) ?_)
    have e : runA (x :: restC (C, nc, loc, fuc, nlc) (k + 1)) = bif cutS x.1 3 == 0 && chkS x.2 == 0 then some (runS [x.2] (restC (C, nc, loc, fuc, nlc) (k + 1))) else runA (restC (C, nc, loc, fuc, nlc) (k + 1)) := rfl
    rw [e]
    cases hb : cutS x.1 3 == 0 && chkS x.2 == 0 with
    | true =>
      rw [Bool.and_eq_true] at hb
      simp only [cond_true]
      exact guard_split (decide_eq_true (show (m - (k + 1)).toNat < (m - k).toNat by omega)) (guard_split (bp_mk ⟨⟨rfl, rfl, Nat.le_refl _⟩, ⟨rfl, rfl, Nat.le_refl _⟩, ⟨hm, hnc, by show 0 ≤ k + 1; omega, by show k + 1 ≤ m; omega, hm20, hok⟩, inv_one (by simpa using hb.2), by show ((1 : Nat) : Int) ≤ k + 1; omega⟩) rfl)
    | false =>
      simp only [cond_false]
      rw [bne_self_eq_false, cond_false]
      exact guard_split (decide_eq_true (show (m - (k + 1)).toNat < (m - k).toNat by omega)) (guard_split (bp_mk ⟨hm, hnc, by show 0 ≤ k + 1; omega, by show k + 1 ≤ m; omega, hm20, hok⟩) rfl)
  · have hk := of_decide_eq_false hk
    rw [rest_nil (by omega)]
    rfl
theorem in2 : CutOK Try.prog Try.f3.ntmps (codeAt 2 (bodyF Try.f3)) [11, 13] [13] (entC kVa cVa) := block_cutV (kill := killA 0 kVa) U9_ok mixed (noCuts_ok _) fun v h => q3v v.1 v.2.1 h
theorem in3 : CutOK Try.prog Try.f3.ntmps (codeAt 3 (bodyF Try.f3)) [11, 14, 72, 73, 74] [14] (entC kMn cMn) := loop_cutW (kill := killA 0 kMn) U9_ok mixed muMn (by kernel_rfl) (noCuts_ok _) fun v h => q3m v.1 v.2.1 v.2.2.1.1 v.2.2.1.2 v.2.2.2.1 v.2.2.2.2.1 h
theorem in6 : CutOK Try.prog Try.f3.ntmps (codeAt 6 (bodyF Try.f3)) [2, 19, 20, 192, 193, 194] [6] (entC kGt cGt) := loop_cutW (kill := killA 0 kGt) U9_ok mixed muGt (by kernel_rfl) (noCuts_ok _) fun v h => q3g v.1 v.2.1 v.2.2.1 v.2.2.2.1.1 v.2.2.2.1.2 v.2.2.2.2.1 v.2.2.2.2.2.1 h
theorem in0 : CutOK Try.prog Try.f3.ntmps (codeAt 0 (bodyF Try.f3)) [7, 8, 33, 34, 35] [8] (entR pL spL) := by
  refine loop_cutR (kill := []) (st0 := stL) U9_ok mixed pL_st muL (by kernel_rfl) (cutAt (id := 2) (by kernel_rfl) (by kernel_rfl) in2 (cutAt (id := 3) (by kernel_rfl) (by kernel_rfl) in3 (cutAt (id := 5) (by kernel_rfl) (by kernel_rfl) in5 (noCuts_ok _)))) ?_
  rintro (⟨⟨L, n, lo, fu⟩, ⟨L2, n2, lo2, fu2⟩, ⟨C, nc, loc, fuc, nlc⟩, m, k⟩ | ⟨⟨C, nc, loc, fuc, nlc⟩, m, k⟩) hpre
  · exact q3lb L n lo fu L2 n2 lo2 fu2 C nc loc fuc nlc m k hpre
  · exact q3la C nc loc fuc nlc m k hpre
theorem U10_ok : TableOK Try.prog U10 := ext_ok (entV_ok Try.call6 (liftV (T0_ok _) mixed Try.func6 (show Try.f6.body = some (bodyF Try.f6) from rfl) (noCuts_ok _) (by decide) fun v _ => s6)) U9_ok
end Go.Proofs.YtokephobkllfgaaSs
