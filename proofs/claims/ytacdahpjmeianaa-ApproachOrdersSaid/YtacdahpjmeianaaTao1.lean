/- What is proved: the search of an order of arrivals finds the first order of all in which none is late. No condition. -/
import Derived.Test.YtacdahpjmeianaaTas2
import Derived.Test.YtacdahpjmeianaaTao0
namespace Go.Proofs.YtacdahpjmeianaaAs
open Go hiding Item
open Go.Proofs Go.Proofs.YtacdahpjmeianaaEv
set_option maxRecDepth 100000
set_option linter.unusedSimpArgs false
set_option linter.unusedVariables false
noncomputable abbrev a52L := evFuncV Try.prog TD noCuts Try.f32 (killA 0 []) (showA 0 [] ()).1 (showA 0 [] ()).2
theorem a52 : a52L = (some (PV.sc (Value.bool true), [])) := by kernel_rfl
theorem in54 : CutOK Try.prog Try.f82.ntmps (codeAt 0 (bodyF Try.f82)) [0, 7, 18, 19, 20] [7] (entC k54 c54) := loop_cutW (kill := killA 0 k54) TT_ok mixed mu54 (by kernel_rfl) (noCuts_ok _) fun v h => p54l v.1.1 v.1.2 v.2.1.1 v.2.1.2 v.2.2.1.1 v.2.2.1.2 v.2.2.2.1 v.2.2.2.2.1 h
theorem in58 : CutOK Try.prog Try.f26.ntmps (codeAt 0 (bodyF Try.f26)) [0, 1, 12, 13] [4] (entC k58 c58) := loop_cutW (kill := killA 0 k58) (T0_ok _) mixed mu58 (by kernel_rfl) (noCuts_ok _) fun v h => p58l v.1.1 v.1.2 v.2.1.1 v.2.1.2 v.2.2.1 v.2.2.2.1 h
theorem in84 : CutOK Try.prog Try.f16.ntmps (codeAt 0 (bodyF Try.f16)) [0, 1, 12, 13] [4] (entC k58 c58) := loop_cutW (kill := killA 0 k58) (T0_ok _) mixed mu58 (by kernel_rfl) (noCuts_ok _) fun v h => p84l v.1.1 v.1.2 v.2.1.1 v.2.1.2 v.2.2.1 v.2.2.2.1 h
theorem in57a : CutOK Try.prog Try.f37.ntmps (codeAt 0 (bodyF Try.f37)) [5, 14, 15, 16] [] (entC k57a c57a) := loop_cutW (kill := killA 0 k57a) (T0_ok _) mixed mu57a (by kernel_rfl) (noCuts_ok _) fun v h => p57a v.1.1 v.1.2 v.2.1.1 v.2.1.2 v.2.2.1 v.2.2.2.1 h
theorem in57d : CutOK Try.prog Try.f37.ntmps (codeAt 6 (bodyF Try.f37)) [0, 3, 5, 8, 36, 37] [] (entC k57d c57d) := loop_cutW (kill := killA 0 k57d) (T0_ok _) mixed mu57d (by kernel_rfl) (noCuts_ok _) fun v h => p57d v.1.1 v.1.2 v.2.1 v.2.2.1.1 v.2.2.1.2 v.2.2.2.1 v.2.2.2.2.1 v.2.2.2.2.2.1 h
theorem in57c : CutOK Try.prog Try.f37.ntmps (codeAt 4 (bodyF Try.f37)) [0, 3, 5, 32, 33] [] (entC k57c c57c) := loop_cutW (kill := killA 0 k57c) (T0_ok _) mixed mu57c (by kernel_rfl) (cut_at (by kernel_rfl) (by kernel_rfl) in57d (noCuts_ok _)) fun v h => p57c v.1.1 v.1.2 v.2.1 v.2.2.1.1 v.2.2.1.2 v.2.2.2.1 v.2.2.2.2.1 h
theorem in57b : CutOK Try.prog Try.f37.ntmps (codeAt 2 (bodyF Try.f37)) [0, 3, 5, 28, 29] [] (entC k57c c57b) := loop_cutW (kill := killA 0 k57c) (T0_ok _) mixed mu57c (by kernel_rfl) (cut_at (by kernel_rfl) (by kernel_rfl) in57c (noCuts_ok _)) fun v h => p57b v.1.1 v.1.2 v.2.1 v.2.2.1.1 v.2.2.1.2 v.2.2.2.1 v.2.2.2.2.1 h
theorem TD_ok : TableOK Try.prog TD :=
  ext_ok (entV_ok Try.call81 (liftV TT_ok mixed Try.func81 (show Try.f81.body = some (bodyF Try.f81) from rfl) (noCuts_ok _) (by decide) fun v h => p53 v.1.1 v.1.2 v.2.1 h))
  (ext_ok (entV_ok Try.call82 (liftV TT_ok mixed Try.func82 (show Try.f82.body = some (bodyF Try.f82) from rfl) (cut_cons (by kernel_rfl) in54 (noCuts_ok _)) (by decide) fun v h => p54 v.1.1 v.1.2 v.2.1 h))
  (ext_ok (entV_ok Try.call37 (liftV (T0_ok _) mixed Try.func37 (show Try.f37.body = some (bodyF Try.f37) from rfl) (cut_cons (by kernel_rfl) in57a (cut_cons (by kernel_rfl) in57b (noCuts_ok _))) (by decide) fun v h => p57 v.1.1 v.1.2 v.2.1 h))
  (ext_ok (entV_ok Try.call26 (liftV (T0_ok _) mixed Try.func26 (show Try.f26.body = some (bodyF Try.f26) from rfl) (cut_cons (by kernel_rfl) in58 (noCuts_ok _)) (by decide) fun v h => p58 v.1.1 v.1.2 v.2.1.1 v.2.1.2 h))
  (ext_ok (entV_ok Try.call16 (liftV (T0_ok _) mixed Try.func16 (show Try.f16.body = some (bodyF Try.f16) from rfl) (cut_cons (by kernel_rfl) in84 (noCuts_ok _)) (by decide) fun v h => p84 v.1.1 v.1.2 v.2.1.1 v.2.1.2 h)) TT_ok))))
theorem TF_ok : TableOK Try.prog TF := ext_ok (entV_ok Try.call32 (liftV TD_ok mixed Try.func32 (show Try.f32.body = some (bodyF Try.f32) from rfl) (noCuts_ok _) (by decide) fun _ _ => a52)) TD_ok
noncomputable abbrev o84iL (a0 : List (ByteArray × Int × Int × Int)) (a1 : Bool) (a2 : List Int) (a3 : Bool) (a4 : List Int) (a5 : Int) (a6 : YtacdahpjmeianaaAs.Item) (a7 : Int) (a8 : Bool) (a9 : List Int) (a10 : Bool) (a11 : Int) (a12 : Int) := evRound Try.prog TF noCuts 94 (loopOf (codeAt 2 (bodyF Try.f84))) k84i mu84i (killA 0 k84i) [0, 3, 5, 9, 10, 11, 12, 31, 32, 33] [11, 12] c84i ((a0, a1), ((a2, a3), (a4, (a5, (a6, (a7, (a8, ((a9, a10), (a11, (a12, ()))))))))))
theorem o84i (a0 : List (ByteArray × Int × Int × Int)) (a1 : Bool) (a2 : List Int) (a3 : Bool) (a4 : List Int) (a5 : Int) (a6 : YtacdahpjmeianaaAs.Item) (a7 : Int) (a8 : Bool) (a9 : List Int) (a10 : Bool) (a11 : Int) (a12 : Int) : o84iL a0 a1 a2 a3 a4 a5 a6 a7 a8 a9 a10 a11 a12 = (bif decide (a12 < a11) then
  guardB (decide (0 ≤ a12) && decide (a12 < (↑a9.length : Int)))
    (bindO a9[0 + a12.toNat]? fun x =>
      bif a8 then
        guardB (decide (0 ≤ a12) && decide (a12 < (↑a2.length : Int)))
          (bindO a2[0 + a12.toNat]? fun x_1 =>
            guardB (decide (0 ≤ x) && decide (x < (↑a0.length : Int)))
              (bindO a0[0 + Int.toNat x]? fun x =>
                guardB (decide (0 ≤ x.snd.fst) && decide (x.snd.fst < 4))
                  (guardB (decide (0 ≤ a6.snd.fst) && decide (a6.snd.fst < 4))
                    (bindO a4[0 + Int.toNat x.snd.fst * 4 + Int.toNat a6.snd.fst * 1]? fun x =>
                      guardB
                        (decide
                          (mu84i
                              ((List.take a0.length a0, a1), (List.take a2.length a2, a3), a4, a5, a6,
                                max a7 (IntKind.i64.wrap (x_1 + x)), true, (List.take a9.length a9, a10), a11,
                                IntKind.i64.wrap (a12 + 1), PUnit.unit) <
                            mu84i ((a0, a1), (a2, a3), a4, a5, a6, a7, a8, (a9, a10), a11, a12, ())))
                        (guardB
                          (bif decide (0 + a0.length ≤ a0.length) then
                            bif decide (0 + a2.length ≤ a2.length) then
                              bif decide (0 + a9.length ≤ a9.length) then
                                pre84i (List.take a0.length a0) (List.take a2.length a2) a4 a6
                                  (max a7 (IntKind.i64.wrap (x_1 + x))) (List.take a9.length a9) a11
                                  (IntKind.i64.wrap (a12 + 1))
                              else false
                            else false
                          else false)
                          (some
                            (Xt.exit 2,
                              [PV.sc
                                  (Value.int IntKind.i64
                                    (innerS a4 a6.snd.fst
                                      (List.drop (IntKind.i64.wrap (a12 + 1)).toNat (List.take a2.length a2))
                                      (pick (List.take a0.length a0)
                                        (List.drop (IntKind.i64.wrap (a12 + 1)).toNat (List.take a9.length a9)))
                                      (max a7 (IntKind.i64.wrap (x_1 + x))))),
                                PV.sc (Value.bool true)],
                              [Blk.row false
                                  (Kd.str.pair
                                    ((Kd.int IntKind.i64).pair ((Kd.int IntKind.i64).pair (Kd.int IntKind.i64))))
                                  a0,
                                Blk.row false (Kd.int IntKind.i64) a2, Blk.row false (Kd.int IntKind.i64) a4,
                                Blk.fix false
                                  [PV.sc (Value.string a6.fst), PV.sc (Value.int IntKind.i64 a6.snd.fst),
                                    PV.sc (Value.int IntKind.i64 a6.snd.snd.fst),
                                    PV.sc (Value.int IntKind.i64 a6.snd.snd.snd)],
                                Blk.row false (Kd.int IntKind.i64) a9])))))))
      else
        guardB (decide (0 ≤ a12) && decide (a12 < (↑a2.length : Int)))
          (bindO a2[0 + a12.toNat]? fun x_1 =>
            guardB (decide (0 ≤ x) && decide (x < (↑a0.length : Int)))
              (bindO a0[0 + Int.toNat x]? fun x_2 =>
                guardB (decide (0 ≤ x_2.snd.fst) && decide (x_2.snd.fst < 4))
                  (guardB (decide (0 ≤ a6.snd.fst) && decide (a6.snd.fst < 4))
                    (bindO a4[0 + Int.toNat x_2.snd.fst * 4 + Int.toNat a6.snd.fst * 1]? fun x_3 =>
                      guardB
                        (decide
                          (mu84i
                              ((List.take a0.length a0, a1), (List.take a2.length a2, a3), a4, a5, a6,
                                max a7 (IntKind.i64.wrap (x_1 + x_3)), x == a5, (List.take a9.length a9, a10), a11,
                                IntKind.i64.wrap (a12 + 1), PUnit.unit) <
                            mu84i ((a0, a1), (a2, a3), a4, a5, a6, a7, a8, (a9, a10), a11, a12, ())))
                        (guardB
                          (bif decide (0 + a0.length ≤ a0.length) then
                            bif decide (0 + a2.length ≤ a2.length) then
                              bif decide (0 + a9.length ≤ a9.length) then
                                pre84i (List.take a0.length a0) (List.take a2.length a2) a4 a6
                                  (max a7 (IntKind.i64.wrap (x_1 + x_3))) (List.take a9.length a9) a11
                                  (IntKind.i64.wrap (a12 + 1))
                              else false
                            else false
                          else false)
                          (some
                            (Xt.exit 2,
                              [PV.sc
                                  (Value.int IntKind.i64
                                    (innerS a4 a6.snd.fst
                                      (List.drop (IntKind.i64.wrap (a12 + 1)).toNat (List.take a2.length a2))
                                      (pick (List.take a0.length a0)
                                        (List.drop (IntKind.i64.wrap (a12 + 1)).toNat (List.take a9.length a9)))
                                      (max a7 (IntKind.i64.wrap (x_1 + x_3))))),
                                PV.sc
                                  (Value.bool
                                    (x == a5 ||
                                      (List.drop (IntKind.i64.wrap (a12 + 1)).toNat (List.take a9.length a9)).contains
                                        a5))],
                              [Blk.row false
                                  (Kd.str.pair
                                    ((Kd.int IntKind.i64).pair ((Kd.int IntKind.i64).pair (Kd.int IntKind.i64))))
                                  a0,
                                Blk.row false (Kd.int IntKind.i64) a2, Blk.row false (Kd.int IntKind.i64) a4,
                                Blk.fix false
                                  [PV.sc (Value.string a6.fst), PV.sc (Value.int IntKind.i64 a6.snd.fst),
                                    PV.sc (Value.int IntKind.i64 a6.snd.snd.fst),
                                    PV.sc (Value.int IntKind.i64 a6.snd.snd.snd)],
                                Blk.row false (Kd.int IntKind.i64) a9]))))))))
else
  some
    (Xt.exit 2, [PV.sc (Value.int IntKind.i64 a7), PV.sc (Value.bool a8)],
      [Blk.row false (Kd.str.pair ((Kd.int IntKind.i64).pair ((Kd.int IntKind.i64).pair (Kd.int IntKind.i64)))) a0,
        Blk.row false (Kd.int IntKind.i64) a2, Blk.row false (Kd.int IntKind.i64) a4,
        Blk.fix false
          [PV.sc (Value.string a6.fst), PV.sc (Value.int IntKind.i64 a6.snd.fst),
            PV.sc (Value.int IntKind.i64 a6.snd.snd.fst), PV.sc (Value.int IntKind.i64 a6.snd.snd.snd)],
        Blk.row false (Kd.int IntKind.i64) a9])) := by kernel_rfl
noncomputable abbrev o84oL (d : Nat) (a0 : List (ByteArray × Int × Int × Int)) (a1 : Bool) (a2 : List Int) (a3 : Bool) (a4 : List Int) (a5 : Bool) (a6 : List Int) (a7 : List (ByteArray × Int × Int × Int)) (a8 : Bool) (a9 : Int) (a10 : Int) := evRound Try.prog (T84 d) (addCut 2 [0, 3, 5, 9, 10, 11, 12, 31, 32, 33] [11, 12] (entC k84i c84i) noCuts) 94 (loopOf (codeAt 0 (bodyF Try.f84))) k84o mu84o (killA 0 k84o) [0, 2, 3, 5, 22, 23, 24] [8] (c84o d) ((a0, a1), ((a2, a3), ((a4, a5), (a6, ((a7, a8), (a9, (a10, ())))))))
theorem o84o (d : Nat) (a0 : List (ByteArray × Int × Int × Int)) (a1 : Bool) (a2 : List Int) (a3 : Bool) (a4 : List Int) (a5 : Bool) (a6 : List Int) (a7 : List (ByteArray × Int × Int × Int)) (a8 : Bool) (a9 : Int) (a10 : Int) : o84oL d a0 a1 a2 a3 a4 a5 a6 a7 a8 a9 a10 = (bif decide (a10 < a9) then
  guardB (decide (0 ≤ a10) && decide (a10 < (↑a7.length : Int)))
    (bindO a7[0 + a10.toNat]? fun x =>
      guardB
        (bif decide (0 + a0.length ≤ a0.length) then
          bif decide (0 + a4.length ≤ a4.length) then
            bif decide (0 + a2.length ≤ a2.length) then
              pre84i (List.take a0.length a0) (List.take a4.length a4) a6 x x.snd.snd.fst (List.take a2.length a2)
                (↑a2.length : Int) 0
            else false
          else false
        else false)
        (bif (List.drop (Int.toNat 0) (List.take a2.length a2)).contains a10 then
          guardB
            (decide
              (mu84o
                  ((List.take a0.length a0, a1), (List.take a2.length a2, a3), (List.take a4.length a4, a5), a6,
                    (List.take a7.length a7, a8), a9, IntKind.i64.wrap (a10 + 1), PUnit.unit) <
                mu84o ((a0, a1), (a2, a3), (a4, a5), a6, (a7, a8), a9, a10, ())))
            (guardB
              (bif decide (0 + a0.length ≤ a0.length) then
                bif decide (0 + a2.length ≤ a2.length) then
                  bif decide (0 + a4.length ≤ a4.length) then
                    bif decide (0 + a7.length ≤ a7.length) then
                      pre84o d (List.take a0.length a0) (List.take a2.length a2) (List.take a4.length a4) a6
                        (List.take a7.length a7) a9 (IntKind.i64.wrap (a10 + 1))
                    else false
                  else false
                else false
              else false)
              (bif
                  (tryW d (List.take a0.length a0) a6 (List.take a2.length a2) (List.take a4.length a4)
                      (IntKind.i64.wrap (a10 + 1))).isNone then
                some
                  (Xt.exit 0, [PV.undef],
                    [Blk.row false
                        (Kd.str.pair ((Kd.int IntKind.i64).pair ((Kd.int IntKind.i64).pair (Kd.int IntKind.i64)))) a0,
                      Blk.row false (Kd.int IntKind.i64) a2, Blk.row false (Kd.int IntKind.i64) a4,
                      Blk.row false (Kd.int IntKind.i64) a6,
                      Blk.row false
                        (Kd.str.pair ((Kd.int IntKind.i64).pair ((Kd.int IntKind.i64).pair (Kd.int IntKind.i64)))) a7])
              else
                some
                  (Xt.ret,
                    [PV.sl 5 0 1
                        ((tryW d (List.take a0.length a0) a6 (List.take a2.length a2) (List.take a4.length a4)
                                (IntKind.i64.wrap (a10 + 1))).getD
                            []).length
                        ((tryW d (List.take a0.length a0) a6 (List.take a2.length a2) (List.take a4.length a4)
                                (IntKind.i64.wrap (a10 + 1))).getD
                            []).length
                        false false],
                    [Blk.row false
                        (Kd.str.pair ((Kd.int IntKind.i64).pair ((Kd.int IntKind.i64).pair (Kd.int IntKind.i64)))) a0,
                      Blk.row false (Kd.int IntKind.i64) a2, Blk.row false (Kd.int IntKind.i64) a4,
                      Blk.row false (Kd.int IntKind.i64) a6,
                      Blk.row false
                        (Kd.str.pair ((Kd.int IntKind.i64).pair ((Kd.int IntKind.i64).pair (Kd.int IntKind.i64)))) a7,
                      Blk.row true (Kd.int IntKind.i64)
                        ((tryW d (List.take a0.length a0) a6 (List.take a2.length a2) (List.take a4.length a4)
                              (IntKind.i64.wrap (a10 + 1))).getD
                          [])])))
        else
          bif
              decide
                (innerS a6 x.snd.fst (List.drop (Int.toNat 0) (List.take a4.length a4))
                    (pick (List.take a0.length a0) (List.drop (Int.toNat 0) (List.take a2.length a2))) x.snd.snd.fst >
                  x.snd.snd.snd) then
            guardB
              (decide
                (mu84o
                    ((List.take a0.length a0, a1), (List.take a2.length a2, a3), (List.take a4.length a4, a5), a6,
                      (List.take a7.length a7, a8), a9, IntKind.i64.wrap (a10 + 1), PUnit.unit) <
                  mu84o ((a0, a1), (a2, a3), (a4, a5), a6, (a7, a8), a9, a10, ())))
              (guardB
                (bif decide (0 + a0.length ≤ a0.length) then
                  bif decide (0 + a2.length ≤ a2.length) then
                    bif decide (0 + a4.length ≤ a4.length) then
                      bif decide (0 + a7.length ≤ a7.length) then
                        pre84o d (List.take a0.length a0) (List.take a2.length a2) (List.take a4.length a4) a6
                          (List.take a7.length a7) a9 (IntKind.i64.wrap (a10 + 1))
                      else false
                    else false
                  else false
                else false)
                (bif
                    (tryW d (List.take a0.length a0) a6 (List.take a2.length a2) (List.take a4.length a4)
                        (IntKind.i64.wrap (a10 + 1))).isNone then
                  some
                    (Xt.exit 0, [PV.undef],
                      [Blk.row false
                          (Kd.str.pair ((Kd.int IntKind.i64).pair ((Kd.int IntKind.i64).pair (Kd.int IntKind.i64)))) a0,
                        Blk.row false (Kd.int IntKind.i64) a2, Blk.row false (Kd.int IntKind.i64) a4,
                        Blk.row false (Kd.int IntKind.i64) a6,
                        Blk.row false
                          (Kd.str.pair ((Kd.int IntKind.i64).pair ((Kd.int IntKind.i64).pair (Kd.int IntKind.i64))))
                          a7])
                else
                  some
                    (Xt.ret,
                      [PV.sl 5 0 1
                          ((tryW d (List.take a0.length a0) a6 (List.take a2.length a2) (List.take a4.length a4)
                                  (IntKind.i64.wrap (a10 + 1))).getD
                              []).length
                          ((tryW d (List.take a0.length a0) a6 (List.take a2.length a2) (List.take a4.length a4)
                                  (IntKind.i64.wrap (a10 + 1))).getD
                              []).length
                          false false],
                      [Blk.row false
                          (Kd.str.pair ((Kd.int IntKind.i64).pair ((Kd.int IntKind.i64).pair (Kd.int IntKind.i64)))) a0,
                        Blk.row false (Kd.int IntKind.i64) a2, Blk.row false (Kd.int IntKind.i64) a4,
                        Blk.row false (Kd.int IntKind.i64) a6,
                        Blk.row false
                          (Kd.str.pair ((Kd.int IntKind.i64).pair ((Kd.int IntKind.i64).pair (Kd.int IntKind.i64)))) a7,
                        Blk.row true (Kd.int IntKind.i64)
                          ((tryW d (List.take a0.length a0) a6 (List.take a2.length a2) (List.take a4.length a4)
                                (IntKind.i64.wrap (a10 + 1))).getD
                            [])])))
          else
            guardB (decide (16 ≤ a6.length))
              (guardB
                (decide ((↑a2.length : Int) ≤ (↑a2.length : Int)) && decide ((↑a2.length : Int) ≤ (↑a2.length : Int)))
                (guardB
                  (decide (0 + ((↑a2.length : Int).toNat - 0) ≤ a2.length) && true &&
                      decide (((↑a2.length : Int).toNat - 0 + 1) * 8 ≤ 140737488355328) &&
                    decide ((↑a2.length : Int).toNat - 0 + 1 ≤ 4611686018427387904))
                  (bif decide ((↑a2.length : Int) = (↑a2.length : Int)) && true then
                    guardB
                      (decide ((↑a4.length : Int) ≤ (↑a4.length : Int)) &&
                        decide ((↑a4.length : Int) ≤ (↑a4.length : Int)))
                      (guardB
                        (decide (0 + ((↑a4.length : Int).toNat - 0) ≤ a4.length) && true &&
                            decide (((↑a4.length : Int).toNat - 0 + 1) * 8 ≤ 140737488355328) &&
                          decide ((↑a4.length : Int).toNat - 0 + 1 ≤ 4611686018427387904))
                        (bif decide ((↑a4.length : Int) = (↑a4.length : Int)) && true then
                          guardB
                            (bif decide (0 + a0.length ≤ a0.length) then
                              bif
                                  decide
                                    (0 + ((↑a2.length : Int).toNat - 0 + 1) ≤
                                      (List.take ((↑a2.length : Int).toNat - 0) a2 ++ [a10]).length) then
                                bif
                                    decide
                                      (0 + ((↑a4.length : Int).toNat - 0 + 1) ≤
                                        (List.take ((↑a4.length : Int).toNat - 0) a4 ++
                                            [innerS a6 x.snd.fst (List.drop (Int.toNat 0) (List.take a4.length a4))
                                                (pick (List.take a0.length a0)
                                                  (List.drop (Int.toNat 0) (List.take a2.length a2)))
                                                x.snd.snd.fst]).length) then
                                  pre84 d (List.take a0.length a0) (List.take 16 a6)
                                    (List.take ((↑a2.length : Int).toNat - 0 + 1)
                                      (List.take ((↑a2.length : Int).toNat - 0) a2 ++ [a10]))
                                    (List.take ((↑a4.length : Int).toNat - 0 + 1)
                                      (List.take ((↑a4.length : Int).toNat - 0) a4 ++
                                        [innerS a6 x.snd.fst (List.drop (Int.toNat 0) (List.take a4.length a4))
                                            (pick (List.take a0.length a0)
                                              (List.drop (Int.toNat 0) (List.take a2.length a2)))
                                            x.snd.snd.fst]))
                                else false
                              else false
                            else false)
                            (bif
                                decide
                                  ((List.take ((↑a2.length : Int).toNat - 0 + 1)
                                        (List.take ((↑a2.length : Int).toNat - 0) a2 ++ [a10])).length =
                                    (List.take a0.length a0).length) then
                              some
                                (Xt.ret,
                                  [PV.sl 5 0 1
                                      (List.take ((↑a2.length : Int).toNat - 0 + 1)
                                          (List.take ((↑a2.length : Int).toNat - 0) a2 ++ [a10])).length
                                      (List.take ((↑a2.length : Int).toNat - 0 + 1)
                                          (List.take ((↑a2.length : Int).toNat - 0) a2 ++ [a10])).length
                                      false false],
                                  [Blk.row false
                                      (Kd.str.pair
                                        ((Kd.int IntKind.i64).pair ((Kd.int IntKind.i64).pair (Kd.int IntKind.i64))))
                                      a0,
                                    Blk.row false (Kd.int IntKind.i64) a2, Blk.row false (Kd.int IntKind.i64) a4,
                                    Blk.row false (Kd.int IntKind.i64) a6,
                                    Blk.row false
                                      (Kd.str.pair
                                        ((Kd.int IntKind.i64).pair ((Kd.int IntKind.i64).pair (Kd.int IntKind.i64))))
                                      a7,
                                    Blk.row true (Kd.int IntKind.i64)
                                      (List.take ((↑a2.length : Int).toNat - 0) a2 ++ [a10])])
                            else
                              bif
                                  (srchA (List.take a0.length a0) (List.take 16 a6) d
                                      (List.take ((↑a2.length : Int).toNat - 0 + 1)
                                        (List.take ((↑a2.length : Int).toNat - 0) a2 ++ [a10]))
                                      (List.take ((↑a4.length : Int).toNat - 0 + 1)
                                        (List.take ((↑a4.length : Int).toNat - 0) a4 ++
                                          [innerS a6 x.snd.fst (List.drop (Int.toNat 0) (List.take a4.length a4))
                                              (pick (List.take a0.length a0)
                                                (List.drop (Int.toNat 0) (List.take a2.length a2)))
                                              x.snd.snd.fst]))).isSome then
                                some
                                  (Xt.ret,
                                    [PV.sl 5 0 1
                                        ((srchA (List.take a0.length a0) (List.take 16 a6) d
                                                (List.take ((↑a2.length : Int).toNat - 0 + 1)
                                                  (List.take ((↑a2.length : Int).toNat - 0) a2 ++ [a10]))
                                                (List.take ((↑a4.length : Int).toNat - 0 + 1)
                                                  (List.take ((↑a4.length : Int).toNat - 0) a4 ++
                                                    [innerS a6 x.snd.fst
                                                        (List.drop (Int.toNat 0) (List.take a4.length a4))
                                                        (pick (List.take a0.length a0)
                                                          (List.drop (Int.toNat 0) (List.take a2.length a2)))
                                                        x.snd.snd.fst]))).getD
                                            []).length
                                        ((srchA (List.take a0.length a0) (List.take 16 a6) d
                                                (List.take ((↑a2.length : Int).toNat - 0 + 1)
                                                  (List.take ((↑a2.length : Int).toNat - 0) a2 ++ [a10]))
                                                (List.take ((↑a4.length : Int).toNat - 0 + 1)
                                                  (List.take ((↑a4.length : Int).toNat - 0) a4 ++
                                                    [innerS a6 x.snd.fst
                                                        (List.drop (Int.toNat 0) (List.take a4.length a4))
                                                        (pick (List.take a0.length a0)
                                                          (List.drop (Int.toNat 0) (List.take a2.length a2)))
                                                        x.snd.snd.fst]))).getD
                                            []).length
                                        false false],
                                    [Blk.row false
                                        (Kd.str.pair
                                          ((Kd.int IntKind.i64).pair ((Kd.int IntKind.i64).pair (Kd.int IntKind.i64))))
                                        a0,
                                      Blk.row false (Kd.int IntKind.i64) a2, Blk.row false (Kd.int IntKind.i64) a4,
                                      Blk.row false (Kd.int IntKind.i64) a6,
                                      Blk.row false
                                        (Kd.str.pair
                                          ((Kd.int IntKind.i64).pair ((Kd.int IntKind.i64).pair (Kd.int IntKind.i64))))
                                        a7,
                                      Blk.row true (Kd.int IntKind.i64)
                                        ((srchA (List.take a0.length a0) (List.take 16 a6) d
                                              (List.take ((↑a2.length : Int).toNat - 0 + 1)
                                                (List.take ((↑a2.length : Int).toNat - 0) a2 ++ [a10]))
                                              (List.take ((↑a4.length : Int).toNat - 0 + 1)
                                                (List.take ((↑a4.length : Int).toNat - 0) a4 ++
                                                  [innerS a6 x.snd.fst
                                                      (List.drop (Int.toNat 0) (List.take a4.length a4))
                                                      (pick (List.take a0.length a0)
                                                        (List.drop (Int.toNat 0) (List.take a2.length a2)))
                                                      x.snd.snd.fst]))).getD
                                          [])])
                              else
                                guardB
                                  (decide
                                    (mu84o
                                        ((List.take a0.length a0, a1), (List.take a2.length a2, a3),
                                          (List.take a4.length a4, a5), a6, (List.take a7.length a7, a8), a9,
                                          IntKind.i64.wrap (a10 + 1), PUnit.unit) <
                                      mu84o ((a0, a1), (a2, a3), (a4, a5), a6, (a7, a8), a9, a10, ())))
                                  (guardB
                                    (bif decide (0 + a0.length ≤ a0.length) then
                                      bif decide (0 + a2.length ≤ a2.length) then
                                        bif decide (0 + a4.length ≤ a4.length) then
                                          bif decide (0 + a7.length ≤ a7.length) then
                                            pre84o d (List.take a0.length a0) (List.take a2.length a2)
                                              (List.take a4.length a4) a6 (List.take a7.length a7) a9
                                              (IntKind.i64.wrap (a10 + 1))
                                          else false
                                        else false
                                      else false
                                    else false)
                                    (bif
                                        (tryW d (List.take a0.length a0) a6 (List.take a2.length a2)
                                            (List.take a4.length a4) (IntKind.i64.wrap (a10 + 1))).isNone then
                                      some
                                        (Xt.exit 0, [PV.undef],
                                          [Blk.row false
                                              (Kd.str.pair
                                                ((Kd.int IntKind.i64).pair
                                                  ((Kd.int IntKind.i64).pair (Kd.int IntKind.i64))))
                                              a0,
                                            Blk.row false (Kd.int IntKind.i64) a2,
                                            Blk.row false (Kd.int IntKind.i64) a4,
                                            Blk.row false (Kd.int IntKind.i64) a6,
                                            Blk.row false
                                              (Kd.str.pair
                                                ((Kd.int IntKind.i64).pair
                                                  ((Kd.int IntKind.i64).pair (Kd.int IntKind.i64))))
                                              a7])
                                    else
                                      some
                                        (Xt.ret,
                                          [PV.sl 5 0 1
                                              ((tryW d (List.take a0.length a0) a6 (List.take a2.length a2)
                                                      (List.take a4.length a4) (IntKind.i64.wrap (a10 + 1))).getD
                                                  []).length
                                              ((tryW d (List.take a0.length a0) a6 (List.take a2.length a2)
                                                      (List.take a4.length a4) (IntKind.i64.wrap (a10 + 1))).getD
                                                  []).length
                                              false false],
                                          [Blk.row false
                                              (Kd.str.pair
                                                ((Kd.int IntKind.i64).pair
                                                  ((Kd.int IntKind.i64).pair (Kd.int IntKind.i64))))
                                              a0,
                                            Blk.row false (Kd.int IntKind.i64) a2,
                                            Blk.row false (Kd.int IntKind.i64) a4,
                                            Blk.row false (Kd.int IntKind.i64) a6,
                                            Blk.row false
                                              (Kd.str.pair
                                                ((Kd.int IntKind.i64).pair
                                                  ((Kd.int IntKind.i64).pair (Kd.int IntKind.i64))))
                                              a7,
                                            Blk.row true (Kd.int IntKind.i64)
                                              ((tryW d (List.take a0.length a0) a6 (List.take a2.length a2)
                                                    (List.take a4.length a4) (IntKind.i64.wrap (a10 + 1))).getD
                                                [])]))))
                        else none))
                  else none)))))
else
  some
    (Xt.exit 0, [PV.undef],
      [Blk.row false (Kd.str.pair ((Kd.int IntKind.i64).pair ((Kd.int IntKind.i64).pair (Kd.int IntKind.i64)))) a0,
        Blk.row false (Kd.int IntKind.i64) a2, Blk.row false (Kd.int IntKind.i64) a4,
        Blk.row false (Kd.int IntKind.i64) a6,
        Blk.row false (Kd.str.pair ((Kd.int IntKind.i64).pair ((Kd.int IntKind.i64).pair (Kd.int IntKind.i64)))) a7])) := by kernel_rfl
noncomputable abbrev o84L (d : Nat) (a0 : List (ByteArray × Int × Int × Int)) (a1 : Bool) (a2 : List Int) (a3 : List Int) (a4 : Bool) (a5 : List Int) (a6 : Bool) := evFuncV Try.prog (T84 d) (addCut 0 [0, 2, 3, 5, 22, 23, 24] [8] (entC k84o (c84o d)) noCuts) Try.f84 (killA 0 k84) (showA 0 k84 ((a0, a1), (a2, ((a3, a4), ((a5, a6), ()))))).1 (showA 0 k84 ((a0, a1), (a2, ((a3, a4), ((a5, a6), ()))))).2
theorem o84 (d : Nat) (a0 : List (ByteArray × Int × Int × Int)) (a1 : Bool) (a2 : List Int) (a3 : List Int) (a4 : Bool) (a5 : List Int) (a6 : Bool) : o84L d a0 a1 a2 a3 a4 a5 a6 = (bif (↑a3.length : Int) == (↑a0.length : Int) then
  some
    (PV.sl 1 0 1 a3.length a3.length false a4,
      [Blk.row false (Kd.str.pair ((Kd.int IntKind.i64).pair ((Kd.int IntKind.i64).pair (Kd.int IntKind.i64)))) a0,
        Blk.row false (Kd.int IntKind.i64) a3, Blk.row false (Kd.int IntKind.i64) a5])
else
  guardB
    (bif decide (0 + a0.length ≤ a0.length) then
      bif decide (0 + a3.length ≤ a3.length) then
        bif decide (0 + a5.length ≤ a5.length) then
          bif decide (0 + a0.length ≤ a0.length) then
            pre84o d (List.take a0.length a0) (List.take a3.length a3) (List.take a5.length a5) a2
              (List.take a0.length a0) (↑a0.length : Int) 0
          else false
        else false
      else false
    else false)
    (bif (tryW d (List.take a0.length a0) a2 (List.take a3.length a3) (List.take a5.length a5) 0).isNone then
      some
        (PV.sc (Value.slice none 0 0),
          [Blk.row false (Kd.str.pair ((Kd.int IntKind.i64).pair ((Kd.int IntKind.i64).pair (Kd.int IntKind.i64)))) a0,
            Blk.row false (Kd.int IntKind.i64) a3, Blk.row false (Kd.int IntKind.i64) a5])
    else
      some
        (PV.sl 3 0 1
            ((tryW d (List.take a0.length a0) a2 (List.take a3.length a3) (List.take a5.length a5) 0).getD []).length
            ((tryW d (List.take a0.length a0) a2 (List.take a3.length a3) (List.take a5.length a5) 0).getD []).length
            false false,
          [Blk.row false (Kd.str.pair ((Kd.int IntKind.i64).pair ((Kd.int IntKind.i64).pair (Kd.int IntKind.i64)))) a0,
            Blk.row false (Kd.int IntKind.i64) a3, Blk.row false (Kd.int IntKind.i64) a5,
            Blk.row true (Kd.int IntKind.i64)
              ((tryW d (List.take a0.length a0) a2 (List.take a3.length a3) (List.take a5.length a5) 0).getD [])]))) := by kernel_rfl
noncomputable abbrev o33L (a0 : List (ByteArray × Int × Int × Int)) (a1 : Bool) (a2 : List Int) := evFuncV Try.prog (T84 7) noCuts Try.f33 (killA 0 kC) (showA 0 kC ((a0, a1), (a2, ()))).1 (showA 0 kC ((a0, a1), (a2, ()))).2
theorem o33 (a0 : List (ByteArray × Int × Int × Int)) (a1 : Bool) (a2 : List Int) : o33L a0 a1 a2 = (guardB (decide (16 ≤ a2.length))
  (guardB (bif decide (0 + a0.length ≤ a0.length) then preL (List.take 16 a2) else false)
    (bif errS (List.take a0.length a0) (List.take 16 a2) != 0 then
      some
        (PV.tup
            [PV.sc (Value.slice none 0 0),
              PV.sc (Value.int IntKind.i64 (errS (List.take a0.length a0) (List.take 16 a2)))],
          [Blk.row false (Kd.str.pair ((Kd.int IntKind.i64).pair ((Kd.int IntKind.i64).pair (Kd.int IntKind.i64)))) a0])
    else
      bif decide ((↑a0.length : Int) > 6) then
        some
          (PV.tup [PV.sc (Value.slice none 0 0), PV.sc (Value.int IntKind.i64 2)],
            [Blk.row false (Kd.str.pair ((Kd.int IntKind.i64).pair ((Kd.int IntKind.i64).pair (Kd.int IntKind.i64))))
                a0])
      else
        bif (↑a0.length : Int) == 0 then
          some
            (PV.tup [PV.sc (Value.slice none 0 0), PV.sc (Value.int IntKind.i64 0)],
              [Blk.row false (Kd.str.pair ((Kd.int IntKind.i64).pair ((Kd.int IntKind.i64).pair (Kd.int IntKind.i64))))
                  a0])
        else
          guardB (decide (16 ≤ a2.length))
            (guardB
              (bif decide (0 + a0.length ≤ a0.length) then pre84 7 (List.take a0.length a0) (List.take 16 a2) [] []
              else false)
              (bif decide (([] : List Int).length = (List.take a0.length a0).length) then none
              else
                bif (srchA (List.take a0.length a0) (List.take 16 a2) 7 [] []).isSome then
                  some
                    (PV.tup
                        [PV.sl 1 0 1 ((srchA (List.take a0.length a0) (List.take 16 a2) 7 [] []).getD []).length
                            ((srchA (List.take a0.length a0) (List.take 16 a2) 7 [] []).getD []).length false false,
                          PV.sc (Value.int IntKind.i64 0)],
                      [Blk.row false
                          (Kd.str.pair ((Kd.int IntKind.i64).pair ((Kd.int IntKind.i64).pair (Kd.int IntKind.i64)))) a0,
                        Blk.row true (Kd.int IntKind.i64)
                          ((srchA (List.take a0.length a0) (List.take 16 a2) 7 [] []).getD [])])
                else
                  some
                    (PV.tup [PV.sc (Value.slice none 0 0), PV.sc (Value.int IntKind.i64 8)],
                      [Blk.row false
                          (Kd.str.pair ((Kd.int IntKind.i64).pair ((Kd.int IntKind.i64).pair (Kd.int IntKind.i64))))
                          a0])))))) := by kernel_rfl
noncomputable abbrev o38L (a0 : List Int) (a1 : Bool) := evFuncV Try.prog TF noCuts Try.f38 (killA 0 [rI]) (showA 0 [rI] ((a0, a1), ())).1 (showA 0 [rI] ((a0, a1), ())).2
theorem o38 (a0 : List Int) (a1 : Bool) : o38L a0 a1 = (bif a1 then some (PV.sc (Value.slice none 0 0), [Blk.row false (Kd.int IntKind.i64) a0])
else
  guardB
    (decide (0 + a0.length ≤ a0.length) && decide ((0 + a0.length) * 8 ≤ 140737488355328) &&
      decide (0 + a0.length ≤ 4611686018427387904))
    (bif decide (1 ≤ a0.length) then
      some
        (PV.sl 1 0 1 (0 + a0.length) (0 + a0.length) false false,
          [Blk.row false (Kd.int IntKind.i64) a0, Blk.row true (Kd.int IntKind.i64) (List.take a0.length a0)])
    else
      some
        (PV.sl 1 0 1 (0 + a0.length) (0 + a0.length) false (a0.length.beq 0 && false),
          [Blk.row false (Kd.int IntKind.i64) a0, Blk.row true (Kd.int IntKind.i64) (List.take a0.length a0)]))) := by kernel_rfl
noncomputable abbrev o36lL (a0 : List (ByteArray × Int × Int × Int)) (a1 : Bool) (a2 : List Int) (a3 : Bool) (a4 : Int) (a5 : Int) := evRound Try.prog TG noCuts 44 (loopOf (codeAt 2 (bodyF Try.f36))) k36 mu36 (killA 0 k36) [6, 27, 28, 29] [5] c36 ((a0, a1), ((a2, a3), (a4, (a5, ()))))
theorem o36l (a0 : List (ByteArray × Int × Int × Int)) (a1 : Bool) (a2 : List Int) (a3 : Bool) (a4 : Int) (a5 : Int) : o36lL a0 a1 a2 a3 a4 a5 = (bif decide (a5 < a4) then
  guardB (decide (0 ≤ a5) && decide (a5 < (↑a2.length : Int)))
    (bindO a2[0 + a5.toNat]? fun x =>
      guardB (decide (0 ≤ a5) && decide (a5 < (↑a0.length : Int)))
        (bindO a0[0 + a5.toNat]? fun x_1 =>
          bif decide (x > x_1.snd.snd.snd) then
            some
              (Xt.ret, [PV.sc (Value.bool false)],
                [Blk.row false
                    (Kd.str.pair ((Kd.int IntKind.i64).pair ((Kd.int IntKind.i64).pair (Kd.int IntKind.i64)))) a0,
                  Blk.row false (Kd.int IntKind.i64) a2])
          else
            guardB
              (decide
                (mu36
                    ((List.take a0.length a0, a1), (List.take a2.length a2, a3), a4, IntKind.i64.wrap (a5 + 1),
                      PUnit.unit) <
                  mu36 ((a0, a1), (a2, a3), a4, a5, ())))
              (guardB
                (bif decide (0 + a0.length ≤ a0.length) then
                  bif decide (0 + a2.length ≤ a2.length) then
                    pre36 (List.take a0.length a0) (List.take a2.length a2) a4 (IntKind.i64.wrap (a5 + 1))
                  else false
                else false)
                (bif
                    fitL (List.drop (IntKind.i64.wrap (a5 + 1)).toNat (List.take a2.length a2))
                      (List.drop (IntKind.i64.wrap (a5 + 1)).toNat (List.take a0.length a0)) then
                  some
                    (Xt.exit 2, [PV.undef],
                      [Blk.row false
                          (Kd.str.pair ((Kd.int IntKind.i64).pair ((Kd.int IntKind.i64).pair (Kd.int IntKind.i64)))) a0,
                        Blk.row false (Kd.int IntKind.i64) a2])
                else
                  some
                    (Xt.ret, [PV.sc (Value.bool false)],
                      [Blk.row false
                          (Kd.str.pair ((Kd.int IntKind.i64).pair ((Kd.int IntKind.i64).pair (Kd.int IntKind.i64)))) a0,
                        Blk.row false (Kd.int IntKind.i64) a2])))))
else
  some
    (Xt.exit 2, [PV.undef],
      [Blk.row false (Kd.str.pair ((Kd.int IntKind.i64).pair ((Kd.int IntKind.i64).pair (Kd.int IntKind.i64)))) a0,
        Blk.row false (Kd.int IntKind.i64) a2])) := by kernel_rfl
/-! ### Orders and the search, plainly -/
theorem timesK_pre (g : List Int) (xs ys : List Item) : ∀ i, i ≤ xs.length → timesK g (xs ++ ys) i = timesK g xs i
  | 0, _ => rfl
  | i + 1, h => by
    obtain ⟨x, hx⟩ := get_ex (l := xs) (k := i) (by omega)
    have hx2 : (xs ++ ys)[i]? = some x := by rw [List.getElem?_append_left (by omega)]; exact hx
    show (match (xs ++ ys)[i]? with | some x => _ | none => _) = (match xs[i]? with | some x => _ | none => _)
    rw [hx, hx2]
    simp only []
    rw [timesK_pre g xs ys i (by omega), List.take_append_of_le_length (by omega)]
theorem timesS_snoc (g : List Int) (xs : List Item) (x : Item) : timesS g (xs ++ [x]) = timesS g xs ++ [innerS g x.2.1 (timesS g xs) xs x.2.2.1] := by
  unfold timesS
  rw [List.length_append, List.length_singleton]
  have hx : (xs ++ [x])[xs.length]? = some x := by rw [List.getElem?_append_right (Nat.le_refl _), Nat.sub_self]; rfl
  show (match (xs ++ [x])[xs.length]? with | some x => _ | none => _) = _
  rw [hx]
  simp only []
  rw [timesK_pre g xs [x] _ (Nat.le_refl _), List.take_left]
theorem timesS_app (g : List Int) (xs : List Item) : ∀ (ys : List Item), ∃ ts, timesS g (xs ++ ys) = timesS g xs ++ ts
  | [] => ⟨[], by rw [List.append_nil, List.append_nil]⟩
  | y :: ys => by
    obtain ⟨ts, h⟩ := timesS_app g (xs ++ [y]) ys
    rw [List.append_assoc, timesS_snoc, List.append_assoc] at h
    exact ⟨_, h⟩
theorem fitL_app : ∀ (ts : List Int) (xs : List Item) (us : List Int) (ys : List Item), ts.length = xs.length → fitL (ts ++ us) (xs ++ ys) = (fitL ts xs && fitL us ys)
  | [], [], us, ys, _ => rfl
  | t :: ts, x :: xs, us, ys, h => by
    have ih := fitL_app ts xs us ys (by simpa using h)
    show (bif decide (t > x.2.2.2) then false else fitL (ts ++ us) (xs ++ ys)) = ((bif decide (t > x.2.2.2) then false else fitL ts xs) && fitL us ys)
    rw [ih]
    cases decide (t > x.2.2.2) <;> rfl
theorem fitO_pre (l : List Item) (g : List Int) (o r : List Int) (h : fitO l g (o ++ r) = true) : fitO l g o = true := by
  unfold fitO pick at h ⊢
  rw [List.map_append] at h
  obtain ⟨ts, ht⟩ := timesS_app g (o.map (atA l)) (r.map (atA l))
  rw [ht, fitL_app _ _ _ _ timesS_len, Bool.and_eq_true] at h
  exact h.1
theorem fitO_snoc (l : List Item) (g : List Int) (o : List Int) (i : Int) : fitO l g (o ++ [i]) = (fitO l g o && !decide (innerS g (atA l i).2.1 (timesS g (pick l o)) (pick l o) (atA l i).2.2.1 > (atA l i).2.2.2)) := by
  unfold fitO pick
  rw [List.map_append, List.map_cons, List.map_nil, timesS_snoc, fitL_app _ _ _ _ timesS_len]
  congr 1
theorem ext_pre {rec : List Int → List (List Int)} {o : List Int} (hr : ∀ i r, r ∈ rec (o ++ [i]) → ∃ t, r = o ++ [i] ++ t) : ∀ (m : Nat) (i : Int) (r : List Int), r ∈ extP rec o m i → ∃ t, r = o ++ t
  | 0, i, r, h => by simp [extP] at h
  | m + 1, i, r, h => by
    unfold extP at h
    rcases List.mem_append.1 h with h | h
    · cases hc : o.contains i with
      | true => rw [hc] at h; simp at h
      | false =>
        rw [hc] at h
        obtain ⟨t, ht⟩ := hr i r h
        exact ⟨[i] ++ t, by rw [ht, List.append_assoc]⟩
    · exact ext_pre hr m (i + 1) r h
theorem prm_pre (n : Nat) : ∀ (d : Nat) (o r : List Int), r ∈ prm n d o → ∃ t, r = o ++ t
  | 0, o, r, h => by simp [prm] at h
  | d + 1, o, r, h => by
    unfold prm at h
    cases hc : decide (o.length = n) with
    | true => rw [hc] at h; simp at h; exact ⟨[], by simp [h]⟩
    | false => rw [hc] at h; exact ext_pre (fun i r hr => prm_pre n d (o ++ [i]) r hr) n 0 r h
theorem srch_find (l : List Item) (g : List Int) : ∀ (d : Nat) (o A : List Int), A = timesS g (pick l o) → fitO l g o = true → srchA l g d o A = (prm l.length d o).find? (fitO l g)
  | 0, o, A, _, _ => rfl
  | d + 1, o, A, hA, hf => by
    show (bif decide (o.length = l.length) then some o else tryA l g (srchA l g d) o A l.length 0) = (bif decide (o.length = l.length) then [o] else extP (prm l.length d) o l.length 0).find? (fitO l g)
    cases decide (o.length = l.length) with
    | true => simp [hf]
    | false =>
      have key : ∀ (m : Nat) (i : Int), tryA l g (srchA l g d) o A m i = (extP (prm l.length d) o m i).find? (fitO l g) := by
        intro m
        induction m with
        | zero => intro i; rfl
        | succ m ih =>
          intro i
          show (bif o.contains i || decide (innerS g (atA l i).2.1 A (pick l o) (atA l i).2.2.1 > (atA l i).2.2.2) then tryA l g (srchA l g d) o A m (i + 1) else
            match srchA l g d (o ++ [i]) (A ++ [innerS g (atA l i).2.1 A (pick l o) (atA l i).2.2.1]) with
            | some r => some r
            | none => tryA l g (srchA l g d) o A m (i + 1)) = ((bif o.contains i then [] else prm l.length d (o ++ [i])) ++ extP (prm l.length d) o m (i + 1)).find? (fitO l g)
          rw [List.find?_append, ← ih (i + 1)]
          cases hc : o.contains i with
          | true => rfl
          | false =>
            rw [Bool.false_or]
            have hs := fitO_snoc l g o i
            rw [hf, Bool.true_and, ← hA] at hs
            cases ht : decide (innerS g (atA l i).2.1 A (pick l o) (atA l i).2.2.1 > (atA l i).2.2.2) with
            | true =>
              rw [ht] at hs
              have hn : (prm l.length d (o ++ [i])).find? (fitO l g) = none := by
                rw [List.find?_eq_none]
                intro r hr hfr
                obtain ⟨t, rfl⟩ := prm_pre _ _ _ _ hr
                have := fitO_pre l g (o ++ [i]) t hfr
                rw [hs] at this; cases this
              simp only [cond_true, cond_false]
              rw [hn]; rfl
            | false =>
              rw [ht] at hs
              have := srch_find l g d (o ++ [i]) (A ++ [innerS g (atA l i).2.1 A (pick l o) (atA l i).2.2.1]) (by
                unfold pick
                rw [List.map_append, List.map_cons, List.map_nil, timesS_snoc, hA]; rfl) hs
              simp only [cond_false]
              rw [this]
              cases (prm l.length d (o ++ [i])).find? (fitO l g) <;> rfl
      exact key l.length 0
/-! ### The search -/
theorem pick_drop {l : List Item} {o : List Int} {k : Nat} {j : Int} (hj : o[k]? = some j) : pick l (o.drop k) = atA l j :: pick l (o.drop (k + 1)) := by unfold pick; rw [drop_cons hj, List.map_cons]
theorem atA_of {l : List Item} {j : Int} {y : Item} (h : l[j.toNat]? = some y) : atA l j = y := by unfold atA; rw [List.getD, h]; rfl
theorem has_cons (j i : Int) (r : List Int) : (j :: r).contains i = (j == i || r.contains i) := by
  rw [List.contains_cons, show (i == j) = (j == i) by rw [Bool.eq_iff_iff]; simp; exact eq_comm]
abbrev pvA (x : Item) : Blk := .fix false [.sc (.string x.1), .sc (.int .i64 x.2.1), .sc (.int .i64 x.2.2.1), .sc (.int .i64 x.2.2.2)]
theorem p84i (l : List Item) (nl : Bool) (A : List Int) (nA : Bool) (g : List Int) (i : Int) (x : Item) (t : Int) (u : Bool) (o : List Int) (no : Bool) (n k : Int) (h : pre84i l A g x t o n k = true) :
    o84iL l nl A nA g i x t u o no n k = some (.exit 2, [.sc (.int .i64 (innerS g x.2.1 (A.drop k.toNat) (pick l (o.drop k.toNat)) t)), .sc (.bool (u || (o.drop k.toNat).contains i))], [.row false kA l, .row false I A, .row false I g, pvA x, .row false I o]) := by
  obtain ⟨h1, h2, h3, h4, h5, h6, h7, h8, h9, h10, h11, h12, h13, h14⟩ := bp_true.1 h
  have bx := badA_at h4
  rw [o84i]
  simp only [List.take_length, Nat.zero_add, len_true, cond_true]
  refine cond_split (fun hk => ?_) (fun hk => ?_)
  · have hk := of_decide_eq_true hk
    obtain ⟨j, hj⟩ := get_ex (l := o) (k := k.toNat) (by omega)
    obtain ⟨a, ha⟩ := get_ex (l := A) (k := k.toNat) (by omega)
    have rj := h7 j (List.mem_of_getElem? hj)
    have ra := h8 a (List.mem_of_getElem? ha)
    obtain ⟨y, hy⟩ := get_ex (l := l) (k := j.toNat) (by omega)
    have bY := badA_at (any_get h3 hy)
    obtain ⟨e, he⟩ := get_ex (l := g) (k := y.2.1.toNat * 4 + x.2.1.toNat) (by omega)
    have hgp : gp g y.2.1 x.2.1 = e := by unfold gp; rw [he]; rfl
    have hgb := gp_bd h2 y.2.1 x.2.1
    rw [hgp] at hgb
    rw [pick_drop hj, drop_cons ha, drop_cons hj, has_cons, atA_of hy]
    have hin : innerS g x.2.1 (a :: A.drop (k.toNat + 1)) (y :: pick l (o.drop (k.toNat + 1))) t = innerS g x.2.1 (A.drop (k.toNat + 1)) (pick l (o.drop (k.toNat + 1))) (max t (a + gp g y.2.1 x.2.1)) := rfl
    rw [hin, hgp, hj, ha]
    refine guard_split (by simp; omega) ?_
    simp only [bindO]
    rw [hy, IntWalk.i64_in (k + 1) (by omega), show (k + 1).toNat = k.toNat + 1 by omega]
    simp only [bindO]
    rw [Nat.mul_one, he]
    simp only [bindO]
    rw [IntWalk.i64_in (a + e) (by omega)]
    have hmu : ∀ (u : Bool), decide (mu84i ((l, nl), (A, nA), g, i, x, max t (a + e), u, (o, no), n, k + 1, PUnit.unit) < mu84i ((l, nl), (A, nA), g, i, x, t, u, (o, no), n, k, ())) = true := fun u => decide_eq_true (show (n - (k + 1)).toNat < (n - k).toNat by omega)
    have hpre : pre84i l A g x (max t (a + e)) o n (k + 1) = true := bp_mk ⟨h1, h2, h3, h4, h5, h6, h7, h8, by omega, by omega, h11, by omega, by omega, h14⟩
    cases u with
    | true =>
      simp only [cond_true, Bool.true_or]
      exact guard_split (by simp; omega) (guard_split (by simp; omega) (guard_split (by simp; omega) (guard_split (by simp; omega) (guard_split (hmu true) (guard_split hpre rfl)))))
    | false =>
      simp only [cond_false, Bool.false_or]
      exact guard_split (by simp; omega) (guard_split (by simp; omega) (guard_split (by simp; omega) (guard_split (by simp; omega) (guard_split (decide_eq_true (show (n - (k + 1)).toNat < (n - k).toNat by omega)) (guard_split hpre rfl)))))
  · have hk := of_decide_eq_false hk
    rw [List.drop_eq_nil_of_le (show A.length ≤ k.toNat by omega), List.drop_eq_nil_of_le (show o.length ≤ k.toNat by omega)]
    show _ = some (Xt.exit 2, [PV.sc (.int .i64 t), PV.sc (.bool (u || false))], _)
    rw [Bool.or_false]
theorem pick_ok {l : List Item} (hl : l.any badA = false) {o : List Int} (ho : inRng l o) : (pick l o).any badA = false := by
  rw [List.any_eq_false]
  intro x hx
  unfold pick at hx
  obtain ⟨i, hi, rfl⟩ := List.mem_map.1 hx
  have := ho i hi
  obtain ⟨y, hy⟩ := get_ex (l := l) (k := i.toNat) (by omega)
  rw [atA_of hy, any_get hl hy]; simp
theorem pick_len (l : List Item) (o : List Int) : (pick l o).length = o.length := List.length_map _
theorem fine_pick {l : List Item} {g : List Int} (hf : Fine l g) {o : List Int} (ho : inRng l o) (h : o.length ≤ 32) : Fine (pick l o) g := by
  obtain ⟨f1, f2, f3, f4⟩ := fine_at hf
  refine ⟨f1, ?_⟩
  unfold errS
  rw [decide_eq_false (show ¬ (pick l o).length > 32 by rw [pick_len]; omega), f3, pick_ok f4 ho]; rfl
theorem rng_snoc {l : List Item} {o : List Int} {i : Int} (ho : inRng l o) (h0 : 0 ≤ i) (h1 : i < (l.length : Int)) : inRng l (o ++ [i]) := fun j hj => by
  rcases List.mem_append.1 hj with h | h
  · exact ho j h
  · rw [List.mem_singleton.1 h]; exact ⟨h0, h1⟩
theorem tryW_step {d : Nat} {l : List Item} {g o A : List Int} {i : Int} {x : Item} (h0 : 0 ≤ i) (hi : i < (l.length : Int)) (hx : l[i.toNat]? = some x) : tryW d l g o A i =
    bif o.contains i || decide (innerS g x.2.1 A (pick l o) x.2.2.1 > x.2.2.2) then tryW d l g o A (i + 1) else
      match srchA l g d (o ++ [i]) (A ++ [innerS g x.2.1 A (pick l o) x.2.2.1]) with
      | some r => some r
      | none => tryW d l g o A (i + 1) := by
  unfold tryW
  rw [show l.length - i.toNat = (l.length - (i + 1).toNat) + 1 by omega, ← atA_of hx]
  rfl
theorem tryW_end {d : Nat} {l : List Item} {g o A : List Int} {i : Int} (h : (l.length : Int) ≤ i) : tryW d l g o A i = none := by
  unfold tryW; rw [show l.length - i.toNat = 0 by omega]; rfl
def B5 (l : List Item) (o A g : List Int) (l2 : List Item) : List Blk := [.row false kA l, .row false I o, .row false I A, .row false I g, .row false kA l2]
theorem p84o (d : Nat) (l : List Item) (nl : Bool) (o : List Int) (no : Bool) (A : List Int) (nA : Bool) (g : List Int) (l2 : List Item) (nl2 : Bool) (n i : Int) (h : pre84o d l o A g l2 n i = true) :
    o84oL d l nl o no A nA g l2 nl2 n i = cond (tryW d l g o A i).isNone (some (.exit 0, [.undef], B5 l o A g l2)) (some (.ret, [slV 5 I ((tryW d l g o A i).getD [], false)], B5 l o A g l2 ++ [.row true I ((tryW d l g o A i).getD [])])) := by
  obtain ⟨rfl, hf, h2, h3, h4, h5, h6, h7, h8, h9⟩ := bp_true.1 h
  obtain ⟨f1, f2, f3, f4⟩ := fine_at hf
  rw [o84o]
  simp only [List.take_length, Nat.zero_add, len_true, cond_true, Int.toNat_natCast, Nat.sub_zero, show Int.toNat 0 = 0 from rfl, List.drop_zero, take16 f1]
  refine cond_split (fun hk => ?_) (fun hk => ?_)
  · have hk := of_decide_eq_true hk
    obtain ⟨x, hx⟩ := get_ex (l := l2) (k := i.toNat) (by omega)
    have bx := badA_at (any_get f4 hx)
    rw [hx, tryW_step h7 (by omega) hx, IntWalk.i64_in (i + 1) (by omega)]
    have hmu : decide (mu84o ((l2, nl), (o, no), (A, nA), g, (l2, nl2), n, i + 1, PUnit.unit) < mu84o ((l2, nl), (o, no), (A, nA), g, (l2, nl2), n, i, ())) = true := decide_eq_true (show (n - (i + 1)).toNat < (n - i).toNat by omega)
    have hpre : pre84o d l2 o A g l2 n (i + 1) = true := bp_mk ⟨rfl, hf, h2, h3, h4, h5, h6, by omega, by omega, h9⟩
    have hAl : A.length = o.length := by rw [h5, timesS_len, pick_len]
    have hAb : ∀ a ∈ A, 0 ≤ a ∧ a ≤ 900000 := fun a ha => by
      rw [h5] at ha
      have := times_bd f3 (pick_ok f4 h3) _ a ha
      rw [pick_len] at this; omega
    refine guard_split (by simp; omega) ?_
    simp only [bindO]
    refine guard_split (bp_mk ⟨f1, f3, f4, any_get f4 hx, f2, hAl, h3, hAb, by omega, by omega, rfl, by omega, by omega, by omega⟩) ?_
    cases o.contains i with
    | true =>
      simp only [cond_true, Bool.true_or]
      refine guard_split hmu (guard_split hpre ?_)
      cases tryW d l2 g o A (i + 1) <;> rfl
    | false =>
      simp only [cond_false, Bool.false_or]
      refine cond_split (fun ht => ?_) (fun ht => ?_)
      · rw [ht]
        refine guard_split hmu (guard_split hpre ?_)
        cases tryW d l2 g o A (i + 1) <;> rfl
      · rw [ht]
        generalize ht2 : innerS g x.2.1 A (pick l2 o) x.2.2.1 = t at *
        have e1 : List.take o.length o = o := List.take_length
        have e2 : List.take A.length A = A := List.take_length
        have e3 : List.take (o.length + 1) (o ++ [i]) = o ++ [i] := List.take_of_length_le (by simp)
        have e4 : List.take (A.length + 1) (A ++ [t]) = A ++ [t] := List.take_of_length_le (by simp)
        have hT : A ++ [t] = timesS g (pick l2 (o ++ [i])) := by
          unfold pick
          rw [List.map_append, List.map_cons, List.map_nil, timesS_snoc, atA_of hx, ← ht2, h5]; rfl
        have hdt : ∀ i : Decidable True, @decide True i = true := fun i => @decide_eq_true True i trivial
        have w1 : decide (o.length + 1 ≤ (o ++ [i]).length) = true := decide_eq_true (by simp)
        have w2 : decide (A.length + 1 ≤ (A ++ [t]).length) = true := decide_eq_true (by simp)
        simp only [e1, e2, e3, e4, hdt, w1, w2, Bool.and_self, cond_true]
        refine guard_split (decide_eq_true (by omega)) (guard_split (decide_eq_true (by omega)) (guard_split (by simp; omega) (guard_split (decide_eq_true (by omega)) (guard_split (by simp; omega) ?_))))
        refine guard_split (bp_mk ⟨hf, h2, rng_snoc h3 h7 (by omega), by simp; omega, hT, by simp; omega⟩) ?_
        refine cond_split (fun hc => ?_) (fun hc => ?_)
        · have hc := of_decide_eq_true hc
          obtain ⟨d', rfl⟩ : ∃ d', d = d' + 1 := ⟨d - 1, by simp at hc; omega⟩
          have : srchA l2 g (d' + 1) (o ++ [i]) (A ++ [t]) = some (o ++ [i]) := by
            show cond (decide ((o ++ [i]).length = l2.length)) _ _ = _
            rw [decide_eq_true hc]; rfl
          simp only [cond_false]
          rw [this]; rfl
        · simp only [cond_false]
          cases hr : srchA l2 g d (o ++ [i]) (A ++ [t]) with
          | some r => rfl
          | none =>
            refine guard_split hmu (guard_split hpre ?_)
            cases tryW d l2 g o A (i + 1) <;> rfl
  · rw [tryW_end (by have := of_decide_eq_false hk; omega)]; rfl
def B3' (l : List Item) (o A : List Int) : List Blk := [.row false kA l, .row false I o, .row false I A]
theorem p84s (d : Nat) (l : List Item) (nl : Bool) (g o : List Int) (no : Bool) (A : List Int) (nA : Bool) (h : pre84 (d + 1) l g o A = true) : o84L d l nl g o no A nA = pickA (spec84 (d + 1) ((l, nl), g, (o, no), (A, nA), ())).2 := by
  have key : ∀ (x : Option (PV × List Blk)), x = cond (decide (o.length = l.length)) (some (slV 1 I (o, no), B3' l o A)) (cond (srchA l g (d + 1) o A).isSome (some (slV 3 I ((srchA l g (d + 1) o A).getD [], false), B3' l o A ++ [.row true I ((srchA l g (d + 1) o A).getD [])])) (some (.sc (.slice none 0 0), B3' l o A))) →
      x = pickA (spec84 (d + 1) ((l, nl), g, (o, no), (A, nA), ())).2 := fun x h => h
  refine key _ ?_
  obtain ⟨hf, h2, h3, h4, h5, h6⟩ := bp_true.1 h
  rw [o84]
  simp only [List.take_length, Nat.zero_add, len_true, cond_true]
  refine cond_split (fun hc => ?_) (fun hc => ?_)
  · have hc : ((o.length : Nat) : Int) = (l.length : Nat) := by simpa using hc
    rw [decide_eq_true (show o.length = l.length by omega)]; rfl
  · have hc : ¬ ((o.length : Nat) : Int) = (l.length : Nat) := by simpa using hc
    have hne : ¬ o.length = l.length := by omega
    have hs : srchA l g (d + 1) o A = tryW d l g o A 0 := by
      show cond (decide (o.length = l.length)) _ _ = _
      rw [decide_eq_false hne]; rfl
    rw [decide_eq_false hne, hs]
    refine guard_split (bp_mk ⟨rfl, hf, h2, h3, by omega, h5, rfl, by omega, by omega, by omega⟩) ?_
    cases tryW d l g o A 0 <;> rfl
theorem in84i : CutOK Try.prog Try.f84.ntmps (codeAt 2 (bodyF Try.f84)) [0, 3, 5, 9, 10, 11, 12, 31, 32, 33] [11, 12] (entC k84i c84i) := loop_cutW (kill := killA 0 k84i) TF_ok mixed mu84i (by kernel_rfl) (noCuts_ok _) fun v h => p84i v.1.1 v.1.2 v.2.1.1 v.2.1.2 v.2.2.1 v.2.2.2.1 v.2.2.2.2.1 v.2.2.2.2.2.1 v.2.2.2.2.2.2.1 v.2.2.2.2.2.2.2.1.1 v.2.2.2.2.2.2.2.1.2 v.2.2.2.2.2.2.2.2.1 v.2.2.2.2.2.2.2.2.2.1 h
theorem in84o (d : Nat) (hT : TableOK Try.prog (T84 d)) : CutOK Try.prog Try.f84.ntmps (codeAt 0 (bodyF Try.f84)) [0, 2, 3, 5, 22, 23, 24] [8] (entC k84o (c84o d)) := loop_cutW (kill := killA 0 k84o) hT mixed mu84o (by kernel_rfl) (cut_at (by kernel_rfl) (by kernel_rfl) in84i (noCuts_ok _)) fun v h => p84o d v.1.1 v.1.2 v.2.1.1 v.2.1.2 v.2.2.1.1 v.2.2.1.2 v.2.2.2.1 v.2.2.2.2.1.1 v.2.2.2.2.1.2 v.2.2.2.2.2.1 v.2.2.2.2.2.2.1 h
theorem T84_ok : ∀ d, TableOK Try.prog (T84 d)
  | 0 => ext_ok (entV_ok Try.call84 (fun v h => absurd (bp_true.1 h) (by rintro ⟨_, _, _, h4, _, h6⟩; omega))) TF_ok
  | d + 1 => ext_ok (entV_ok Try.call84 (liftV (T84_ok d) mixed Try.func84 (show Try.f84.body = some (bodyF Try.f84) from rfl) (cut_cons (by kernel_rfl) (in84o d (T84_ok d)) (noCuts_ok _)) (by decide) fun v h => p84s d v.1.1 v.1.2 v.2.1 v.2.2.1.1 v.2.2.1.2 v.2.2.2.1.1 v.2.2.2.1.2 h)) TF_ok
theorem p33 (l : List Item) (nl : Bool) (g : List Int) (h : preL g = true) : o33L l nl g = pickA (spec33 ((l, nl), g, ())).2 := by
  have key : ∀ (x : Option (PV × List Blk)), x = cond (ordV l g).isSome (some (.tup [slV 1 I ((ordV l g).getD [], false), .sc (.int .i64 0)], [.row false kA l, .row true I ((ordV l g).getD [])])) (some (.tup [.sc (.slice none 0 0), .sc (.int .i64 (ordE l g))], [.row false kA l])) →
      x = pickA (spec33 ((l, nl), g, ())).2 := fun x h => h
  refine key _ ?_
  have hg := of_decide_eq_true h
  rw [o33]
  simp only [List.take_length, Nat.zero_add, len_true, cond_true, take16 hg]
  unfold ordV ordE
  refine guard_split (decide_eq_true (by omega)) (guard_split h ?_)
  refine cond_split (fun h => ?_) (fun h => ?_)
  · rw [decide_eq_false (show ¬ errS l g = 0 by simpa using h)]; rfl
  have he : errS l g = 0 := by simpa using h
  rw [decide_eq_true he]
  refine cond_split (fun h => ?_) (fun h => ?_)
  · rw [decide_eq_false (show ¬ l.length ≤ 6 by have := of_decide_eq_true h; omega)]; rfl
  have h6 : l.length ≤ 6 := by have := of_decide_eq_false h; omega
  rw [decide_eq_true h6]
  refine cond_split (fun h => ?_) (fun h => ?_)
  · have h : ((l.length : Nat) : Int) = 0 := by simpa using h
    rw [decide_eq_false (show ¬ l.length ≠ 0 by omega), decide_eq_true (show l.length = 0 by omega)]; rfl
  have h : ¬ ((l.length : Nat) : Int) = 0 := by simpa using h
  have h0 : l.length ≠ 0 := by omega
  rw [decide_eq_true h0, decide_eq_false (show ¬ l.length = 0 from h0)]
  refine guard_split (decide_eq_true (by omega)) (guard_split (bp_mk ⟨⟨hg, he⟩, h6, fun i hi => by simp at hi, by simp, rfl, by simp; omega⟩) ?_)
  rw [decide_eq_false (show ¬ ([] : List Int).length = l.length by simp; omega)]
  cases srchA l g 7 [] [] <;> rfl
theorem p38 (l : List Int) (nl : Bool) (h : (!nl && decide (l.length ≤ 1000)) = true) : o38L l nl = some (.sl 1 0 1 l.length l.length false false, [.row false I l, .row true I l]) := by
  simp only [Bool.and_eq_true, Bool.not_eq_true', decide_eq_true_eq] at h
  obtain ⟨rfl, h⟩ := h
  rw [o38]
  simp only [List.take_length, Nat.zero_add, len_true, cond_true, cond_false, Bool.and_false]
  refine guard_split (by simp; omega) ?_
  cases decide (1 ≤ l.length) <;> rfl
theorem fitL_nil : ∀ X : List Item, fitL [] X = true
  | [] => rfl
  | _ :: _ => rfl
theorem p36l (X : List Item) (nX : Bool) (T : List Int) (nT : Bool) (n k : Int) (h : pre36 X T n k = true) : o36lL X nX T nT n k = cond (fitL (T.drop k.toNat) (X.drop k.toNat)) (some (.exit 2, [.undef], [.row false kA X, .row false I T])) (some (.ret, [.sc (.bool false)], [.row false kA X, .row false I T])) := by
  obtain ⟨h1, h2, h3, h4, h5⟩ := of_decide_eq_true h
  rw [o36l]
  simp only [List.take_length, Nat.zero_add, len_true, cond_true]
  refine cond_split (fun hk => ?_) (fun hk => ?_)
  · have hk := of_decide_eq_true hk
    obtain ⟨t, ht⟩ := get_ex (l := T) (k := k.toNat) (by omega)
    obtain ⟨x, hx⟩ := get_ex (l := X) (k := k.toNat) (by omega)
    rw [ht, hx, drop_cons ht, drop_cons hx, IntWalk.i64_in (k + 1) (by omega), show (k + 1).toNat = k.toNat + 1 by omega]
    refine guard_split (by simp; omega) ?_
    simp only [bindO]
    refine guard_split (by simp; omega) ?_
    show _ = cond (bif decide (t > x.2.2.2) then false else fitL (T.drop (k.toNat + 1)) (X.drop (k.toNat + 1))) _ _
    refine cond_split (fun hc => by rw [hc]; rfl) (fun hc => ?_)
    rw [hc]
    refine guard_split (decide_eq_true ?_) (guard_split (decide_eq_true ⟨h1, h2, by omega, by omega, h5⟩) rfl)
    show (n - (k + 1)).toNat < (n - k).toNat
    omega
  · have hk := of_decide_eq_false hk
    rw [List.drop_eq_nil_of_le (show T.length ≤ k.toNat by omega), fitL_nil]; rfl
theorem TG_ok : TableOK Try.prog TG := by
  have e37 : EntOK Try.prog 37 (entV kC (specP kC [oI] (fun v => preF v.1.1 v.2.1) fun v => ((timesU v.2.1 v.1.1, false), ()))) := by
    have : (fun v : denA kC => (((timesU v.2.1 v.1.1, false), ()) : denA [oI])) = fun v => ((timesS v.2.1 v.1.1, false), ()) := by funext v; rw [timesU_eq]
    rw [this]
    exact entV_ok Try.call37 (liftV (T0_ok _) mixed Try.func37 (show Try.f37.body = some (bodyF Try.f37) from rfl) (cut_cons (by kernel_rfl) in57a (cut_cons (by kernel_rfl) in57b (noCuts_ok _))) (by decide) fun v h => p57 v.1.1 v.1.2 v.2.1 h)
  exact ext_ok (entV_ok Try.call33 (liftV (T84_ok 7) mixed Try.func33 (show Try.f33.body = some (bodyF Try.f33) from rfl) (noCuts_ok _) (by decide) fun v h => p33 v.1.1 v.1.2 v.2.1 h))
    (ext_ok e37 (ext_ok (entV_ok Try.call38 (liftV TF_ok mixed Try.func38 (show Try.f38.body = some (bodyF Try.f38) from rfl) (noCuts_ok _) (by decide) fun v h => p38 v.1.1 v.1.2 h)) (T84_ok 7)))
theorem in36 : CutOK Try.prog Try.f36.ntmps (codeAt 2 (bodyF Try.f36)) [6, 27, 28, 29] [5] (entC k36 c36) := loop_cutW (kill := killA 0 k36) TG_ok mixed mu36 (by kernel_rfl) (noCuts_ok _) fun v h => p36l v.1.1 v.1.2 v.2.1.1 v.2.1.2 v.2.2.1 v.2.2.2.1 h
end Go.Proofs.YtacdahpjmeianaaAs
