/- What is proved: what the sums, the trimming and the small parts of records answer. No condition. -/
import Derived.Test.YtokephobkllfgaaDoorTrb0
namespace Go.Proofs.YtokephobkllfgaaDoorRb
open Go Go.Proofs Go.Proofs.YtokephobkllfgaaDoorEv
set_option maxRecDepth 100000
set_option maxHeartbeats 4000000
set_option linter.unusedVariables false
set_option linter.unusedSimpArgs false
theorem mixed : Tryd.prog.follows .mixedOrders = true := by kernel_rfl
noncomputable abbrev b39L (a0 : Int) (a1 : Int) (a2 : Int) := evFuncV Tryd.prog T0 noCuts Tryd.f39 (killA 0 [sI, sI, sI]) (showA 0 [sI, sI, sI] (a0, (a1, (a2, ())))).1 (showA 0 [sI, sI, sI] (a0, (a1, (a2, ())))).2
theorem b39 (a0 : Int) (a1 : Int) (a2 : Int) : b39L a0 a1 a2 = (bif decide (a0 ≥ a1) then some (PV.sc (Value.bool (decide (a0 ≤ a2))), []) else some (PV.sc (Value.bool false), [])) := by kernel_rfl
noncomputable abbrev b23aL (a0 : Int) (a1 : Int) (a2 : List Int) (a3 : Bool) (a4 : Int) (a5 : Int) := evRound Tryd.prog T0 noCuts 28 (loopOf (codeAt 0 (bodyF Tryd.f23))) kSq muSq (killA 0 kSq) [3, 4, 8, 9, 10] [3, 4] cSq (a0, (a1, ((a2, a3), (a4, (a5, ())))))
theorem b23a (a0 : Int) (a1 : Int) (a2 : List Int) (a3 : Bool) (a4 : Int) (a5 : Int) : b23aL a0 a1 a2 a3 a4 a5 = (bif decide (a5 < a4) then
  guardB (decide (0 ≤ a5) && decide (a5 < (↑a2.length : Int)))
    (bindO a2[0 + a5.toNat]? fun x =>
      guardB
        (decide
          (muSq
              ((IntKind.i64.wrap (a0 + IntKind.i64.wrap x)).tmod 251,
                (IntKind.i64.wrap (a1 + (IntKind.i64.wrap (a0 + IntKind.i64.wrap x)).tmod 251)).tmod 241,
                (List.take a2.length a2, a3), a4, IntKind.i64.wrap (a5 + 1), ()) <
            muSq (a0, a1, (a2, a3), a4, a5, ())))
        (guardB
          (bif decide (0 + a2.length ≤ a2.length) then
            bp
              (okSq (List.take a2.length a2) ((IntKind.i64.wrap (a0 + IntKind.i64.wrap x)).tmod 251)
                ((IntKind.i64.wrap (a1 + (IntKind.i64.wrap (a0 + IntKind.i64.wrap x)).tmod 251)).tmod 241) a4
                (IntKind.i64.wrap (a5 + 1)))
          else false)
          (some
            (Xt.exit 0,
              [PV.sc
                  (Value.int IntKind.i64
                    (sumQ ((IntKind.i64.wrap (a0 + IntKind.i64.wrap x)).tmod 251)
                        ((IntKind.i64.wrap (a1 + (IntKind.i64.wrap (a0 + IntKind.i64.wrap x)).tmod 251)).tmod 241)
                        (List.drop (IntKind.i64.wrap (a5 + 1)).toNat (List.take a2.length a2))).fst),
                PV.sc
                  (Value.int IntKind.i64
                    (sumQ ((IntKind.i64.wrap (a0 + IntKind.i64.wrap x)).tmod 251)
                        ((IntKind.i64.wrap (a1 + (IntKind.i64.wrap (a0 + IntKind.i64.wrap x)).tmod 251)).tmod 241)
                        (List.drop (IntKind.i64.wrap (a5 + 1)).toNat (List.take a2.length a2))).snd)],
              [Blk.row false (Kd.int IntKind.u8) a2]))))
else
  some
    (Xt.exit 0, [PV.sc (Value.int IntKind.i64 a0), PV.sc (Value.int IntKind.i64 a1)],
      [Blk.row false (Kd.int IntKind.u8) a2])) := by kernel_rfl
noncomputable abbrev b23L (a0 : ByteArray) := evFuncV Tryd.prog T0 (addCut 0 [3, 4, 8, 9, 10] [3, 4] (entC kSq cSq) noCuts) Tryd.f23 (killA 0 [sS]) (showA 0 [sS] (a0, ())).1 (showA 0 [sS] (a0, ())).2
theorem b23 (a0 : ByteArray) : b23L a0 = (guardB (decide (a0.size ≤ 9223372036854775807))
  (guardB
    (bif decide (0 + a0.size ≤ (bytesI a0).length) then bp (okSq (List.take a0.size (bytesI a0)) 1 0 (↑a0.size : Int) 0)
    else false)
    (some
      (PV.sc
          (Value.int IntKind.i64
            (IntKind.i64.wrap
              (IntKind.i64.wrap (256 * (sumQ 1 0 (List.drop (Int.toNat 0) (List.take a0.size (bytesI a0)))).snd) +
                (sumQ 1 0 (List.drop (Int.toNat 0) (List.take a0.size (bytesI a0)))).fst))),
        [])))) := by kernel_rfl
noncomputable abbrev b24aL (a0 : ByteArray) (a1 : Int) (a2 : Int) (a3 : Int) := evRound Tryd.prog T0 noCuts 48 (loopOf (codeAt 2 (bodyF Tryd.f24))) kSa muSa (killA 0 kSa) [0, 5, 15, 16] [5] (cSa 2) (a0, (a1, (a2, (a3, ()))))
theorem b24a (a0 : ByteArray) (a1 : Int) (a2 : Int) (a3 : Int) : b24aL a0 a1 a2 a3 = (bif decide (a3 < a2) then
  guardB (decide (0 ≤ a3))
    (bindO a0[a3.toNat]? fun x =>
      guardB
        (decide
          (muSa
              (a0, IntKind.i64.wrap (a1 + IntKind.i64.wrap (↑x.toNat : Int)), a2, IntKind.i64.wrap (a3 + 1),
                ()) <
            muSa (a0, a1, a2, a3, ())))
        (guardB
          (bp (okSa a0 (IntKind.i64.wrap (a1 + IntKind.i64.wrap (↑x.toNat : Int))) a2 (IntKind.i64.wrap (a3 + 1))))
          (some
            (Xt.exit 2,
              [PV.sc
                  (Value.int IntKind.i64
                    (IntKind.i64.wrap (a1 + IntKind.i64.wrap (↑x.toNat : Int)) +
                      sumI
                        (List.take (Int.toNat (a2 - IntKind.i64.wrap (a3 + 1)))
                          (List.drop (IntKind.i64.wrap (a3 + 1)).toNat (bytesI a0)))))],
              []))))
else some (Xt.exit 2, [PV.sc (Value.int IntKind.i64 a1)], [])) := by kernel_rfl
noncomputable abbrev b24bL (a0 : ByteArray) (a1 : Int) (a2 : Int) := evRound Tryd.prog T0 (addCut 2 [0, 5, 15, 16] [5] (entC kSa (cSa 2)) noCuts) 48 (loopOf (codeAt 0 (bodyF Tryd.f24))) kSb muSb (killA 0 kSb) [0, 3, 4] [3] cSb (a0, (a1, (a2, ())))
theorem b24b (a0 : ByteArray) (a1 : Int) (a2 : Int) : b24bL a0 a1 a2 = (bif decide (a2 ≤ (↑a0.size : Int)) then
  guardB (bp (okSa a0 1 a2 0))
    (guardB
      (decide
        (muSb
            (a0,
              IntKind.i64.wrap
                (a1 + Int.tmod (1 + sumI (List.take (Int.toNat (a2 - 0)) (List.drop (Int.toNat 0) (bytesI a0)))) 251),
              IntKind.i64.wrap (a2 + 1), ()) <
          muSb (a0, a1, a2, ())))
      (guardB
        (bp
          (okSb a0
            (IntKind.i64.wrap
              (a1 + Int.tmod (1 + sumI (List.take (Int.toNat (a2 - 0)) (List.drop (Int.toNat 0) (bytesI a0)))) 251))
            (IntKind.i64.wrap (a2 + 1))))
        (some
          (Xt.exit 0,
            [PV.sc
                (Value.int IntKind.i64
                  (IntKind.i64.wrap
                      (a1 +
                        Int.tmod (1 + sumI (List.take (Int.toNat (a2 - 0)) (List.drop (Int.toNat 0) (bytesI a0))))
                          251) +
                    begS (bytesI a0) (IntKind.i64.wrap (a2 + 1)).toNat
                      ((↑a0.size : Int) + 1 - IntKind.i64.wrap (a2 + 1)).toNat))],
            []))))
else some (Xt.exit 0, [PV.sc (Value.int IntKind.i64 a1)], [])) := by kernel_rfl
noncomputable abbrev b24cL (a0 : ByteArray) (a1 : Int) (a2 : Int) (a3 : Int) := evRound Tryd.prog T0 noCuts 48 (loopOf (codeAt 4 (bodyF Tryd.f24))) kSa muSa (killA 0 kSa) [0, 7, 31, 32] [7] (cSa 4) (a0, (a1, (a2, (a3, ()))))
theorem b24c (a0 : ByteArray) (a1 : Int) (a2 : Int) (a3 : Int) : b24cL a0 a1 a2 a3 = (bif decide (a3 < a2) then
  guardB (decide (0 ≤ a3))
    (bindO a0[a3.toNat]? fun x =>
      guardB
        (decide
          (muSa
              (a0, IntKind.i64.wrap (a1 + IntKind.i64.wrap (↑x.toNat : Int)), a2, IntKind.i64.wrap (a3 + 1),
                ()) <
            muSa (a0, a1, a2, a3, ())))
        (guardB
          (bp (okSa a0 (IntKind.i64.wrap (a1 + IntKind.i64.wrap (↑x.toNat : Int))) a2 (IntKind.i64.wrap (a3 + 1))))
          (some
            (Xt.exit 4,
              [PV.sc
                  (Value.int IntKind.i64
                    (IntKind.i64.wrap (a1 + IntKind.i64.wrap (↑x.toNat : Int)) +
                      sumI
                        (List.take (Int.toNat (a2 - IntKind.i64.wrap (a3 + 1)))
                          (List.drop (IntKind.i64.wrap (a3 + 1)).toNat (bytesI a0)))))],
              []))))
else some (Xt.exit 4, [PV.sc (Value.int IntKind.i64 a1)], [])) := by kernel_rfl
noncomputable abbrev b24L (a0 : ByteArray) := evFuncV Tryd.prog T0 (addCut 0 [0, 3, 4] [3] (entC kSb cSb) (addCut 4 [0, 7, 31, 32] [7] (entC kSa (cSa 4)) noCuts)) Tryd.f24 (killA 0 [sS]) (showA 0 [sS] (a0, ())).1 (showA 0 [sS] (a0, ())).2
theorem b24 (a0 : ByteArray) : b24L a0 = (guardB (bp (okSb a0 0 1))
  (guardB (bp (okSa a0 1 (↑a0.size : Int) 0))
    (some
      (PV.sc
          (Value.int IntKind.i64
            (IntKind.i64.wrap
              (IntKind.i64.wrap
                  (Int.tmod (0 + begS (bytesI a0) (Int.toNat 1) ((↑a0.size : Int) + 1 - 1).toNat) 241 * 256) +
                Int.tmod (1 + sumI (List.take (Int.toNat ((↑a0.size : Int) - 0)) (List.drop (Int.toNat 0) (bytesI a0))))
                  251))),
        [])))) := by kernel_rfl
noncomputable abbrev b72L (a0 : List Bool) (a1 : Int) := evFuncV Tryd.prog T0 noCuts Tryd.f72 (killA 0 [rA, sC]) (showA 0 [rA, sC] (a0, (a1, ()))).1 (showA 0 [rA, sC] (a0, (a1, ()))).2
theorem b72 (a0 : List Bool) (a1 : Int) : b72L a0 a1 = (guardB (decide (0 ≤ a1) && decide (a1 < 256))
  (bindO a0[0 + a1.toNat * 1]? fun x => some (PV.sc (Value.bool x), [Blk.row false Kd.bool a0]))) := by kernel_rfl
noncomputable abbrev b59aL (a0 : ByteArray) (a1 : List Bool) (a2 : Int) (a3 : Bool) := evRound Tryd.prog T0 noCuts 21 (loopOf (codeAt 0 (bodyF Tryd.f59))) kMk muMk (killA 0 kMk) [0, 2, 4, 3] [3] cMk (a0, (a1, (a2, (a3, ()))))
theorem b59a (a0 : ByteArray) (a1 : List Bool) (a2 : Int) (a3 : Bool) : b59aL a0 a1 a2 a3 = (bif decide (a2 < (↑a0.size : Int)) then
  guardB (decide (0 ≤ a2))
    (bindO a0[a2.toNat]? fun x =>
      bif decide ((↑x.toNat : Int) ≥ 128) then
        guardB (decide (256 ≤ a1.length))
          (guardB (decide (256 ≤ a1.length))
            (some (Xt.ret, [PV.sc (Value.bool false)], [Blk.row true Kd.bool (splice a1 0 (List.take 256 a1))])))
      else
        guardB (decide (0 ≤ (↑x.toNat : Int)) && decide ((↑x.toNat : Int) < 256))
          (bindO a1[0 + (↑x.toNat : Int).toNat * 1]? fun x_1 =>
            guardB
              (decide
                (muMk (a0, a1.set (0 + (↑x.toNat : Int).toNat * 1) true, IntKind.i64.wrap (a2 + 1), a3, ()) <
                  muMk (a0, a1, a2, a3, ())))
              (guardB (bp (okMk a0 (a1.set (0 + (↑x.toNat : Int).toNat * 1) true) (IntKind.i64.wrap (a2 + 1))))
                (some (Xt.exit 0, [PV.sc (Value.bool a3)], [Blk.row true Kd.bool azT])))))
else some (Xt.exit 0, [PV.sc (Value.bool a3)], [Blk.row true Kd.bool a1])) := by kernel_rfl
noncomputable abbrev b59L (a0 : ByteArray) := evFuncV Tryd.prog T0 (addCut 0 [0, 2, 4, 3] [3] (entC kMk cMk) noCuts) Tryd.f59 (killA 0 [sS]) (showA 0 [sS] (a0, ())).1 (showA 0 [sS] (a0, ())).2
theorem b59 (a0 : ByteArray) : b59L a0 = (guardB
  (bp
    (okMk a0
      [false, false, false, false, false, false, false, false, false, false, false, false, false, false, false, false,
        false, false, false, false, false, false, false, false, false, false, false, false, false, false, false, false,
        false, false, false, false, false, false, false, false, false, false, false, false, false, false, false, false,
        false, false, false, false, false, false, false, false, false, false, false, false, false, false, false, false,
        false, false, false, false, false, false, false, false, false, false, false, false, false, false, false, false,
        false, false, false, false, false, false, false, false, false, false, false, false, false, false, false, false,
        false, false, false, false, false, false, false, false, false, false, false, false, false, false, false, false,
        false, false, false, false, false, false, false, false, false, false, false, false, false, false, false, false,
        false, false, false, false, false, false, false, false, false, false, false, false, false, false, false, false,
        false, false, false, false, false, false, false, false, false, false, false, false, false, false, false, false,
        false, false, false, false, false, false, false, false, false, false, false, false, false, false, false, false,
        false, false, false, false, false, false, false, false, false, false, false, false, false, false, false, false,
        false, false, false, false, false, false, false, false, false, false, false, false, false, false, false, false,
        false, false, false, false, false, false, false, false, false, false, false, false, false, false, false, false,
        false, false, false, false, false, false, false, false, false, false, false, false, false, false, false, false,
        false, false, false, false, false, false, false, false, false, false, false, false, false, false, false, false]
      0))
  (guardB (decide (0 + Tryd.prog.types[86].size / Kd.bool.sz ≤ azT.length))
    (guardB (decide (0 + 256 ≤ azT.length))
      (guardB (decide (0 + Tryd.prog.types[86].size / Kd.bool.sz ≤ (splice azT 0 (List.take 256 azT)).length))
        (some
          (PV.tup [PV.arr Kd.bool 256 (List.take 256 (splice azT 0 (List.take 256 azT))), PV.sc (Value.bool true)],
            [])))))) := by kernel_rfl
noncomputable abbrev b60aL (a0 : ByteArray) (a1 : List Bool) := evRound Tryd.prog R0 noCuts 16 (loopOf (codeAt 0 (bodyF Tryd.f60))) kTr muTr (killA 0 kTr) [0, 1] [0] (cTr ltrS) (a0, (a1, ()))
theorem b60a (a0 : ByteArray) (a1 : List Bool) : b60aL a0 a1 = (bif decide ((↑a0.size : Int) > 0) then
  bindO a0[Int.toNat 0]? fun x =>
    guardB (bp (a1 = azT ∧ 0 ≤ (↑x.toNat : Int) ∧ (↑x.toNat : Int) ≤ 255))
      (bif !lowC (↑x.toNat : Int) then some (Xt.exit 0, [PV.sc (Value.string a0)], [Blk.row false Kd.bool a1])
      else
        guardB (decide (1 ≤ (↑a0.size : Int)) && decide ((↑a0.size : Int) ≤ (↑a0.size : Int)))
          (guardB (decide (muTr (a0.extract (Int.toNat 1) (↑a0.size : Int).toNat, a1, ()) < muTr (a0, a1, ())))
            (guardB (bp (okTr (a0.extract (Int.toNat 1) (↑a0.size : Int).toNat) a1))
              (some
                (Xt.exit 0, [PV.sc (Value.string (ltrS (a0.extract (Int.toNat 1) (↑a0.size : Int).toNat)))],
                  [Blk.row false Kd.bool a1])))))
else some (Xt.exit 0, [PV.sc (Value.string a0)], [Blk.row false Kd.bool a1])) := by kernel_rfl
noncomputable abbrev b60L (a0 : ByteArray) (a1 : List Bool) := evFuncV Tryd.prog R0 (addCut 0 [0, 1] [0] (entC kTr (cTr ltrS)) noCuts) Tryd.f60 (killA 0 kTr) (showA 0 kTr (a0, (a1, ()))).1 (showA 0 kTr (a0, (a1, ()))).2
theorem b60 (a0 : ByteArray) (a1 : List Bool) : b60L a0 a1 = (guardB (bp (okTr a0 a1)) (some (PV.sc (Value.string (ltrS a0)), [Blk.row false Kd.bool a1]))) := by kernel_rfl
noncomputable abbrev b61aL (a0 : ByteArray) (a1 : List Bool) := evRound Tryd.prog R0 noCuts 22 (loopOf (codeAt 0 (bodyF Tryd.f61))) kTr muTr (killA 0 kTr) [0, 1] [0] (cTr rtrS) (a0, (a1, ()))
theorem b61a (a0 : ByteArray) (a1 : List Bool) : b61aL a0 a1 = (bif decide ((↑a0.size : Int) > 0) then
  guardB (decide (0 ≤ IntKind.i64.wrap ((↑a0.size : Int) - 1)))
    (bindO a0[(IntKind.i64.wrap ((↑a0.size : Int) - 1)).toNat]? fun x =>
      guardB (bp (a1 = azT ∧ 0 ≤ (↑x.toNat : Int) ∧ (↑x.toNat : Int) ≤ 255))
        (bif !lowC (↑x.toNat : Int) then some (Xt.exit 0, [PV.sc (Value.string a0)], [Blk.row false Kd.bool a1])
        else
          guardB
            (decide (0 ≤ IntKind.i64.wrap ((↑a0.size : Int) - 1)) &&
              decide (IntKind.i64.wrap ((↑a0.size : Int) - 1) ≤ (↑a0.size : Int)))
            (guardB
              (decide
                (muTr (a0.extract (Int.toNat 0) (IntKind.i64.wrap ((↑a0.size : Int) - 1)).toNat, a1, ()) <
                  muTr (a0, a1, ())))
              (guardB (bp (okTr (a0.extract (Int.toNat 0) (IntKind.i64.wrap ((↑a0.size : Int) - 1)).toNat) a1))
                (some
                  (Xt.exit 0,
                    [PV.sc
                        (Value.string
                          (rtrS (a0.extract (Int.toNat 0) (IntKind.i64.wrap ((↑a0.size : Int) - 1)).toNat)))],
                    [Blk.row false Kd.bool a1]))))))
else some (Xt.exit 0, [PV.sc (Value.string a0)], [Blk.row false Kd.bool a1])) := by kernel_rfl
noncomputable abbrev b61L (a0 : ByteArray) (a1 : List Bool) := evFuncV Tryd.prog R0 (addCut 0 [0, 1] [0] (entC kTr (cTr rtrS)) noCuts) Tryd.f61 (killA 0 kTr) (showA 0 kTr (a0, (a1, ()))).1 (showA 0 kTr (a0, (a1, ()))).2
theorem b61 (a0 : ByteArray) (a1 : List Bool) : b61L a0 a1 = (guardB (bp (okTr a0 a1)) (some (PV.sc (Value.string (rtrS a0)), [Blk.row false Kd.bool a1]))) := by kernel_rfl
theorem drop_cons {α : Type} {l : List α} {k : Nat} {x : α} (h : l[k]? = some x) : l.drop k = x :: l.drop (k + 1) := by
  obtain ⟨hk, rfl⟩ := List.getElem?_eq_some_iff.1 h
  exact List.drop_eq_getElem_cons hk
theorem get_ex {α : Type} {l : List α} {k : Nat} (h : k < l.length) : ∃ x, l[k]? = some x := ⟨l[k], List.getElem?_eq_getElem h⟩
theorem len_true {α : Type} (l : List α) : decide (l.length ≤ l.length) = true := by simp
theorem bytes_get (s : ByteArray) (k : Nat) (h : k < s.size) : ∃ x : UInt8, s[k]? = some x ∧ (bytesI s)[k]? = some (x.toNat : Int) := by
  have h2 : k < s.data.size := h
  refine ⟨s[k], getElem?_pos s k h, ?_⟩
  unfold bytesI
  rw [List.getElem?_map, Array.getElem?_toList, Array.getElem?_eq_getElem h2]; rfl
theorem uB (x : UInt8) : (0 : Int) ≤ (x.toNat : Int) ∧ (x.toNat : Int) ≤ 255 := by
  have : x.toNat < 256 := x.toNat_lt
  omega
theorem bytes_len (s : ByteArray) : (bytesI s).length = s.size := by unfold bytesI; rw [List.length_map, Array.length_toList]; rfl
theorem bytes_in (s : ByteArray) : ∀ x ∈ bytesI s, 0 ≤ x ∧ x ≤ 255 := by
  intro x hx
  unfold bytesI at hx
  obtain ⟨y, _, rfl⟩ := List.mem_map.1 hx
  have : y.toNat < 256 := y.toNat_lt
  omega
theorem bytes_ext (s : ByteArray) (a b : Nat) : bytesI (s.extract a b) = ((bytesI s).drop a).take (b - a) := by
  unfold bytesI
  rw [ByteArray.data_extract, Array.toList_extract, List.extract_eq_take_drop, List.map_take, List.map_drop]
theorem bytes_inj {a b : ByteArray} (h : bytesI a = bytesI b) : a = b := by
  apply ByteArray.ext
  apply Array.ext'
  unfold bytesI at h
  have : ∀ (l m : List UInt8), l.map (fun b => (b.toNat : Int)) = m.map (fun b => (b.toNat : Int)) → l = m := by
    intro l
    induction l with
    | nil => intro m h; cases m with
      | nil => rfl
      | cons y m => simp at h
    | cons x l ih => intro m h; cases m with
      | nil => simp at h
      | cons y m =>
        simp only [List.map_cons, List.cons.injEq] at h
        have : x.toNat = y.toNat := by omega
        rw [UInt8.toNat_inj.1 this, ih m h.2]
  exact this _ _ h
theorem bytes_str {l : List Int} (h : ∀ x ∈ l, 0 ≤ x ∧ x ≤ 255) : bytesI (strOfNums l) = l := by
  unfold bytesI strOfNums
  simp only [List.map_toArray, List.toList_toArray, List.map_map]
  conv => rhs; rw [← List.map_id l]
  refine List.map_congr_left fun x hx => ?_
  obtain ⟨h1, h2⟩ := h x hx
  simp only [Function.comp_apply, id_eq]
  have : (UInt8.ofNat x.toNat).toNat = x.toNat := by rw [UInt8.toNat_ofNat']; omega
  rw [this]; omega
theorem str_bytes (s : ByteArray) : strOfNums (bytesI s) = s := bytes_inj (bytes_str (bytes_in s))
theorem c39 (n a b : Int) : b39L n a b = some (PV.sc (.bool (inS n a b)), []) := by
  rw [b39]; unfold inS
  cases decide (n ≥ a) <;> rfl
theorem tme {a d : Int} (h : 0 ≤ a) : a.tmod d = a % d := Int.tmod_eq_emod_of_nonneg h
theorem c23a (a b : Int) (l : List Int) (nl : Bool) (n k : Int) (h : okSq l a b n k) : b23aL a b l nl n k = pickA (cSq (a, b, (l, nl), n, k, ())).2 := by
  obtain ⟨h1, h2, h3, h4, h5, h6, h7⟩ := h
  show _ = some (Xt.exit 0, [PV.sc (.int .i64 (sumQ a b (l.drop k.toNat)).1), PV.sc (.int .i64 (sumQ a b (l.drop k.toNat)).2)], [Blk.row false (.int .u8) l])
  rw [b23a]
  refine cond_split (fun h => ?_) (fun h => ?_)
  · have h := of_decide_eq_true h
    obtain ⟨x, hx⟩ := get_ex (l := l) (k := k.toNat) (by omega)
    have hb := h7 x (List.mem_of_getElem? hx)
    rw [Nat.zero_add, hx, drop_cons hx]
    simp only [bindO, List.take_length, Nat.zero_add, len_true, cond_true]
    have t1 : (a + x).tmod 251 = (a + x) % 251 := tme (by omega)
    have t2 : (b + (a + x).tmod 251).tmod 241 = (b + (a + x).tmod 251) % 241 := tme (by omega)
    rw [IntWalk.i64_in x (by omega), IntWalk.i64_in (a + x) (by omega), IntWalk.i64_in (b + (a + x).tmod 251) (by omega), IntWalk.i64_in (k + 1) (by omega), show (k + 1).toNat = k.toNat + 1 by omega]
    refine guard_split (by simp; omega) (guard_split (decide_eq_true (show (n - (k + 1)).toNat < (n - k).toNat by omega)) (guard_split (bp_mk ⟨h1, by omega, by omega, h4, by omega, by omega, h7⟩) rfl))
  · have h := of_decide_eq_false h
    rw [List.drop_eq_nil_of_le (by omega)]; rfl
theorem in23 : CutOK Tryd.prog Tryd.f23.ntmps (codeAt 0 (bodyF Tryd.f23)) [3, 4, 8, 9, 10] [3, 4] (entC kSq cSq) :=
  loop_cutW (kill := killA 0 kSq) (T0_ok _) mixed muSq (by kernel_rfl) (noCuts_ok _) fun v h => c23a v.1 v.2.1 v.2.2.1.1 v.2.2.1.2 v.2.2.2.1 v.2.2.2.2.1 (bp_true.1 h)
theorem sumQ_in : ∀ (l : List Int) (a b : Int), (∀ x ∈ l, 0 ≤ x) → 0 ≤ a → a < 251 → 0 ≤ b → b < 241 → (0 ≤ (sumQ a b l).1 ∧ (sumQ a b l).1 < 251) ∧ 0 ≤ (sumQ a b l).2 ∧ (sumQ a b l).2 < 241
  | [], a, b, _, h1, h2, h3, h4 => ⟨⟨h1, h2⟩, h3, h4⟩
  | x :: r, a, b, hx, h1, h2, h3, h4 => by
    have hx0 := hx x (List.mem_cons_self)
    have t1 : (a + x).tmod 251 = (a + x) % 251 := tme (by omega)
    have t2 : (b + (a + x).tmod 251).tmod 241 = (b + (a + x).tmod 251) % 241 := tme (by omega)
    rw [sumQ]
    exact sumQ_in r _ _ (fun y hy => hx y (List.mem_cons_of_mem _ hy)) (by omega) (by omega) (by omega) (by omega)
theorem c23 (s : ByteArray) (h : s.size ≤ 140737488355328) : b23L s = some (PV.sc (.int .i64 (256 * (sumQ 1 0 (bytesI s)).2 + (sumQ 1 0 (bytesI s)).1)), []) := by
  have hl := bytes_len s
  have ht : List.take s.size (bytesI s) = bytesI s := List.take_of_length_le (by omega)
  obtain ⟨⟨h1, h2⟩, h3, h4⟩ := sumQ_in (bytesI s) 1 0 (fun x hx => (bytes_in s x hx).1) (by omega) (by omega) (by omega) (by omega)
  rw [b23, ht, show Int.toNat 0 = 0 from rfl, List.drop_zero, hl, Nat.zero_add, show decide (s.size ≤ s.size) = true by simp, IntWalk.i64_in (256 * (sumQ 1 0 (bytesI s)).2) (by omega), IntWalk.i64_in _ (by omega)]
  exact guard_split (decide_eq_true (by omega)) (guard_split (bp_mk ⟨by omega, by omega, by omega, by omega, by omega, by omega, bytes_in s⟩) rfl)
theorem sumI_in : ∀ (l : List Int), (∀ x ∈ l, 0 ≤ x ∧ x ≤ 255) → 0 ≤ sumI l ∧ sumI l ≤ 255 * (l.length : Int)
  | [], _ => ⟨by show (0 : Int) ≤ 0; omega, by show (0 : Int) ≤ _; omega⟩
  | x :: r, h => by
    have h1 := h x (List.mem_cons_self)
    have h2 := sumI_in r fun y hy => h y (List.mem_cons_of_mem _ hy)
    rw [sumI, List.length_cons]
    omega
theorem c24a (s : ByteArray) (a n k : Int) (h : okSa s a n k) : b24aL s a n k = pickA (cSa 2 (s, a, n, k, ())).2 := by
  obtain ⟨h1, h2, h3, h4, h5, h6⟩ := h
  show _ = some (Xt.exit 2, [PV.sc (.int .i64 (a + sumI (((bytesI s).drop k.toNat).take (n - k).toNat)))], [])
  rw [b24a]
  refine cond_split (fun h => ?_) (fun h => ?_)
  · have h := of_decide_eq_true h
    obtain ⟨x, hx, hc⟩ := bytes_get s k.toNat (by omega)
    have hu := uB x
    rw [hx, drop_cons hc]
    simp only [bindO]
    rw [IntWalk.i64_in (x.toNat : Int) (by omega), IntWalk.i64_in (a + (x.toNat : Int)) (by omega), IntWalk.i64_in (k + 1) (by omega), show (k + 1).toNat = k.toNat + 1 by omega, show (n - k).toNat = (n - (k + 1)).toNat + 1 by omega, List.take_succ_cons, sumI, Int.add_assoc]
    exact guard_split (decide_eq_true h2) (guard_split (decide_eq_true (show (n - (k + 1)).toNat < (n - k).toNat by omega)) (guard_split (bp_mk ⟨h1, by omega, by omega, h4, by omega, by omega⟩) rfl))
  · have h := of_decide_eq_false h
    rw [show (n - k).toNat = 0 by omega, List.take_zero, sumI, Int.add_zero]
theorem c24c (s : ByteArray) (a n k : Int) (h : okSa s a n k) : b24cL s a n k = pickA (cSa 4 (s, a, n, k, ())).2 := by
  obtain ⟨h1, h2, h3, h4, h5, h6⟩ := h
  show _ = some (Xt.exit 4, [PV.sc (.int .i64 (a + sumI (((bytesI s).drop k.toNat).take (n - k).toNat)))], [])
  rw [b24c]
  refine cond_split (fun h => ?_) (fun h => ?_)
  · have h := of_decide_eq_true h
    obtain ⟨x, hx, hc⟩ := bytes_get s k.toNat (by omega)
    have hu := uB x
    rw [hx, drop_cons hc]
    simp only [bindO]
    rw [IntWalk.i64_in (x.toNat : Int) (by omega), IntWalk.i64_in (a + (x.toNat : Int)) (by omega), IntWalk.i64_in (k + 1) (by omega), show (k + 1).toNat = k.toNat + 1 by omega, show (n - k).toNat = (n - (k + 1)).toNat + 1 by omega, List.take_succ_cons, sumI, Int.add_assoc]
    exact guard_split (decide_eq_true h2) (guard_split (decide_eq_true (show (n - (k + 1)).toNat < (n - k).toNat by omega)) (guard_split (bp_mk ⟨h1, by omega, by omega, h4, by omega, by omega⟩) rfl))
  · have h := of_decide_eq_false h
    rw [show (n - k).toNat = 0 by omega, List.take_zero, sumI, Int.add_zero]
theorem in24a : CutOK Tryd.prog Tryd.f24.ntmps (codeAt 2 (bodyF Tryd.f24)) [0, 5, 15, 16] [5] (entC kSa (cSa 2)) :=
  loop_cutW (kill := killA 0 kSa) (T0_ok _) mixed muSa (by kernel_rfl) (noCuts_ok _) fun v h => c24a v.1 v.2.1 v.2.2.1 v.2.2.2.1 (bp_true.1 h)
theorem in24c : CutOK Tryd.prog Tryd.f24.ntmps (codeAt 4 (bodyF Tryd.f24)) [0, 7, 31, 32] [7] (entC kSa (cSa 4)) :=
  loop_cutW (kill := killA 0 kSa) (T0_ok _) mixed muSa (by kernel_rfl) (noCuts_ok _) fun v h => c24c v.1 v.2.1 v.2.2.1 v.2.2.2.1 (bp_true.1 h)
theorem beg_in (s : ByteArray) (i : Nat) : 0 ≤ (1 + sumI ((bytesI s).take i)).tmod 251 ∧ (1 + sumI ((bytesI s).take i)).tmod 251 < 251 := by
  have := sumI_in ((bytesI s).take i) fun x hx => bytes_in s x (List.mem_of_mem_take hx)
  rw [tme (by omega)]; omega
theorem c24b (s : ByteArray) (b i : Int) (h : okSb s b i) : b24bL s b i = pickA (cSb (s, b, i, ())).2 := by
  obtain ⟨h1, h2, h3, h4, h5⟩ := h
  show _ = some (Xt.exit 0, [PV.sc (.int .i64 (b + begS (bytesI s) i.toNat ((s.size : Int) + 1 - i).toNat))], [])
  rw [b24b]
  refine cond_split (fun h => ?_) (fun h => ?_)
  · have h := of_decide_eq_true h
    have hb := beg_in s i.toNat
    rw [show Int.toNat 0 = 0 from rfl, List.drop_zero, Int.sub_zero, IntWalk.i64_in (b + (1 + sumI ((bytesI s).take i.toNat)).tmod 251) (by omega), IntWalk.i64_in (i + 1) (by omega), show ((s.size : Int) + 1 - i).toNat = ((s.size : Int) + 1 - (i + 1)).toNat + 1 by omega, begS, show (i + 1).toNat = i.toNat + 1 by omega, Int.add_assoc]
    exact guard_split (bp_mk ⟨h1, by omega, by omega, by omega, by omega, by omega⟩) (guard_split (decide_eq_true (show ((s.size : Int) + 1 - (i + 1)).toNat < ((s.size : Int) + 1 - i).toNat by omega)) (guard_split (bp_mk ⟨h1, by omega, by omega, by omega, by omega⟩) rfl))
  · have h := of_decide_eq_false h
    rw [show ((s.size : Int) + 1 - i).toNat = 0 by omega, begS, Int.add_zero]
end Go.Proofs.YtokephobkllfgaaDoorRb
