/- What is proved: Check, Sum and Encode of a frame return what the reference returns (WireEncodes). No condition. -/
import Derived.Test.YtacdahpjmeianaaTwi6
namespace Go.Proofs.YtacdahpjmeianaaWi
open Go Go.Proofs Go.Proofs.YtacdahpjmeianaaEv Go.Proofs.YtacdahpjmeianaaFl
set_option maxRecDepth 100000
set_option maxHeartbeats 4000000
set_option linter.unusedVariables false
set_option linter.unusedSimpArgs false
noncomputable abbrev w9L (a0 : Int) (a1 : Int) (a2 : List (Int × Int × Int × Int × Int × Int)) (a3 : Bool) (a4 : ByteArray) := evFuncV Try.prog W4 noCuts Try.f9 (killA 0 [aF, sS]) (showA 0 [aF, sS] ((a0, (a1, ((a2, a3), ()))), (a4, ()))).1 (showA 0 [aF, sS] ((a0, (a1, ((a2, a3), ()))), (a4, ()))).2
theorem w9 (a0 : Int) (a1 : Int) (a2 : List (Int × Int × Int × Int × Int × Int)) (a3 : Bool) (a4 : ByteArray) : w9L a0 a1 a2 a3 a4 = (guardB
  (bif decide (0 + a2.length ≤ a2.length) then decide ((List.take a2.length a2).length ≤ 100000000000000) else false)
  (guardB
    (bif decide (0 + a2.length ≤ a2.length) then decide ((List.take a2.length a2).length ≤ 100000000000000) else false)
    (guardB
      (bif decide (0 + a2.length ≤ a2.length) then decide ((List.take a2.length a2).length ≤ 100000000000000)
      else false)
      (bif frmE a0 a1 (List.take a2.length a2) != frmE a0 a1 (List.take a2.length a2) then
        some
          (PV.sc (Value.bool false),
            [Blk.row false
                ((Kd.int IntKind.i64).pair
                  ((Kd.int IntKind.i64).pair
                    ((Kd.int IntKind.i64).pair
                      ((Kd.int IntKind.i64).pair ((Kd.int IntKind.i64).pair (Kd.int IntKind.i64))))))
                a2])
      else
        bif frmE a0 a1 (List.take a2.length a2) != frmE a0 a1 (List.take a2.length a2) then
          some
            (PV.sc (Value.bool false),
              [Blk.row false
                  ((Kd.int IntKind.i64).pair
                    ((Kd.int IntKind.i64).pair
                      ((Kd.int IntKind.i64).pair
                        ((Kd.int IntKind.i64).pair ((Kd.int IntKind.i64).pair (Kd.int IntKind.i64))))))
                  a2])
        else
          bif frmE a0 a1 (List.take a2.length a2) != 0 then
            bif
                !decide
                    ((bif frmE a0 a1 (List.take a2.length a2) == 0 then encS a0 a1 (List.take a2.length a2)
                      else ByteArray.mk #[]) =
                      ByteArray.mk #[]) then
              some
                (PV.sc (Value.bool false),
                  [Blk.row false
                      ((Kd.int IntKind.i64).pair
                        ((Kd.int IntKind.i64).pair
                          ((Kd.int IntKind.i64).pair
                            ((Kd.int IntKind.i64).pair ((Kd.int IntKind.i64).pair (Kd.int IntKind.i64))))))
                      a2])
            else
              bif decide ((↑a4.size : Int) > 3000) then
                guardB (decide (3000 ≤ (↑a4.size : Int)))
                  (guardB (decide ((a4.extract (Int.toNat 0) (Int.toNat 3000)).size ≤ 4000))
                    (guardB (decide ((a4.extract (Int.toNat 0) (Int.toNat 3000)).size ≤ 4000))
                      (bif
                          (sumR 0 0 (bytesI (a4.extract (Int.toNat 0) (Int.toNat 3000)))).snd * 256 +
                              (sumR 0 0 (bytesI (a4.extract (Int.toNat 0) (Int.toNat 3000)))).fst ==
                            (chkR 0 0 (bytesI (a4.extract (Int.toNat 0) (Int.toNat 3000)))).snd.tmod 255 * 256 +
                              (chkR 0 0 (bytesI (a4.extract (Int.toNat 0) (Int.toNat 3000)))).fst.tmod 255 then
                        bif frmE a0 a1 (List.take a2.length a2) != 0 then
                          some
                            (PV.sc (Value.bool true),
                              [Blk.row false
                                  ((Kd.int IntKind.i64).pair
                                    ((Kd.int IntKind.i64).pair
                                      ((Kd.int IntKind.i64).pair
                                        ((Kd.int IntKind.i64).pair ((Kd.int IntKind.i64).pair (Kd.int IntKind.i64))))))
                                  a2])
                        else
                          guardB
                            (bif decide (0 + a2.length ≤ a2.length) then
                              decide ((List.take a2.length a2).length ≤ 100000000000000) &&
                                frmE a0 a1 (List.take a2.length a2) == 0
                            else false)
                            (some
                              (PV.sc
                                  (Value.bool
                                    (decide
                                      ((bif frmE a0 a1 (List.take a2.length a2) == 0 then
                                          encS a0 a1 (List.take a2.length a2)
                                        else ByteArray.mk #[]) =
                                        frmS a0 a1 (List.take a2.length a2)))),
                                [Blk.row false
                                    ((Kd.int IntKind.i64).pair
                                      ((Kd.int IntKind.i64).pair
                                        ((Kd.int IntKind.i64).pair
                                          ((Kd.int IntKind.i64).pair
                                            ((Kd.int IntKind.i64).pair (Kd.int IntKind.i64))))))
                                    a2]))
                      else
                        some
                          (PV.sc (Value.bool false),
                            [Blk.row false
                                ((Kd.int IntKind.i64).pair
                                  ((Kd.int IntKind.i64).pair
                                    ((Kd.int IntKind.i64).pair
                                      ((Kd.int IntKind.i64).pair ((Kd.int IntKind.i64).pair (Kd.int IntKind.i64))))))
                                a2]))))
              else
                guardB (decide (a4.size ≤ 4000))
                  (guardB (decide (a4.size ≤ 4000))
                    (bif
                        (sumR 0 0 (bytesI a4)).snd * 256 + (sumR 0 0 (bytesI a4)).fst ==
                          (chkR 0 0 (bytesI a4)).snd.tmod 255 * 256 + (chkR 0 0 (bytesI a4)).fst.tmod 255 then
                      bif frmE a0 a1 (List.take a2.length a2) != 0 then
                        some
                          (PV.sc (Value.bool true),
                            [Blk.row false
                                ((Kd.int IntKind.i64).pair
                                  ((Kd.int IntKind.i64).pair
                                    ((Kd.int IntKind.i64).pair
                                      ((Kd.int IntKind.i64).pair ((Kd.int IntKind.i64).pair (Kd.int IntKind.i64))))))
                                a2])
                      else
                        guardB
                          (bif decide (0 + a2.length ≤ a2.length) then
                            decide ((List.take a2.length a2).length ≤ 100000000000000) &&
                              frmE a0 a1 (List.take a2.length a2) == 0
                          else false)
                          (some
                            (PV.sc
                                (Value.bool
                                  (decide
                                    ((bif frmE a0 a1 (List.take a2.length a2) == 0 then
                                        encS a0 a1 (List.take a2.length a2)
                                      else ByteArray.mk #[]) =
                                      frmS a0 a1 (List.take a2.length a2)))),
                              [Blk.row false
                                  ((Kd.int IntKind.i64).pair
                                    ((Kd.int IntKind.i64).pair
                                      ((Kd.int IntKind.i64).pair
                                        ((Kd.int IntKind.i64).pair ((Kd.int IntKind.i64).pair (Kd.int IntKind.i64))))))
                                  a2]))
                    else
                      some
                        (PV.sc (Value.bool false),
                          [Blk.row false
                              ((Kd.int IntKind.i64).pair
                                ((Kd.int IntKind.i64).pair
                                  ((Kd.int IntKind.i64).pair
                                    ((Kd.int IntKind.i64).pair ((Kd.int IntKind.i64).pair (Kd.int IntKind.i64))))))
                              a2])))
          else
            bif decide ((↑a4.size : Int) > 3000) then
              guardB (decide (3000 ≤ (↑a4.size : Int)))
                (guardB (decide ((a4.extract (Int.toNat 0) (Int.toNat 3000)).size ≤ 4000))
                  (guardB (decide ((a4.extract (Int.toNat 0) (Int.toNat 3000)).size ≤ 4000))
                    (bif
                        (sumR 0 0 (bytesI (a4.extract (Int.toNat 0) (Int.toNat 3000)))).snd * 256 +
                            (sumR 0 0 (bytesI (a4.extract (Int.toNat 0) (Int.toNat 3000)))).fst ==
                          (chkR 0 0 (bytesI (a4.extract (Int.toNat 0) (Int.toNat 3000)))).snd.tmod 255 * 256 +
                            (chkR 0 0 (bytesI (a4.extract (Int.toNat 0) (Int.toNat 3000)))).fst.tmod 255 then
                      bif frmE a0 a1 (List.take a2.length a2) != 0 then
                        some
                          (PV.sc (Value.bool true),
                            [Blk.row false
                                ((Kd.int IntKind.i64).pair
                                  ((Kd.int IntKind.i64).pair
                                    ((Kd.int IntKind.i64).pair
                                      ((Kd.int IntKind.i64).pair ((Kd.int IntKind.i64).pair (Kd.int IntKind.i64))))))
                                a2])
                      else
                        guardB
                          (bif decide (0 + a2.length ≤ a2.length) then
                            decide ((List.take a2.length a2).length ≤ 100000000000000) &&
                              frmE a0 a1 (List.take a2.length a2) == 0
                          else false)
                          (some
                            (PV.sc
                                (Value.bool
                                  (decide
                                    ((bif frmE a0 a1 (List.take a2.length a2) == 0 then
                                        encS a0 a1 (List.take a2.length a2)
                                      else ByteArray.mk #[]) =
                                      frmS a0 a1 (List.take a2.length a2)))),
                              [Blk.row false
                                  ((Kd.int IntKind.i64).pair
                                    ((Kd.int IntKind.i64).pair
                                      ((Kd.int IntKind.i64).pair
                                        ((Kd.int IntKind.i64).pair ((Kd.int IntKind.i64).pair (Kd.int IntKind.i64))))))
                                  a2]))
                    else
                      some
                        (PV.sc (Value.bool false),
                          [Blk.row false
                              ((Kd.int IntKind.i64).pair
                                ((Kd.int IntKind.i64).pair
                                  ((Kd.int IntKind.i64).pair
                                    ((Kd.int IntKind.i64).pair ((Kd.int IntKind.i64).pair (Kd.int IntKind.i64))))))
                              a2]))))
            else
              guardB (decide (a4.size ≤ 4000))
                (guardB (decide (a4.size ≤ 4000))
                  (bif
                      (sumR 0 0 (bytesI a4)).snd * 256 + (sumR 0 0 (bytesI a4)).fst ==
                        (chkR 0 0 (bytesI a4)).snd.tmod 255 * 256 + (chkR 0 0 (bytesI a4)).fst.tmod 255 then
                    bif frmE a0 a1 (List.take a2.length a2) != 0 then
                      some
                        (PV.sc (Value.bool true),
                          [Blk.row false
                              ((Kd.int IntKind.i64).pair
                                ((Kd.int IntKind.i64).pair
                                  ((Kd.int IntKind.i64).pair
                                    ((Kd.int IntKind.i64).pair ((Kd.int IntKind.i64).pair (Kd.int IntKind.i64))))))
                              a2])
                    else
                      guardB
                        (bif decide (0 + a2.length ≤ a2.length) then
                          decide ((List.take a2.length a2).length ≤ 100000000000000) &&
                            frmE a0 a1 (List.take a2.length a2) == 0
                        else false)
                        (some
                          (PV.sc
                              (Value.bool
                                (decide
                                  ((bif frmE a0 a1 (List.take a2.length a2) == 0 then
                                      encS a0 a1 (List.take a2.length a2)
                                    else ByteArray.mk #[]) =
                                    frmS a0 a1 (List.take a2.length a2)))),
                            [Blk.row false
                                ((Kd.int IntKind.i64).pair
                                  ((Kd.int IntKind.i64).pair
                                    ((Kd.int IntKind.i64).pair
                                      ((Kd.int IntKind.i64).pair ((Kd.int IntKind.i64).pair (Kd.int IntKind.i64))))))
                                a2]))
                  else
                    some
                      (PV.sc (Value.bool false),
                        [Blk.row false
                            ((Kd.int IntKind.i64).pair
                              ((Kd.int IntKind.i64).pair
                                ((Kd.int IntKind.i64).pair
                                  ((Kd.int IntKind.i64).pair ((Kd.int IntKind.i64).pair (Kd.int IntKind.i64))))))
                            a2]))))))) := by kernel_rfl
theorem sums_eq (s : ByteArray) : ((sumR 0 0 (bytesI s)).snd * 256 + (sumR 0 0 (bytesI s)).fst == (chkR 0 0 (bytesI s)).snd.tmod 255 * 256 + (chkR 0 0 (bytesI s)).fst.tmod 255) = true := by
  have := sum_chk2 (bytes_nn s)
  unfold sum2 chk2 at this
  rw [this]; exact beq_self_eq_true _
theorem law_at (r t : Int) (l : List P6) (nl : Bool) (s : ByteArray) (h : l.length ≤ 100000000000000) : w9L r t l nl s = some (PV.sc (.bool true), [Blk.row false kP l]) := by
  rw [w9]
  simp only [List.take_length, Nat.zero_add, len_true, cond_true, Int.toNat_zero, bne_self_eq_false, cond_false, sums_eq]
  rw [decide_eq_true h]
  simp only [guardB, cond_true]
  have hx : (s.extract 0 (Int.toNat 3000)).size ≤ 4000 := by
    rw [ByteArray.size_extract]; show min 3000 _ - 0 ≤ _; omega
  cases hb : (frmE r t l != 0) with
  | true =>
    have e : (frmE r t l == 0) = false := by
      have : frmE r t l ≠ 0 := by simpa using hb
      simpa using this
    simp only [e, cond_false, cond_true, decide_eq_true hx]
    simp only [decT, Bool.not_true, cond_false]
    cases h1 : decide ((s.size : Int) > 3000) with
    | true =>
      have h1 := of_decide_eq_true h1
      rw [decide_eq_true (show (3000 : Int) ≤ (s.size : Int) by omega)]; rfl
    | false =>
      have h1 := of_decide_eq_false h1
      rw [decide_eq_true (show s.size ≤ 4000 by omega)]; rfl
  | false =>
    have e : frmE r t l = 0 := by simpa using hb
    simp only [e, cond_false, cond_true, decide_eq_true hx, enc_frm]
    simp only [show ((0 : Int) == 0) = true from rfl, cond_true, Bool.and_self, decT]
    cases h1 : decide ((s.size : Int) > 3000) with
    | true =>
      have h1 := of_decide_eq_true h1
      rw [decide_eq_true (show (3000 : Int) ≤ (s.size : Int) by omega)]; rfl
    | false =>
      have h1 := of_decide_eq_false h1
      rw [decide_eq_true (show s.size ≤ 4000 by omega)]; rfl
theorem lawOK (v : denA [(.ag [.v ⟨false, (Kd.int .i64)⟩, .v ⟨false, (Kd.int .i64)⟩, .ro (Kd.pair (Kd.int .i64) (Kd.pair (Kd.int .i64) (Kd.pair (Kd.int .i64) (Kd.pair (Kd.int .i64) (Kd.pair (Kd.int .i64) (Kd.int .i64))))))]), (.s (.v ⟨false, Kd.str⟩))]) (h : ((fun y => (gInt .i64) y.1 ∧ (fun y => (gInt .i64) y.1 ∧ (fun y => (gSlice (k := (Kd.pair (Kd.int .i64) (Kd.pair (Kd.int .i64) (Kd.pair (Kd.int .i64) (Kd.pair (Kd.int .i64) (Kd.pair (Kd.int .i64) (Kd.int .i64))))))) 48 (both (gInt .i64) (both (gInt .i64) (both (gInt .i64) (both (gInt .i64) (both (gInt .i64) (gInt .i64))))))) y.1 ∧ (fun _ => True) y.2) y.2) y.2) : denS [.v ⟨false, (Kd.int .i64)⟩, .v ⟨false, (Kd.int .i64)⟩, .ro (Kd.pair (Kd.int .i64) (Kd.pair (Kd.int .i64) (Kd.pair (Kd.int .i64) (Kd.pair (Kd.int .i64) (Kd.pair (Kd.int .i64) (Kd.int .i64))))))] → Prop) v.1 ∧ gStr v.2.1 ∧ True) : ∃ H', CallOK Try.prog 9 (showA 0 [(.ag [.v ⟨false, (Kd.int .i64)⟩, .v ⟨false, (Kd.int .i64)⟩, .ro (Kd.pair (Kd.int .i64) (Kd.pair (Kd.int .i64) (Kd.pair (Kd.int .i64) (Kd.pair (Kd.int .i64) (Kd.pair (Kd.int .i64) (Kd.int .i64))))))]), (.s (.v ⟨false, Kd.str⟩))] v).1 (showA 0 [(.ag [.v ⟨false, (Kd.int .i64)⟩, .v ⟨false, (Kd.int .i64)⟩, .ro (Kd.pair (Kd.int .i64) (Kd.pair (Kd.int .i64) (Kd.pair (Kd.int .i64) (Kd.pair (Kd.int .i64) (Kd.pair (Kd.int .i64) (Kd.int .i64))))))]), (.s (.v ⟨false, Kd.str⟩))] v).2 (.sc (.bool true)) H' := by
  obtain ⟨⟨r, t, ⟨l, nl⟩, ⟨⟩⟩, s, ⟨⟩⟩ := v
  obtain ⟨⟨_, _, ⟨h1, _⟩, _⟩, _⟩ := h
  have h1 : l.length * 48 ≤ 140737488351232 := h1
  exact ⟨_, evFuncV_sound W4_ok mixed Try.func9 (show Try.f9.body = some (bodyF Try.f9) from rfl) (noCuts_ok _) (law_at r t l nl s (by omega)) (by rw [showA_len]; decide)⟩
end Go.Proofs.YtacdahpjmeianaaWi
