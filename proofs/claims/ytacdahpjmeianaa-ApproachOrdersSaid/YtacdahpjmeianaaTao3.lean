/- What is laid here: the law ApproachOrders. No condition. -/
import Derived.Test.YtacdahpjmeianaaTao2
namespace Go.Proofs.YtacdahpjmeianaaAs
open Go hiding Item
open Go.Proofs Go.Proofs.YtacdahpjmeianaaEv
set_option maxRecDepth 100000
set_option maxHeartbeats 4000000
noncomputable abbrev o7L (a0 : List (ByteArray × Int × Int × Int)) (a1 : Bool) (a2 : List Int) := evFuncV Try.prog TK noCuts Try.f7 (killA 0 kC) (showA 0 kC ((a0, a1), (a2, ()))).1 (showA 0 kC ((a0, a1), (a2, ()))).2
theorem o7 (a0 : List (ByteArray × Int × Int × Int)) (a1 : Bool) (a2 : List Int) : o7L a0 a1 a2 = (guardB (decide (0 ≤ min (↑a0.length : Int) 5) && decide (min (↑a0.length : Int) 5 ≤ (↑a0.length : Int)))
  (guardB (decide (16 ≤ a2.length))
    (guardB (bif decide (0 + ((min (↑a0.length : Int) 5).toNat - 0) ≤ a0.length) then preL (List.take 16 a2) else false)
      (bif (ordV (List.take ((min (↑a0.length : Int) 5).toNat - 0) a0) (List.take 16 a2)).isSome then
        guardB (decide (16 ≤ a2.length))
          (guardB
            (bif decide (0 + ((min (↑a0.length : Int) 5).toNat - 0) ≤ a0.length) then preL (List.take 16 a2) else false)
            (bif errS (List.take ((min (↑a0.length : Int) 5).toNat - 0) a0) (List.take 16 a2) != 0 then
              bif 0 == errS (List.take ((min (↑a0.length : Int) 5).toNat - 0) a0) (List.take 16 a2) then
                some
                  (PV.sc
                      (Value.bool
                        ((↑((ordV (List.take ((min (↑a0.length : Int) 5).toNat - 0) a0) (List.take 16 a2)).getD
                                  []).length :
                            Int) ==
                          0)),
                    [Blk.row false
                        (Kd.str.pair ((Kd.int IntKind.i64).pair ((Kd.int IntKind.i64).pair (Kd.int IntKind.i64)))) a0])
              else
                some
                  (PV.sc (Value.bool false),
                    [Blk.row false
                        (Kd.str.pair ((Kd.int IntKind.i64).pair ((Kd.int IntKind.i64).pair (Kd.int IntKind.i64)))) a0])
            else
              guardB
                (bp
                  (okL (a0, (min (↑a0.length : Int) 5).toNat - 0, a0.length - 0, false, a1) a2 ∧
                    (↑((min (↑a0.length : Int) 5).toNat - 0) : Int) = (↑((min (↑a0.length : Int) 5).toNat - 0) : Int)))
                (bif (fst35 (a0, (min (↑a0.length : Int) 5).toNat - 0, a0.length - 0, false, a1) a2).isSome then
                  guardB
                    (bif
                        decide
                          (0 +
                              ((ordV (List.take ((min (↑a0.length : Int) 5).toNat - 0) a0) (List.take 16 a2)).getD
                                  []).length ≤
                            ((ordV (List.take ((min (↑a0.length : Int) 5).toNat - 0) a0) (List.take 16 a2)).getD
                                []).length) then
                      bif
                          decide
                            (0 +
                                ((fst35 (a0, (min (↑a0.length : Int) 5).toNat - 0, a0.length - 0, false, a1) a2).getD
                                    []).length ≤
                              ((fst35 (a0, (min (↑a0.length : Int) 5).toNat - 0, a0.length - 0, false, a1) a2).getD
                                  []).length) then
                        preE
                          (List.take
                            ((ordV (List.take ((min (↑a0.length : Int) 5).toNat - 0) a0) (List.take 16 a2)).getD
                                []).length
                            ((ordV (List.take ((min (↑a0.length : Int) 5).toNat - 0) a0) (List.take 16 a2)).getD []))
                      else false
                    else false)
                    (some
                      (PV.sc
                          (Value.bool
                            (decide
                              (List.take
                                  ((ordV (List.take ((min (↑a0.length : Int) 5).toNat - 0) a0) (List.take 16 a2)).getD
                                      []).length
                                  ((ordV (List.take ((min (↑a0.length : Int) 5).toNat - 0) a0) (List.take 16 a2)).getD
                                    []) =
                                List.take
                                  ((fst35 (a0, (min (↑a0.length : Int) 5).toNat - 0, a0.length - 0, false, a1) a2).getD
                                      []).length
                                  ((fst35 (a0, (min (↑a0.length : Int) 5).toNat - 0, a0.length - 0, false, a1) a2).getD
                                    [])))),
                        [Blk.row false
                            (Kd.str.pair ((Kd.int IntKind.i64).pair ((Kd.int IntKind.i64).pair (Kd.int IntKind.i64))))
                            a0]))
                else
                  some
                    (PV.sc (Value.bool false),
                      [Blk.row false
                          (Kd.str.pair ((Kd.int IntKind.i64).pair ((Kd.int IntKind.i64).pair (Kd.int IntKind.i64))))
                          a0]))))
      else
        guardB (decide (16 ≤ a2.length))
          (guardB
            (bif decide (0 + ((min (↑a0.length : Int) 5).toNat - 0) ≤ a0.length) then preL (List.take 16 a2) else false)
            (bif errS (List.take ((min (↑a0.length : Int) 5).toNat - 0) a0) (List.take 16 a2) != 0 then
              bif
                  ordE (List.take ((min (↑a0.length : Int) 5).toNat - 0) a0) (List.take 16 a2) ==
                    errS (List.take ((min (↑a0.length : Int) 5).toNat - 0) a0) (List.take 16 a2) then
                some
                  (PV.sc (Value.bool true),
                    [Blk.row false
                        (Kd.str.pair ((Kd.int IntKind.i64).pair ((Kd.int IntKind.i64).pair (Kd.int IntKind.i64)))) a0])
              else
                some
                  (PV.sc (Value.bool false),
                    [Blk.row false
                        (Kd.str.pair ((Kd.int IntKind.i64).pair ((Kd.int IntKind.i64).pair (Kd.int IntKind.i64)))) a0])
            else
              guardB
                (bp
                  (okL (a0, (min (↑a0.length : Int) 5).toNat - 0, a0.length - 0, false, a1) a2 ∧
                    (↑((min (↑a0.length : Int) 5).toNat - 0) : Int) = (↑((min (↑a0.length : Int) 5).toNat - 0) : Int)))
                (bif (fst35 (a0, (min (↑a0.length : Int) 5).toNat - 0, a0.length - 0, false, a1) a2).isSome then
                  bif ordE (List.take ((min (↑a0.length : Int) 5).toNat - 0) a0) (List.take 16 a2) == 0 then
                    guardB
                      (bif
                          decide
                            (0 +
                                ((fst35 (a0, (min (↑a0.length : Int) 5).toNat - 0, a0.length - 0, false, a1) a2).getD
                                    []).length ≤
                              ((fst35 (a0, (min (↑a0.length : Int) 5).toNat - 0, a0.length - 0, false, a1) a2).getD
                                  []).length) then
                        true
                      else false)
                      (some
                        (PV.sc
                            (Value.bool
                              (decide
                                ([] =
                                  List.take
                                    ((fst35 (a0, (min (↑a0.length : Int) 5).toNat - 0, a0.length - 0, false, a1)
                                            a2).getD
                                        []).length
                                    ((fst35 (a0, (min (↑a0.length : Int) 5).toNat - 0, a0.length - 0, false, a1)
                                          a2).getD
                                      [])))),
                          [Blk.row false
                              (Kd.str.pair ((Kd.int IntKind.i64).pair ((Kd.int IntKind.i64).pair (Kd.int IntKind.i64))))
                              a0]))
                  else
                    some
                      (PV.sc (Value.bool false),
                        [Blk.row false
                            (Kd.str.pair ((Kd.int IntKind.i64).pair ((Kd.int IntKind.i64).pair (Kd.int IntKind.i64))))
                            a0])
                else
                  bif ordE (List.take ((min (↑a0.length : Int) 5).toNat - 0) a0) (List.take 16 a2) == 8 then
                    some
                      (PV.sc (Value.bool true),
                        [Blk.row false
                            (Kd.str.pair ((Kd.int IntKind.i64).pair ((Kd.int IntKind.i64).pair (Kd.int IntKind.i64))))
                            a0])
                  else
                    some
                      (PV.sc (Value.bool false),
                        [Blk.row false
                            (Kd.str.pair ((Kd.int IntKind.i64).pair ((Kd.int IntKind.i64).pair (Kd.int IntKind.i64))))
                            a0])))))))) := by kernel_rfl
theorem fst_ord {l : List Item} {m lo : Nat} {f nl : Bool} {g : List Int} (h1 : m ≤ l.length) (h2 : m ≤ 5) (h0 : m ≠ 0) (he : errS (l.take m) g = 0) : ordV (l.take m) g = fst35 (l, m, lo, f, nl) g := by
  have hl : (l.take m).length = m := by rw [List.length_take]; omega
  unfold ordV
  rw [decide_eq_true he, decide_eq_true (show (l.take m).length ≤ 6 by omega), decide_eq_true (show (l.take m).length ≠ 0 by omega)]
  show srchA (l.take m) g 7 [] [] = _
  rw [srch_find (l.take m) g 7 [] [] rfl rfl, hl, prm_ok m h2]; rfl
theorem fst_len {l : List Item} {m lo : Nat} {f nl : Bool} {g r : List Int} (h2 : m ≤ 5) (h : fst35 (l, m, lo, f, nl) g = some r) : r.length = m := (step_ok h2 (List.mem_of_find?_eq_some h)).1
theorem p7 (l : List Item) (nl : Bool) (g : List Int) (hg : g.length = 16) : ∃ H', o7L l nl g = some (PV.sc (.bool true), H') := by
  rw [o7, take16 hg]
  simp only [Nat.sub_zero, Nat.zero_add]
  generalize hm : (min (l.length : Int) 5).toNat = m
  have hb : (decide (0 ≤ min (l.length : Int) 5) && decide (min (l.length : Int) 5 ≤ (l.length : Int))) = true := by simp; omega
  have hml : m ≤ l.length := by omega
  have hm5 : m ≤ 5 := by omega
  have hL : preL g = true := decide_eq_true hg
  have hg16 : decide (16 ≤ g.length) = true := decide_eq_true (by omega)
  have hl : (l.take m).length = m := by rw [List.length_take]; omega
  rw [hb, decide_eq_true hml, hL, hg16]
  by_cases he : errS (l.take m) g = 0
  · have hbp : bp (okL (l, m, l.length, false, nl) g ∧ True) = true := bp_mk ⟨⟨hm5, hml, hg, he⟩, trivial⟩
    rw [hbp, he]
    by_cases h0 : m = 0
    · subst h0
      have h1 : ordV (l.take 0) g = none := by
        unfold ordV
        rw [decide_eq_false (show ¬ (l.take 0).length ≠ 0 by omega), Bool.and_false, Bool.and_false]; rfl
      have h2 : ordE (l.take 0) g = 0 := by
        unfold ordE
        rw [decide_eq_true he, decide_eq_true (show (l.take 0).length ≤ 6 by omega), decide_eq_true hl]; rfl
      have h3 : fst35 (l, 0, l.length, false, nl) g = some [] := rfl
      simp only [h1, h2, h3]
      exact ⟨_, rfl⟩
    · have h1 := fst_ord (lo := l.length) (f := false) (nl := nl) hml hm5 h0 he
      have h2 : ordE (l.take m) g = 8 := by
        unfold ordE
        rw [decide_eq_true he, decide_eq_true (show (l.take m).length ≤ 6 by omega), decide_eq_false (show ¬ (l.take m).length = 0 by omega)]; rfl
      simp only [h1, h2]
      cases hf : fst35 (l, m, l.length, false, nl) g with
      | none => exact ⟨_, rfl⟩
      | some r =>
        have hr := fst_len hm5 hf
        have hE : preE r = true := decide_eq_true (by omega)
        simp only [Option.getD_some, List.take_length, len_true, cond_true, hE, decide_true]
        exact ⟨_, rfl⟩
  · have h1 : ordV (l.take m) g = none := by
      unfold ordV; rw [decide_eq_false he, Bool.false_and]; rfl
    have h2 : ordE (l.take m) g = errS (l.take m) g := by
      unfold ordE; rw [decide_eq_false he]; rfl
    simp only [h1, h2]
    have h3 : (errS (l.take m) g != 0) = true := by simpa using he
    have h4 : (errS (l.take m) g == errS (l.take m) g) = true := by simp
    simp only [h3, h4]
    exact ⟨_, rfl⟩
theorem lawOK (v : denA [(.s (.ro (Kd.pair Kd.str (Kd.pair (Kd.int .i64) (Kd.pair (Kd.int .i64) (Kd.int .i64)))))), (.s (.ar (Kd.int .i64) 16))]) (h : (gSlice (k := (Kd.pair Kd.str (Kd.pair (Kd.int .i64) (Kd.pair (Kd.int .i64) (Kd.int .i64))))) 40 (both gStr (both (gInt .i64) (both (gInt .i64) (gInt .i64))))) v.1 ∧ (fun x : List (Kd.den (Kd.int .i64)) => x.length = 16 ∧ ∀ y ∈ x, (gInt .i64) y) v.2.1 ∧ True) : ∃ H', CallOK Try.prog 7 (showA 0 [(.s (.ro (Kd.pair Kd.str (Kd.pair (Kd.int .i64) (Kd.pair (Kd.int .i64) (Kd.int .i64)))))), (.s (.ar (Kd.int .i64) 16))] v).1 (showA 0 [(.s (.ro (Kd.pair Kd.str (Kd.pair (Kd.int .i64) (Kd.pair (Kd.int .i64) (Kd.int .i64)))))), (.s (.ar (Kd.int .i64) 16))] v).2 (.sc (.bool true)) H' := by
  obtain ⟨_, ⟨h1, _⟩, _⟩ := h
  obtain ⟨H', hH⟩ := p7 v.1.1 v.1.2 v.2.1 h1
  exact ⟨H', evFuncV_sound TK_ok mixed Try.func7 (show Try.f7.body = some (bodyF Try.f7) from rfl) (noCuts_ok _) hH (by rw [showA_len]; decide)⟩
end Go.Proofs.YtacdahpjmeianaaAs
