/- What is proved: a board of strips does what a list does (StripSays). No condition. -/
import Derived.Test.YtokephobkllfgaaTss9
namespace Go.Proofs.YtokephobkllfgaaSs
open Go Go.Proofs Go.Proofs.YtokephobkllfgaaEv
set_option maxRecDepth 100000
set_option maxHeartbeats 4000000
set_option linter.unusedVariables false
set_option linter.unusedSimpArgs false
theorem so_len (b : Int) {R : List Strip} (hi : invS R) : (soR b ([], true) R).1.length ≤ R.length := by
  have := (so_sorted b R ([], true) List.Pairwise.nil hi.2).2.length_eq
  rw [this]
  exact List.length_filter_le _ _
theorem end_at (b : Int) (C : List Call) {R : List Strip} (hi : invS R) (hl : R.length ≤ 20) :
    guardB (okV (R, R.length, R.length, false, false)) (guardB (bif decide (R.length ≤ R.length) then decide (R.length ≤ 100) else false)
      (guardB (bif decide ((baR b ([], true) R).1.length ≤ (srtT (baR b ([], true) R).1).length) then (bif decide ((soR b ([], true) R).1.length ≤ (soR b ([], true) R).1.length) then decide ((List.take (baR b ([], true) R).1.length (srtT (baR b ([], true) R).1)).length ≤ 100 ∧ (soR b ([], true) R).1.length ≤ 100) else false) else false)
        (some (PV.sc (.bool (eqL (List.take (baR b ([], true) R).1.length (srtT (baR b ([], true) R).1)) (soR b ([], true) R).1)), [rowC C])))) = some (PV.sc (.bool true), [rowC C]) := by
  have h1 := so_len b hi
  have h2 : (baR b ([], true) R).1.length = (srtT (baR b ([], true) R).1).length := (srt_len _).symm
  rw [h2, List.take_length, bays_eq b hi, eqL_self]
  refine guard_split (okV_mk _ _ (by omega)) (guard_split ?_ (guard_split ?_ rfl))
  · rw [decide_eq_true (Nat.le_refl _)]; exact decide_eq_true (by omega)
  · rw [decide_eq_true (Nat.le_refl _)]; exact decide_eq_true ⟨by omega, by omega⟩
theorem law_at (C : List Call) (nl : Bool) (b : Int) (c : ByteArray) (h : ∀ x ∈ C, okS x.2 = true) (hC : C.length ≤ 10000000000000) : s3L C nl b c = some (PV.sc (.bool true), [rowC C]) := by
  rw [s3]
  have hmin : (min (C.length : Int) 20).toNat - 0 = min C.length 20 := by omega
  rw [hmin]
  refine guard_split (by simp; omega) (guard_split (bp_mk ⟨rfl, by omega, by omega, by omega, by omega, h⟩) ?_)
  have hlen : (restC (C, min C.length 20, C.length - 0, false, nl) 0).length ≤ 20 := by
    show ((C.take (min C.length 20)).drop _).length ≤ 20
    rw [List.length_drop, List.length_take]; omega
  generalize hR : runA (restC (C, min C.length 20, C.length - 0, false, nl) 0) = R
  cases R with
  | none => rfl
  | some R =>
    obtain ⟨hi, hl⟩ := inv_runA _ hR
    simp only [Option.isSome_some, cond_true, Option.getD_some, List.take_length, Nat.zero_add, len_true, show Int.toNat 0 = 0 from rfl, List.drop_zero]
    refine guard_split (okV_mk _ _ (by omega)) (cond_split (fun hk => ?_) (fun hk => ?_))
    · refine guard_split (decide_eq_true (by omega)) ?_
      rw [got_none _ _ (of_decide_eq_true hk), cond_true]
      have := end_at b C hi (by omega)
      simp only [len_true, cond_true] at this
      exact this
    · refine guard_split (decide_eq_true (by omega)) ?_
      rw [got_some hi (of_decide_eq_false hk), cond_true]
      have := end_at b C hi (by omega)
      simp only [len_true, cond_true] at this
      exact this
theorem lawOK (v : denA [(.s (.ro (Kd.pair (Kd.int .i64) (Kd.pair Kd.str (Kd.pair Kd.str (Kd.pair (Kd.int .i64) (Kd.pair (Kd.int .i64) (Kd.int .i64)))))))), (.s (.v ⟨false, (Kd.int .i64)⟩)), (.s (.v ⟨false, Kd.str⟩))]) (h : (gSlice (k := (Kd.pair (Kd.int .i64) (Kd.pair Kd.str (Kd.pair Kd.str (Kd.pair (Kd.int .i64) (Kd.pair (Kd.int .i64) (Kd.int .i64))))))) 64 (both (gInt .i64) (both gStr (both gStr (both (gInt .i64) (both (gInt .i64) (gInt .i64))))))) v.1 ∧ (gInt .i64) v.2.1 ∧ gStr v.2.2.1 ∧ True) : ∃ H', CallOK Try.prog 3 (showA 0 [(.s (.ro (Kd.pair (Kd.int .i64) (Kd.pair Kd.str (Kd.pair Kd.str (Kd.pair (Kd.int .i64) (Kd.pair (Kd.int .i64) (Kd.int .i64)))))))), (.s (.v ⟨false, (Kd.int .i64)⟩)), (.s (.v ⟨false, Kd.str⟩))] v).1 (showA 0 [(.s (.ro (Kd.pair (Kd.int .i64) (Kd.pair Kd.str (Kd.pair Kd.str (Kd.pair (Kd.int .i64) (Kd.pair (Kd.int .i64) (Kd.int .i64)))))))), (.s (.v ⟨false, (Kd.int .i64)⟩)), (.s (.v ⟨false, Kd.str⟩))] v).2 (.sc (.bool true)) H' := by
  obtain ⟨⟨C, nl⟩, b, c, ⟨⟩⟩ := v
  obtain ⟨⟨h1, h2, _⟩, _, _, _⟩ := h
  have h2 : ∀ x ∈ C, okS x.2 = true := fun x hx => by
    obtain ⟨_, g1, g2, _⟩ := h2 x hx
    have g1 : x.2.1.size ≤ 140737488351232 := g1
    have g2 : x.2.2.1.size ≤ 140737488351232 := g2
    exact decide_eq_true ⟨by omega, by omega⟩
  have h1 : C.length * 64 ≤ 140737488351232 := h1
  exact ⟨_, evFuncV_sound U10_ok mixed Try.func3 (show Try.f3.body = some (bodyF Try.f3) from rfl) (cut_cons (by kernel_rfl) in0 (cut_cons (by kernel_rfl) in6 (noCuts_ok _))) (law_at C nl b c h2 (by omega)) (by rw [showA_len]; decide)⟩
end Go.Proofs.YtokephobkllfgaaSs
