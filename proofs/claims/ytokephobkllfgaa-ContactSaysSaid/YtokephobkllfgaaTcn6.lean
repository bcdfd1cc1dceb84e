/- What is proved: a radio does what a list does (ContactSays). No condition. -/
import Derived.Test.YtokephobkllfgaaTcn5
namespace Go.Proofs.YtokephobkllfgaaCn
open Go Go.Proofs Go.Proofs.YtokephobkllfgaaEv Go.Proofs.YtokephobkllfgaaSs
set_option maxRecDepth 100000
set_option maxHeartbeats 4000000
set_option linter.unusedVariables false
set_option linter.unusedSimpArgs false
theorem on_len (f : Int) : ∀ (l : List T3) (o : List ByteArray × Bool), (onR f o l).1.length ≤ o.1.length + l.length
  | [], o => Nat.le_refl _
  | x :: r, o => by
    rw [onR_cons]
    cases x.2.1 == f with
    | true => have := on_len f r (o.1 ++ [x.1], false); simp at this ⊢; omega
    | false => have := on_len f r o; simp at this ⊢; omega
theorem law_at (C : List L4) (nl : Bool) (f t lim : Int) (h : ∀ c ∈ C, c.2.2.2.size ≤ 1000000000000000000) (hC : C.length ≤ 10000000000000) : ∃ M mn l ln, n4L M mn l ln 0 0 0 ⟨#[]⟩ 0 C nl f t lim = some (PV.sc (.bool true), [Blk.row false kL C]) := by
  have hmin : (min (C.length : Int) 20).toNat - 0 = min C.length 20 := by omega
  obtain ⟨i1, i2, i3⟩ := run_inv (restL (C.take (min C.length 20)) ((min C.length 20 : Nat) : Int) 0) (([], true), ([], true)) rel_nil (fun _ => rfl)
  have i4 : (restL (C.take (min C.length 20)) ((min C.length 20 : Nat) : Int) 0).length ≤ 20 := by
    unfold restL
    rw [List.length_drop, List.length_take, List.length_take]; omega
  generalize hs : runC (([], true), ([], true)) (restL (C.take (min C.length 20)) ((min C.length 20 : Nat) : Int) 0) = s at i1 i2 i3
  obtain ⟨⟨M, mn⟩, ⟨l, ln⟩⟩ := s
  have i1 : relT M l := i1
  have i2 : mn = true → M = [] := i2
  have hM : M.length ≤ 20 := by
    have i3 : M.length ≤ 0 + (restL (C.take (min C.length 20)) ((min C.length 20 : Nat) : Int) 0).length := i3
    omega
  have hll : l.length = M.length := i1.1.length_eq.symm
  refine ⟨M, mn, l, ln, ?_⟩
  rw [n4, hmin]
  refine guard_split (by simp; omega) (guard_split ?_ (guard_split ?_ ?_))
  · rw [decide_eq_true (show 0 + min C.length 20 ≤ C.length by omega), cond_true]
    have hl : (C.take (min C.length 20)).length = min C.length 20 := by rw [List.length_take]; omega
    exact bp_mk ⟨bp_mk ⟨rel_nil, by show ((0 : Nat) : Int) ≤ 0; omega, by show ((min C.length 20 : Nat) : Int) = ((C.take (min C.length 20)).length : Int); rw [hl], by show ((min C.length 20 : Nat) : Int) ≤ ((C.take (min C.length 20)).length : Int); rw [hl]; omega, by show (0 : Int) ≤ 0; omega, by show (0 : Int) ≤ ((min C.length 20 : Nat) : Int); omega, by show ((min C.length 20 : Nat) : Int) ≤ 20; omega, fun c hc => h c (List.mem_of_mem_take hc)⟩, hs⟩
  · rw [decide_eq_true (show l.length = l.length from rfl), cond_true]; exact decide_eq_true (by omega)
  have hok := i1.2.2
  have d1 : decide (M.length ≤ 100) = true := decide_eq_true (by omega)
  have p1 : preOn ([] : List ByteArray) M (M.length : Int) 0 = true := preOn_mk rfl (by omega) (by omega) (by omega) (by simp)
  have d2 : (decide (M.length ≤ 20) && okT M) = true := by rw [hok, Bool.and_true]; exact decide_eq_true hM
  have e1 : isoT ((losR t lim ([], true) M).1.length - 1) 1 (losR t lim ([], true) M).1 = (lostR t lim M).1 := rfl
  have hlo : (lostR t lim M).1.length ≤ 20 := by
    have h1 : (lostR t lim M).1.length = (losR t lim ([], true) M).1.length := iso_len _ _ _
    have h2 := los_len t lim M
    omega
  have hon := on_len f M ([], true)
  have d3 : decide ((onR f ([], true) M).1.length ≤ 100 ∧ (onR f ([], true) M).1.length ≤ 100) = true := by
    simp only [List.length_nil] at hon
    exact decide_eq_true ⟨by omega, by omega⟩
  have d4 : decide (M.length ≤ 100 ∧ M.length ≤ 100) = true := decide_eq_true ⟨by omega, by omega⟩
  have d5 : decide (([] : List T3).length ≤ 100 ∧ M.length ≤ 100) = true := decide_eq_true ⟨by simp, by omega⟩
  have d6 : decide ((lostR t lim M).1.length ≤ 100 ∧ ([] : List T3).length ≤ 100) = true := decide_eq_true ⟨by omega, by simp⟩
  have dm : mn = true → eqTs [] M = true := fun h => by rw [i2 h]; rfl
  simp only [srt_end i1, hll, List.take_length, Nat.zero_add, len_true, cond_true, p1, d1, d2, show Int.toNat 0 = 0 from rfl, List.drop_zero, eqTs_self, eqWs_self, e1, d3, d4, d5, d6, guardB]
  have tail : ∀ X : Option (PV × List Blk), (bif mn then (bif eqTs [] M then X else some (PV.sc (.bool false), [Blk.row false kL C])) else X) = X := by
    intro X
    cases mn with
    | false => rfl
    | true => rw [dm rfl]; rfl
  simp only [tail]
  have none' : ¬ (0 ≤ t ∧ t ≤ 200000 ∧ 0 ≤ lim) → eqTs (lostR t lim M).1 [] = true := fun h => by rw [lost_none h]; rfl
  refine cond_split (fun ht => ?_) (fun ht => ?_)
  · have ht := inS_at ht
    refine cond_split (fun hl => ?_) (fun hl => ?_)
    · have hl := of_decide_eq_true hl
      rw [IntWalk.i64_in (t + 1) (by omega), show t + 1 - 0 = t + 1 by omega, ← lost_end hok ht.1 ht.2 hl, eqTs_self]
      have p2 : preI7 t lim M [] (t + 1) 0 = true := decide_eq_true ⟨ht.1, ht.2, hl, rfl, by omega, by omega, by omega, by simp⟩
      rw [p2, decide_eq_true (show (lostR t lim M).1.length ≤ 100 ∧ (lostR t lim M).1.length ≤ 100 from ⟨by omega, by omega⟩)]
      rfl
    · have hl := of_decide_eq_false hl
      rw [none' (by omega)]
  · rw [none' (fun h => by rw [inS_mk ⟨h.1, h.2.1⟩] at ht; cases ht)]
theorem lawOK (v : denA [(.s (.ro (Kd.pair (Kd.int .i64) (Kd.pair (Kd.int .i64) (Kd.pair (Kd.int .i64) Kd.str))))), (.s (.v ⟨false, (Kd.int .i64)⟩)), (.s (.v ⟨false, (Kd.int .i64)⟩)), (.s (.v ⟨false, (Kd.int .i64)⟩))]) (h : (gSlice (k := (Kd.pair (Kd.int .i64) (Kd.pair (Kd.int .i64) (Kd.pair (Kd.int .i64) Kd.str)))) 40 (both (gInt .i64) (both (gInt .i64) (both (gInt .i64) gStr)))) v.1 ∧ (gInt .i64) v.2.1 ∧ (gInt .i64) v.2.2.1 ∧ (gInt .i64) v.2.2.2.1 ∧ True) : ∃ H', CallOK Try.prog 4 (showA 0 [(.s (.ro (Kd.pair (Kd.int .i64) (Kd.pair (Kd.int .i64) (Kd.pair (Kd.int .i64) Kd.str))))), (.s (.v ⟨false, (Kd.int .i64)⟩)), (.s (.v ⟨false, (Kd.int .i64)⟩)), (.s (.v ⟨false, (Kd.int .i64)⟩))] v).1 (showA 0 [(.s (.ro (Kd.pair (Kd.int .i64) (Kd.pair (Kd.int .i64) (Kd.pair (Kd.int .i64) Kd.str))))), (.s (.v ⟨false, (Kd.int .i64)⟩)), (.s (.v ⟨false, (Kd.int .i64)⟩)), (.s (.v ⟨false, (Kd.int .i64)⟩))] v).2 (.sc (.bool true)) H' := by
  obtain ⟨⟨C, nl⟩, f, t, lim, ⟨⟩⟩ := v
  obtain ⟨⟨h1, h2, _⟩, _, _, _⟩ := h
  have h2 : ∀ c ∈ C, c.2.2.2.size ≤ 1000000000000000000 := fun c hc => by
    obtain ⟨_, _, _, g1⟩ := h2 c hc
    have g1 : c.2.2.2.size ≤ 140737488351232 := g1
    omega
  have hC : C.length ≤ 10000000000000 := by
    have h1 : C.length * 40 ≤ 140737488351232 := h1
    omega
  obtain ⟨M, mn, l, ln, hh⟩ := law_at C nl f t lim h2 hC
  exact ⟨_, evFuncV_sound C5_ok mixed Try.func4 (show Try.f4.body = some (bodyF Try.f4) from rfl) (cut_cons (by kernel_rfl) (in0K ((M, mn), (l, ln))) (cut_cons (by kernel_rfl) in5 (cut_cons (by kernel_rfl) in7 (noCuts_ok _)))) hh (by rw [showA_len]; decide)⟩
end Go.Proofs.YtokephobkllfgaaCn
