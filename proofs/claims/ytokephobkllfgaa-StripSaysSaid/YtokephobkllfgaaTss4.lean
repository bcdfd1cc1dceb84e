/- What is proved: Remove, Get of a board. No condition. -/
import Derived.Test.YtokephobkllfgaaTss3
namespace Go.Proofs.YtokephobkllfgaaSs
open Go Go.Proofs Go.Shelf Go.Proofs.YtokephobkllfgaaEv
set_option maxRecDepth 100000
set_option maxHeartbeats 4000000
set_option linter.unusedVariables false
set_option linter.unusedSimpArgs false
theorem q16 (s : ByteArray) (L : List Strip) (n lo : Nat) (fu nl : Bool) (h : okV (L, n, lo, fu, nl) = true) : s16L L n lo fu nl s s 0 0 0 0 0 = pickA (sp16 (s, L, n, lo, fu, nl)).2 := by
  have hv := h
  obtain ⟨rfl, h2, h3⟩ := okV_at h
  rw [s16]
  show _ = cond (remE L s == 0) (some (PV.sc (.int .i64 0), bS (L.eraseIdx (ixC s L).toNat) nl)) (some (PV.sc (.int .i64 (remE L s)), bS L nl))
  unfold remE
  refine guard_split hv (cond_split (fun h => ?_) (fun h => ?_))
  · rw [h]; rfl
  rw [h]
  have h0 := of_decide_eq_false h
  have hb : 0 ≤ ixC s L ∧ ixC s L < (L.length : Int) := by rcases ixC_cases s L with h | h <;> omega
  rw [at_ex hb.1 hb.2]
  refine guard_split (by simp; omega) ?_
  simp only [bindO]
  refine cond_split (fun h => ?_) (fun h => ?_)
  · rw [h]; rfl
  rw [h, IntWalk.i64_in (ixC s L + 1) (by omega)]
  refine guard_split ?_ rfl
  rw [okV_mk _ _ h2, Bool.true_and]
  exact decide_eq_true ⟨rfl, hb⟩
theorem q18 (s : ByteArray) (L : List Strip) (n lo : Nat) (fu nl : Bool) (h : okV (L, n, lo, fu, nl) = true) : s18L L n lo fu nl s s 0 0 0 0 0 = pickA (sp18 (s, L, n, lo, fu, nl)).2 := by
  have hv := h
  obtain ⟨rfl, h2, h3⟩ := okV_at h
  rw [s18]
  show _ = cond (decide (ixC s L < 0)) (some (PV.tup [agS zS, .sc (.int .i64 8)], bS L nl)) (some (PV.tup [agS (atS L (ixC s L)), .sc (.int .i64 0)], bS L nl))
  refine guard_split hv (cond_split (fun h => ?_) (fun h => ?_))
  · rw [h]; rfl
  rw [h]
  have h0 := of_decide_eq_false h
  have hb : 0 ≤ ixC s L ∧ ixC s L < (L.length : Int) := by rcases ixC_cases s L with h | h <;> omega
  rw [at_ex hb.1 hb.2]
  exact guard_split (by simp; omega) rfl
/-! ### slices.Delete of one -/
theorem take_spl {α : Type} (L : List α) (k p : Nat) (ys zs : List α) (h : k + ys.length ≤ L.length) (hp : p = k + ys.length) (hz : p + zs.length ≤ L.length) : (splice (splice L k ys) p zs).take p = L.take k ++ ys := by
  subst hp
  have h1 : (splice L k ys).length = L.length := splice_len L k ys h
  rw [splice, List.take_append_of_le_length (by rw [List.length_take, h1]; omega), List.take_take, Nat.min_self, splice, ← List.append_assoc]
  rw [List.take_append_of_le_length (by rw [List.length_append, List.length_take]; omega), List.take_of_length_le (by rw [List.length_append, List.length_take]; omega)]
abbrev fullS (L : List Strip) (k : Nat) : List Strip := splice (splice L k ((L.drop (k + 1)).take (L.length - (k + 1)))) (L.length - 1) (List.replicate 1 zS)
theorem full_cut (L : List Strip) (k : Nat) (h : k < L.length) : (fullS L k).take (L.length - 1) = L.eraseIdx k := by
  have hl : ((L.drop (k + 1)).take (L.length - (k + 1))).length = L.length - (k + 1) := by rw [List.length_take, List.length_drop]; omega
  rw [fullS, take_spl L k _ _ _ (by omega) (by omega) (by simp; omega), List.eraseIdx_eq_take_drop_succ, List.take_of_length_le (l := L.drop (k + 1)) (by rw [List.length_drop]; omega)]
theorem q17 (i j : Int) (L : List Strip) (n lo : Nat) (fu nl : Bool) (h : (okV (L, n, lo, fu, nl) && pre17 i j L) = true) : s17L L n lo fu nl ⟨#[]⟩ ⟨#[]⟩ 0 0 0 i j = pickA [(true, (PV.sl 1 0 5 (L.length - 1) (L.length - 1) false nl, [Blk.dead, rowS (fullS L i.toNat)]))] := by
  rw [Bool.and_eq_true] at h
  obtain ⟨rfl, h2, h3⟩ := okV_at h.1
  obtain ⟨rfl, h4, h5⟩ := of_decide_eq_true h.2
  obtain ⟨k, rfl⟩ : ∃ k : Nat, i = (k : Int) := ⟨i.toNat, by omega⟩
  have e1 : ((k : Int) + 1).toNat = k + 1 := by omega
  have e2 : k - 0 + (L.length - (k + 1)) = L.length - 1 := by omega
  rw [s17]
  simp only [Int.toNat_natCast, e1, e2, Nat.zero_add, Nat.sub_zero]
  have e2 : k + (L.length - (k + 1)) = L.length - 1 := by omega
  simp only [e2]
  refine guard_split (by simp; omega) ?_
  rw [show ((k : Int) == (k : Int) + 1) = false by simp; omega]
  simp only [cond_false]
  refine guard_split (by simp; omega) (guard_split (by simp; omega) (guard_split ?_ (guard_split ?_ (guard_split ?_ ?_))))
  · simp; omega
  · simp; omega
  · rw [splice_len _ _ _ (by rw [List.length_take, List.length_drop]; omega)]; simp
  · rw [show L.length - (L.length - 1) = 1 by omega]; rfl
theorem nt17 : 3 ≤ Try.f17.ntmps := by decide
theorem e17 : EntOK Try.prog 17 (entF p17 sp17) := by
  refine entF_ok Try.call17 p17_st fun v h r H' hp => ?_
  obtain ⟨i, j, L, n, lo, fu, nl⟩ := v
  have h0 : (okV (L, n, lo, fu, nl) && pre17 i j L) = true := h
  have h1 : CallOK Try.prog 17 (st17 (i, j, L, n, lo, fu, nl)).1 (st17 (i, j, L, n, lo, fu, nl)).2 (PV.sl 1 0 5 (L.length - 1) (L.length - 1) false nl) [Blk.dead, rowS (fullS L i.toNat)] := liftF (xs := (st17 (i, j, L, n, lo, fu, nl)).1) (H := (st17 (i, j, L, n, lo, fu, nl)).2) U5_ok mixed Try.func17 (show Try.f17.body = some (bodyF Try.f17) from rfl) (noCuts_ok _) nt17 (q17 i j L n lo fu nl h0) _ _ rfl
  have h2 := h1.cut 1 (L.length - 1)
  rw [Bool.and_eq_true] at h0
  obtain ⟨rfl, h4, h5⟩ := of_decide_eq_true h0.2
  have hp : some (PV.sl 1 0 5 (L.eraseIdx i.toNat).length (L.eraseIdx i.toNat).length false nl, [Blk.dead, rowS (L.eraseIdx i.toNat)]) = some (r, H') := hp
  obtain ⟨rfl, rfl⟩ := Prod.mk.inj (Option.some.inj hp)
  rw [← full_cut L i.toNat (by omega)]
  have e : ((fullS L i.toNat).take (L.length - 1)).length = L.length - 1 := by rw [full_cut L i.toNat (by omega), List.length_eraseIdx_of_lt (by omega)]
  rw [e]
  exact h2
theorem nt12 : 2 ≤ Try.f12.ntmps := by decide
theorem nt13 : 3 ≤ Try.f13.ntmps := by decide
theorem nt15 : 2 ≤ Try.f15.ntmps := by decide
theorem U6_ok : TableOK Try.prog U6 :=
  ext_ok (orE_ok (entF_ok Try.call12 p12_st fun v h => liftF U5_ok mixed Try.func12 (show Try.f12.body = some (bodyF Try.f12) from rfl) (noCuts_ok _) nt12 (q12 v.1 v.2.1 v.2.2.1 v.2.2.2.1 v.2.2.2.2.1 v.2.2.2.2.2 h))
    (entF_ok Try.call12 p12n_st fun v h => liftF U5_ok mixed Try.func12 (show Try.f12.body = some (bodyF Try.f12) from rfl) (noCuts_ok _) nt12 (q12n v h)))
  (ext_ok (orE_ok (entF_ok Try.call13 p13_st fun v h => liftF U5_ok mixed Try.func13 (show Try.f13.body = some (bodyF Try.f13) from rfl) (noCuts_ok _) nt13 (q13 v.1 v.2.1 v.2.2.1 v.2.2.2.1 v.2.2.2.2.1 v.2.2.2.2.2.1 v.2.2.2.2.2.2 h))
    (entF_ok Try.call13 p13n_st fun v h => liftF U5_ok mixed Try.func13 (show Try.f13.body = some (bodyF Try.f13) from rfl) (noCuts_ok _) nt13 (q13n v.1 v.2)))
  (ext_ok (orE_ok (entF_ok Try.call15 p12_st fun v h => liftF U5_ok mixed Try.func15 (show Try.f15.body = some (bodyF Try.f15) from rfl) (noCuts_ok _) nt15 (q15 v.1 v.2.1 v.2.2.1 v.2.2.2.1 v.2.2.2.2.1 v.2.2.2.2.2 h))
    (entF_ok Try.call15 p12n_st fun v h => liftF U5_ok mixed Try.func15 (show Try.f15.body = some (bodyF Try.f15) from rfl) (noCuts_ok _) nt15 (q15n v h)))
  (ext_ok e17 U5_ok)))
theorem q16n (s : ByteArray) : s16nL [] 0 0 false false s s 0 0 0 0 0 = pickA (sp16n s).2 := by rw [s16n]; rfl
theorem q18n (s : ByteArray) : s18nL [] 0 0 false false s s 0 0 0 0 0 = pickA (sp18n s).2 := by rw [s18n]; rfl
theorem q14n (i j : Int) : s14nL [] 0 0 false false ⟨#[]⟩ ⟨#[]⟩ 0 0 0 i j = pickA (sp14n (i, j)).2 := by
  rw [s14n]
  show _ = some (PV.sc (.int .i64 (bif !inS i 0 3 then 4 else 8)), [])
  exact cond_split (fun h => by rw [h]; rfl) (fun h => by rw [h]; rfl)
/-- The ways between the bays, as a number: where both bays are in range. -/
theorem per_num : ∀ a < 4, ∀ b < 4, perS (Int.ofNat a) (Int.ofNat b) = !((10 * Int.ofNat a + Int.ofNat b != 1) && ((10 * Int.ofNat a + Int.ofNat b != 12) && ((10 * Int.ofNat a + Int.ofNat b != 13) && ((10 * Int.ofNat a + Int.ofNat b != 21) && (10 * Int.ofNat a + Int.ofNat b != 23))))) := by decide
theorem inS_at {n a b : Int} (h : inS n a b = true) : a ≤ n ∧ n ≤ b := by
  unfold inS at h; rw [Bool.and_eq_true] at h
  exact ⟨of_decide_eq_true h.1, of_decide_eq_true h.2⟩
theorem good_at {l : List Strip} {k : Int} (hg : goodS l = true) (h0 : 0 ≤ k) (h : k < (l.length : Int)) : inS (atS l k).2.2.2.2 0 3 = true := by
  obtain ⟨x, hx⟩ := get_ex (l := l) (k := k.toNat) (by omega)
  rw [atS, List.getD, hx]
  exact List.all_eq_true.1 hg x (List.mem_of_getElem? hx)
theorem q14 (i b j : Int) (L : List Strip) (n lo : Nat) (fu nl : Bool) (h : (okV (L, n, lo, fu, nl) && pre14 i L) = true) : s14L L n lo fu nl ⟨#[]⟩ ⟨#[]⟩ 0 0 b i j = pickA (sp14 (i, b, j, L, n, lo, fu, nl)).2 := by
  rw [Bool.and_eq_true] at h
  obtain ⟨rfl, h2, h3⟩ := okV_at h.1
  have h5 := h.2
  unfold pre14 at h5
  rw [Bool.and_eq_true] at h5
  have h4 := of_decide_eq_true h5.1
  rw [s14]
  show _ = cond (mvdE L i b j == 0) (some (PV.sc (.int .i64 0), [rowS (L.set i.toNat (setB (atS L i) b))])) (some (PV.sc (.int .i64 (mvdE L i b j)), [rowS L]))
  unfold mvdE
  refine cond_split (fun h => ?_) (fun h => ?_)
  · rw [h]; rfl
  rw [h]
  have hb : inS b 0 3 = true := by simpa using h
  refine cond_split (fun h => ?_) (fun h => ?_)
  · rw [h]; rfl
  rw [h]
  have h0 : 0 ≤ i := by have := of_decide_eq_false h; omega
  rw [at_ex h0 h4]
  refine guard_split (by simp; omega) ?_
  simp only [bindO]
  have hw : IntWalk.i64_in = IntWalk.i64_in := rfl
  have hg := inS_at (good_at h5.2 h0 h4)
  have hb2 := inS_at hb
  generalize hx : atS L i = x at *
  have e1 : IntKind.i64.wrap (10 * x.2.2.2.2) = 10 * x.2.2.2.2 := IntWalk.i64_in _ (by omega)
  have e2 : IntKind.i64.wrap (10 * x.2.2.2.2 + b) = 10 * x.2.2.2.2 + b := IntWalk.i64_in _ (by omega)
  rw [e1, e2]
  obtain ⟨y1, y2, y3, y4, y⟩ := x
  simp only at hg e1 e2 ⊢
  have hp := per_num y.toNat (by omega) b.toNat (by omega)
  rw [show Int.ofNat y.toNat = y by simp; omega, show Int.ofNat b.toNat = b by simp; omega] at hp
  rw [hp]
  have hgd : (decide (0 ≤ i) && decide (i < (L.length : Int))) = true := by simp; omega
  rw [hgd, Nat.zero_add]
  simp only [guardB, cond_true]
  generalize (10 * y + b != 1) = b1
  generalize (10 * y + b != 12) = b2
  generalize (10 * y + b != 13) = b3
  generalize (10 * y + b != 21) = b4
  generalize (10 * y + b != 23) = b5
  generalize (j == 16) = b6
  cases b1 <;> cases b2 <;> cases b3 <;> cases b4 <;> cases b5 <;> cases b6 <;> rfl
theorem nt16 : 2 ≤ Try.f16.ntmps := by decide
theorem nt18 : 2 ≤ Try.f18.ntmps := by decide
theorem nt14 : 4 ≤ Try.f14.ntmps := by decide
theorem U7_ok : TableOK Try.prog U7 :=
  ext_ok (orE_ok (entF_ok Try.call16 p40_st fun v h => liftF U6_ok mixed Try.func16 (show Try.f16.body = some (bodyF Try.f16) from rfl) (noCuts_ok _) nt16 (q16 v.1 v.2.1 v.2.2.1 v.2.2.2.1 v.2.2.2.2.1 v.2.2.2.2.2 h))
    (entF_ok Try.call16 p40n_st fun v _ => liftF U6_ok mixed Try.func16 (show Try.f16.body = some (bodyF Try.f16) from rfl) (noCuts_ok _) nt16 (q16n v)))
  (ext_ok (orE_ok (entF_ok Try.call18 p40_st fun v h => liftF U6_ok mixed Try.func18 (show Try.f18.body = some (bodyF Try.f18) from rfl) (noCuts_ok _) nt18 (q18 v.1 v.2.1 v.2.2.1 v.2.2.2.1 v.2.2.2.2.1 v.2.2.2.2.2 h))
    (entF_ok Try.call18 p40n_st fun v _ => liftF U6_ok mixed Try.func18 (show Try.f18.body = some (bodyF Try.f18) from rfl) (noCuts_ok _) nt18 (q18n v)))
  (ext_ok (orE_ok (entF_ok Try.call14 p14_st fun v h => liftF U6_ok mixed Try.func14 (show Try.f14.body = some (bodyF Try.f14) from rfl) (noCuts_ok _) nt14 (q14 v.1 v.2.1 v.2.2.1 v.2.2.2.1 v.2.2.2.2.1 v.2.2.2.2.2.1 v.2.2.2.2.2.2.1 v.2.2.2.2.2.2.2 h))
    (entF_ok Try.call14 p14n_st fun v _ => liftF U6_ok mixed Try.func14 (show Try.f14.body = some (bodyF Try.f14) from rfl) (noCuts_ok _) nt14 (q14n v.1 v.2))) U6_ok))
end Go.Proofs.YtokephobkllfgaaSs
