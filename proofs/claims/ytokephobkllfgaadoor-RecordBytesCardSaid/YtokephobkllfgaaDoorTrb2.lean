/- What is proved: what the reference's sum and the trimming of small letters answer. No condition. -/
import Derived.Test.YtokephobkllfgaaDoorTrb1
namespace Go.Proofs.YtokephobkllfgaaDoorRb
open Go Go.Proofs Go.Proofs.YtokephobkllfgaaDoorEv
set_option maxRecDepth 100000
set_option maxHeartbeats 4000000
set_option linter.unusedVariables false
set_option linter.unusedSimpArgs false
theorem in24b : CutOK Tryd.prog Tryd.f24.ntmps (codeAt 0 (bodyF Tryd.f24)) [0, 3, 4] [3] (entC kSb cSb) :=
  loop_cutW (kill := killA 0 kSb) (T0_ok _) mixed muSb (by kernel_rfl) (cutAt (id := 2) (by kernel_rfl) (by kernel_rfl) in24a (noCuts_ok _)) fun v h => c24b v.1 v.2.1 v.2.2.1 (bp_true.1 h)
theorem begS_in (s : ByteArray) : ∀ (c i : Nat), 0 ≤ begS (bytesI s) i c ∧ begS (bytesI s) i c ≤ 251 * (c : Int)
  | 0, i => ⟨by show (0 : Int) ≤ 0; omega, by show (0 : Int) ≤ _; omega⟩
  | c + 1, i => by
    have h1 := beg_in s i
    have h2 := begS_in s c (i + 1)
    rw [begS]; omega
theorem c24 (s : ByteArray) (h : s.size ≤ 140737488355328) : b24L s = some (PV.sc (.int .i64 ((begS (bytesI s) 1 s.size).tmod 241 * 256 + (1 + sumI (bytesI s)).tmod 251)), []) := by
  have hl := bytes_len s
  have h1 := begS_in s s.size 1
  have h2 := sumI_in (bytesI s) (bytes_in s)
  rw [b24, show Int.toNat 0 = 0 from rfl, List.drop_zero, Int.sub_zero, show Int.toNat (s.size : Int) = s.size by omega, List.take_of_length_le (by omega), Int.zero_add, show ((s.size : Int) + 1 - 1).toNat = s.size by omega, show Int.toNat 1 = 1 from rfl]
  have t1 : (begS (bytesI s) 1 s.size).tmod 241 = begS (bytesI s) 1 s.size % 241 := tme h1.1
  have t2 : (1 + sumI (bytesI s)).tmod 251 = (1 + sumI (bytesI s)) % 251 := tme (by omega)
  rw [IntWalk.i64_in ((begS (bytesI s) 1 s.size).tmod 241 * 256) (by omega), IntWalk.i64_in _ (by omega)]
  exact guard_split (bp_mk ⟨h, by omega, by omega, by omega, by omega⟩) (guard_split (bp_mk ⟨h, by omega, by omega, by omega, by omega, by omega⟩) rfl)
/-! ### The set of small letters -/
theorem az_len : azT.length = 256 := by rw [azT_eq]; decide +kernel
theorem az_all : (List.range 256).all (fun c => (ascF (bytesI azS) 26)[c]? == some (lowC (c : Int))) = true := by decide +kernel
theorem az_get (c : Int) (h0 : 0 ≤ c) (h1 : c ≤ 255) : azT[c.toNat]? = some (lowC c) := by
  have := List.all_eq_true.1 az_all c.toNat (by rw [List.mem_range]; omega)
  rw [azT_eq]
  rw [beq_iff_eq, show ((c.toNat : Nat) : Int) = c by omega] at this
  exact this
theorem c72 (c : Int) (h0 : 0 ≤ c) (h1 : c ≤ 255) : b72L azT c = some (PV.sc (.bool (lowC c)), [Blk.row false .bool azT]) := by
  rw [b72, Nat.zero_add, Nat.mul_one, az_get c h0 h1]
  exact guard_split (by simp; omega) rfl
theorem asc_step (i : Nat) (h : i < 26) : ∃ c : UInt8, azS[i]? = some c ∧ c.toNat < 128 ∧ (ascF (bytesI azS) i).length = 256 ∧ ascF (bytesI azS) (i + 1) = (ascF (bytesI azS) i).set c.toNat true := by
  have all : (List.range 26).all (fun i => match azS[i]? with
    | some c => decide (c.toNat < 128) && (decide ((ascF (bytesI azS) i).length = 256) && decide (ascF (bytesI azS) (i + 1) = (ascF (bytesI azS) i).set c.toNat true))
    | none => false) = true := by decide +kernel
  have := List.all_eq_true.1 all i (List.mem_range.2 h)
  split at this
  · rename_i c hc
    rw [Bool.and_eq_true, Bool.and_eq_true, decide_eq_true_eq, decide_eq_true_eq, decide_eq_true_eq] at this
    exact ⟨c, hc, this.1, this.2.1, this.2.2⟩
  · cases this
theorem c59a (s : ByteArray) (l : List Bool) (i : Int) (b : Bool) (h : okMk s l i) : b59aL s l i b = pickA (cMk (s, l, i, b, ())).2 := by
  obtain ⟨rfl, h1, h2, rfl⟩ := h
  show _ = some (Xt.exit 0, [PV.sc (.bool b)], [Blk.row true .bool azT])
  rw [b59a]
  have hz : azS.size = 26 := rfl
  refine cond_split (fun h => ?_) (fun h => ?_)
  · have h := of_decide_eq_true h
    obtain ⟨c, hc, h3, h4, h5⟩ := asc_step i.toNat (by omega)
    obtain ⟨x, hx⟩ := get_ex (l := ascF (bytesI azS) i.toNat) (k := c.toNat) (by omega)
    rw [hc]
    simp only [bindO]
    rw [decide_eq_false (show ¬ (c.toNat : Int) ≥ 128 by omega), Int.toNat_natCast, Nat.zero_add, Nat.mul_one, hx, IntWalk.i64_in (i + 1) (by omega), ← h5]
    refine guard_split (decide_eq_true h1) (guard_split (by simp; omega) (guard_split (decide_eq_true (show (26 - (i + 1)).toNat < (26 - i).toNat by omega)) (guard_split (bp_mk ⟨rfl, by omega, by omega, by rw [show (i + 1).toNat = i.toNat + 1 by omega]⟩) rfl)))
  · have h := of_decide_eq_false h
    rw [azT_eq, show i.toNat = 26 by omega]
theorem in59 : CutOK Tryd.prog Tryd.f59.ntmps (codeAt 0 (bodyF Tryd.f59)) [0, 2, 4, 3] [3] (entC kMk cMk) :=
  loop_cutW (kill := killA 0 kMk) (T0_ok _) mixed muMk (by kernel_rfl) (noCuts_ok _) fun v h => c59a v.1 v.2.1 v.2.2.1 v.2.2.2.1 (bp_true.1 h)
theorem R0_ok : TableOK Tryd.prog R0 :=
  ext_ok (entV_ok Tryd.call39 (liftV (T0_ok _) mixed Tryd.func39 (show Tryd.f39.body = some (bodyF Tryd.f39) from rfl) (noCuts_ok _) (by decide) fun v _ => c39 v.1 v.2.1 v.2.2.1)) <|
  ext_ok (entV_ok Tryd.call23 (liftV (T0_ok _) mixed Tryd.func23 (show Tryd.f23.body = some (bodyF Tryd.f23) from rfl) (cut_cons (by kernel_rfl) in23 (noCuts_ok _)) (by decide) fun v h => c23 v.1 (bp_true.1 h))) <|
  ext_ok (entV_ok Tryd.call24 (liftV (T0_ok _) mixed Tryd.func24 (show Tryd.f24.body = some (bodyF Tryd.f24) from rfl) (cut_cons (by kernel_rfl) in24b (cut_cons (by kernel_rfl) in24c (noCuts_ok _))) (by decide) fun v h => c24 v.1 (bp_true.1 h))) <|
  ext_ok (entV_ok Tryd.call72 (liftV (kill := killA 0 [rA, sC]) (T0_ok _) mixed Tryd.func72 (show Tryd.f72.body = some (bodyF Tryd.f72) from rfl) (noCuts_ok _) (by decide) (by
    rintro ⟨l, c, ⟨⟩⟩ h
    obtain ⟨h1, h2, h3⟩ := bp_true.1 h
    have h1 : l = azT := h1
    subst h1
    exact c72 c h2 h3))) <|
  ext_ok e37 (T0_ok _)
theorem ltrL_sub : ∀ l : List Int, ∀ x ∈ ltrL l, x ∈ l
  | [], x, h => h
  | y :: r, x, h => by
    rw [ltrL] at h
    cases hb : lowC y with
    | true => rw [hb] at h; exact List.mem_cons_of_mem _ (ltrL_sub r x h)
    | false => rw [hb] at h; exact h
theorem ltrS_cons {s t : ByteArray} {x : Int} (h : bytesI s = x :: bytesI t) (hx : lowC x = true) : ltrS s = ltrS t := by
  rw [ltrS_eq, ltrS_eq, h, ltrL, hx]; rfl
theorem ltrS_stop {s : ByteArray} (h : ∀ x r, bytesI s = x :: r → lowC x = false) : ltrS s = s := by
  rw [ltrS_eq]
  have : ltrL (bytesI s) = bytesI s := by
    match hb : bytesI s with
    | [] => rfl
    | x :: r => rw [ltrL, h x r hb]; rfl
  rw [this, str_bytes]
theorem rtrS_snoc {s t : ByteArray} {x : Int} (h : bytesI s = bytesI t ++ [x]) (hx : lowC x = true) : rtrS s = rtrS t := by
  rw [rtrS_eq, rtrS_eq]
  unfold rtrL
  rw [h, List.reverse_append]
  show strOfNums (ltrL (x :: (bytesI t).reverse)).reverse = _
  rw [ltrL, hx]; rfl
theorem rtrS_stop {s : ByteArray} (h : ∀ x r, bytesI s = r ++ [x] → lowC x = false) : rtrS s = s := by
  rw [rtrS_eq]
  have : rtrL (bytesI s) = bytesI s := by
    unfold rtrL
    match hb : (bytesI s).reverse with
    | [] => rw [List.reverse_eq_nil_iff] at hb; rw [hb]; rfl
    | x :: r =>
      have e : bytesI s = r.reverse ++ [x] := by rw [← List.reverse_reverse (bytesI s), hb, List.reverse_cons]
      rw [ltrL, h x r.reverse e, cond_false, ← hb, List.reverse_reverse]
  rw [this, str_bytes]
theorem c60a (s : ByteArray) (h : s.size ≤ 1000) : b60aL s azT = pickA (cTr ltrS (s, azT, ())).2 := by
  show _ = some (Xt.exit 0, [PV.sc (.string (ltrS s))], [Blk.row false .bool azT])
  have hl := bytes_len s
  rw [b60a]
  refine cond_split (fun h => ?_) (fun h => ?_)
  · have h := of_decide_eq_true h
    obtain ⟨x, hx, hc⟩ := bytes_get s 0 (by omega)
    have hu := uB x
    have he : bytesI s = (x.toNat : Int) :: (bytesI s).drop 1 := by
      have := drop_cons hc
      rwa [List.drop_zero] at this
    rw [show Int.toNat 0 = 0 from rfl, hx]
    simp only [bindO]
    refine guard_split (bp_mk ⟨by trivial, hu.1, hu.2⟩) ?_
    cases hb : lowC (x.toNat : Int) with
    | false =>
      rw [ltrS_stop (s := s) (by
        intro y r hy
        rw [he] at hy
        cases hy; exact hb)]; rfl
    | true =>
      have hz : (s.extract (Int.toNat 1) ((s.size : Int)).toNat).size = s.size - 1 := by rw [ByteArray.size_extract]; show min _ _ - 1 = _; omega
      have ht : bytesI s = (x.toNat : Int) :: bytesI (s.extract (Int.toNat 1) ((s.size : Int)).toNat) := by
        rw [bytes_ext, show Int.toNat 1 = 1 from rfl, List.take_of_length_le (by rw [List.length_drop]; omega)]; exact he
      rw [ltrS_cons ht hb]
      simp only [Bool.not_true, cond_false]
      refine guard_split (by simp; omega) (guard_split (decide_eq_true (show (s.extract (Int.toNat 1) ((s.size : Int)).toNat).size < s.size by omega)) (guard_split (bp_mk ⟨by omega, by trivial⟩) rfl))
  · have h := of_decide_eq_false h
    rw [ltrS_stop (s := s) (by
      intro y r hy
      rw [hy] at hl; simp at hl; omega)]
theorem c61a (s : ByteArray) (h : s.size ≤ 1000) : b61aL s azT = pickA (cTr rtrS (s, azT, ())).2 := by
  show _ = some (Xt.exit 0, [PV.sc (.string (rtrS s))], [Blk.row false .bool azT])
  have hl := bytes_len s
  rw [b61a]
  refine cond_split (fun h => ?_) (fun h => ?_)
  · have h := of_decide_eq_true h
    obtain ⟨x, hx, hc⟩ := bytes_get s (s.size - 1) (by omega)
    have hu := uB x
    have he : bytesI s = (bytesI s).take (s.size - 1) ++ [(x.toNat : Int)] := by
      have h1 : (bytesI s).drop (s.size - 1) = [(x.toNat : Int)] := by
        rw [drop_cons hc, List.drop_eq_nil_of_le (by omega)]
      rw [← h1, List.take_append_drop]
    rw [IntWalk.i64_in ((s.size : Int) - 1) (by omega), show ((s.size : Int) - 1).toNat = s.size - 1 by omega, hx]
    simp only [bindO]
    refine guard_split (decide_eq_true (by omega)) (guard_split (bp_mk ⟨by trivial, hu.1, hu.2⟩) ?_)
    cases hb : lowC (x.toNat : Int) with
    | false =>
      rw [rtrS_stop (s := s) (by
        intro y r hy
        rw [he] at hy
        have := (List.append_inj' hy rfl).2
        cases this; exact hb)]; rfl
    | true =>
      have hz : (s.extract (Int.toNat 0) (s.size - 1)).size = s.size - 1 := by rw [ByteArray.size_extract]; show min _ _ - 0 = _; omega
      have ht : bytesI s = bytesI (s.extract (Int.toNat 0) (s.size - 1)) ++ [(x.toNat : Int)] := by
        rw [bytes_ext, show Int.toNat 0 = 0 from rfl, List.drop_zero, Nat.sub_zero]; exact he
      rw [rtrS_snoc ht hb]
      simp only [Bool.not_true, cond_false]
      refine guard_split (by simp; omega) (guard_split (decide_eq_true (show (s.extract (Int.toNat 0) (s.size - 1)).size < s.size by omega)) (guard_split (bp_mk ⟨by omega, by trivial⟩) rfl))
  · have h := of_decide_eq_false h
    rw [rtrS_stop (s := s) (by
      intro y r hy
      rw [hy] at hl; simp at hl; omega)]
theorem in60 : CutOK Tryd.prog Tryd.f60.ntmps (codeAt 0 (bodyF Tryd.f60)) [0, 1] [0] (entC kTr (cTr ltrS)) :=
  loop_cutW (kill := killA 0 kTr) R0_ok mixed muTr (by kernel_rfl) (noCuts_ok _) (by
    rintro ⟨s, l, ⟨⟩⟩ h
    obtain ⟨h1, h2⟩ := bp_true.1 h
    have h2 : l = azT := h2
    subst h2
    exact c60a s h1)
theorem in61 : CutOK Tryd.prog Tryd.f61.ntmps (codeAt 0 (bodyF Tryd.f61)) [0, 1] [0] (entC kTr (cTr rtrS)) :=
  loop_cutW (kill := killA 0 kTr) R0_ok mixed muTr (by kernel_rfl) (noCuts_ok _) (by
    rintro ⟨s, l, ⟨⟩⟩ h
    obtain ⟨h1, h2⟩ := bp_true.1 h
    have h2 : l = azT := h2
    subst h2
    exact c61a s h1)
end Go.Proofs.YtokephobkllfgaaDoorRb
