/- What is proved: what Encode and the reference's encoding of a frame answer. No condition. -/
import Derived.Test.YtacdahpjmeianaaTwi5
namespace Go.Proofs.YtacdahpjmeianaaWi
open Go Go.Proofs Go.Proofs.YtacdahpjmeianaaEv Go.Proofs.YtacdahpjmeianaaFl
set_option maxRecDepth 100000
set_option maxHeartbeats 4000000
set_option linter.unusedVariables false
set_option linter.unusedSimpArgs false
theorem decEq {α : Type} (l : List α) : decide (l.length = l.length) = true := by simp
theorem putB_len (n k : Int) : (putB n k).length = k.toNat := by rw [putB_eq, putL_len]
theorem in_of {n a b : Int} (h : inS n a b = true) : a ≤ n ∧ n ≤ b := by
  unfold inS at h
  rw [Bool.and_eq_true, decide_eq_true_eq, decide_eq_true_eq] at h
  omega
theorem pE_in {p : P6} (h : (pE p == 0) = true) : (0 ≤ p.1 ∧ p.1 ≤ 255) ∧ (0 ≤ p.2.1 ∧ p.2.1 ≤ 200000) ∧ (0 ≤ p.2.2.1 ∧ p.2.2.1 ≤ 2000000) ∧ (0 ≤ p.2.2.2.1 ∧ p.2.2.2.1 ≤ 4095) ∧ (0 ≤ p.2.2.2.2.1 ∧ p.2.2.2.2.1 ≤ 60000) ∧ -1 ≤ p.2.2.2.2.2 ∧ p.2.2.2.2.2 ≤ 4095 := by
  unfold pE at h
  cases hb : (inS p.1 0 255 && (inS p.2.1 0 200000 && (inS p.2.2.1 0 2000000 && (inS p.2.2.2.1 0 4095 && (inS p.2.2.2.2.1 0 60000 && inS p.2.2.2.2.2 (-1) 4095))))) with
  | false => rw [hb] at h; cases h
  | true =>
    simp only [Bool.and_eq_true] at hb
    obtain ⟨h1, h2, h3, h4, h5, h6⟩ := hb
    exact ⟨in_of h1, in_of h2, in_of h3, in_of h4, in_of h5, in_of h6⟩
theorem okP_at {l : List P6} {k : Nat} {x : P6} (h : okP l = true) (hx : l[k]? = some x) : (pE x == 0) = true := by
  unfold okP at h
  exact List.all_eq_true.1 h x (List.mem_of_getElem? hx)
theorem fbits_lt {n : Int} (h0 : 0 ≤ n) (h1 : n ≤ 2000000) : fbits n < 9223372036854775808 := by
  rcases fbits_ok h0 h1 with h | ⟨L, K, h⟩
  · rw [h]; decide
  · exact at_lt h
theorem plt_eq (a : List Int) (x : P6) (r : List Int) : a ++ putB (fbits x.2.2.1) 8 ++ putB x.2.2.2.1 2 ++ putB x.2.2.2.2.1 4 ++ putB (x.2.2.2.2.2 + 1) 2 ++ r = a ++ (pltB x ++ r) := by
  unfold pltB
  simp only [putB_eq, List.append_assoc]
  rfl
theorem plt_len (x : P6) : (pltB x).length = 16 := by
  unfold pltB
  simp only [List.length_append, putL_len]
theorem q51a (acc : List Int) (an : Bool) (l : List P6) (nl : Bool) (n k : Int) (h : preCk l n k = true ∧ okP l = true ∧ (acc.length : Int) ≤ 1000 + 16 * k) : w51aL acc an l nl n k = pickA (cEn ((acc, an), (l, nl), n, k, ())).2 := by
  obtain ⟨hp, ho, hl⟩ := h
  obtain ⟨g1, g2, g3, g4⟩ := of_decide_eq_true hp
  show _ = some (Xt.exit 0, [PV.sl 2 0 1 (acc ++ (l.drop k.toNat).flatMap pltB).length (acc ++ (l.drop k.toNat).flatMap pltB).length false (bif decide (k < n) then false else an)], [Blk.dead, Blk.row false kP l, Blk.row true (.int .u8) (acc ++ (l.drop k.toNat).flatMap pltB)])
  rw [w51a]
  refine cond_split (fun h => ?_) (fun h => ?_)
  · rw [h]
    have h := of_decide_eq_true h
    obtain ⟨x, hx⟩ := get_ex (l := l) (k := k.toNat) (by omega)
    obtain ⟨p1, p2, p3, p4, p5, p6⟩ := pE_in (okP_at ho hx)
    rw [drop_cons hx, Nat.zero_add, hx, List.flatMap_cons, ← plt_eq]
    simp only [bindO]
    rw [u64_in (n := x.2.2.2.1) (by omega) (by omega), u64_in (n := x.2.2.2.2.1) (by omega) (by omega), IntWalk.i64_in (x.2.2.2.2.2 + 1) (by omega), u64_in (n := x.2.2.2.2.2 + 1) (by omega) (by omega), IntWalk.i64_in (k + 1) (by omega), show (k + 1).toNat = k.toNat + 1 by omega]
    have l1 : (acc ++ putB (fbits x.2.2.1) 8).length = acc.length + 8 := by rw [List.length_append, putB_len]; rfl
    have l2 : (acc ++ putB (fbits x.2.2.1) 8 ++ putB x.2.2.2.1 2).length = acc.length + 10 := by rw [List.length_append, putB_len, l1]; rfl
    have l3 : (acc ++ putB (fbits x.2.2.1) 8 ++ putB x.2.2.2.1 2 ++ putB x.2.2.2.2.1 4).length = acc.length + 14 := by rw [List.length_append, putB_len, l2]; rfl
    have l4 : (acc ++ putB (fbits x.2.2.1) 8 ++ putB x.2.2.2.1 2 ++ putB x.2.2.2.2.1 4 ++ putB (x.2.2.2.2.2 + 1) 2).length = acc.length + 16 := by rw [List.length_append, putB_len, l3]; rfl
    generalize acc ++ putB (fbits x.2.2.1) 8 ++ putB x.2.2.2.1 2 ++ putB x.2.2.2.2.1 4 ++ putB (x.2.2.2.2.2 + 1) 2 = a4 at *
    generalize acc ++ putB (fbits x.2.2.1) 8 ++ putB x.2.2.2.1 2 ++ putB x.2.2.2.2.1 4 = a3 at *
    generalize acc ++ putB (fbits x.2.2.1) 8 ++ putB x.2.2.2.1 2 = a2 at *
    generalize acc ++ putB (fbits x.2.2.1) 8 = a1 at *
    simp only [decEq, cond_true, List.take_length, Nat.zero_add, len_true, putB_len, List.length_append] at *
    have hb := fbits_lt p3.1 p3.2
    refine guard_split (by simp; omega) (guard_split (decide_eq_true ⟨p3.1, p3.2, by trivial⟩) (guard_split (decide_eq_true ⟨by omega, by omega, by omega, by omega⟩) (guard_split ?_ (guard_split ?_ (guard_split ?_ (guard_split (decide_eq_true (show (n - (k + 1)).toNat < (n - k).toNat by omega)) (guard_split ?_ ?_)))))))
    · rw [decide_eq_true (by first | trivial | (rw [l1]; rfl))]; exact decide_eq_true ⟨by omega, by omega, by omega, by omega⟩
    · rw [decide_eq_true (by first | trivial | (rw [l2]; rfl))]; exact decide_eq_true ⟨by omega, by omega, by omega, by omega⟩
    · rw [decide_eq_true (by first | trivial | (rw [l3]; rfl))]; exact decide_eq_true ⟨by omega, by omega, by omega, by omega⟩
    · rw [decide_eq_true (by first | trivial | (rw [l4]; rfl))]
      rw [show preCk l n (k + 1) = true from decide_eq_true (by omega), ho]
      exact decide_eq_true (by omega)
    · cases decide (k + 1 < n) <;> rfl
  · rw [h]
    have h := of_decide_eq_false h
    rw [List.drop_eq_nil_of_le (by omega), List.flatMap_nil, List.append_nil]; rfl
theorem in51 : CutOK Try.prog Try.f51.ntmps (codeAt 0 (bodyF Try.f51)) [5, 34, 35, 36] [5] (entC kEn cEn) :=
  loop_cutW (kill := killA 0 kEn) W3_ok mixed muEn (by kernel_rfl) (noCuts_ok _) fun v h => q51a v.1.1 v.1.2 v.2.1.1 v.2.1.2 v.2.2.1 v.2.2.2.1 (by
    obtain ⟨h1, h2⟩ := Bool.and_eq_true_iff.1 h
    obtain ⟨h2, h3⟩ := Bool.and_eq_true_iff.1 h2
    exact ⟨h1, h2, of_decide_eq_true h3⟩)
theorem pltE_zero {r t : Int} {p : P6} (h : pltE r t p = 0) (hr : inS r 0 255 = true) (ht : inS t 0 200000 = true) : pE p = 0 := by
  unfold pltE at h
  cases h1 : (p.1 != r) with
  | true => rw [h1] at h; cases h
  | false => cases h2 : (p.2.1 != t) with
    | true => rw [h1, h2] at h; cases h
    | false =>
      have e1 : p.1 = r := by simpa using h1
      have e2 : p.2.1 = t := by simpa using h2
      rw [h1, h2] at h
      unfold pE
      rw [e1, e2, hr, ht]
      revert h
      generalize inS p.2.2.1 0 2000000 = b3, inS p.2.2.2.1 0 4095 = b4, inS p.2.2.2.2.1 0 60000 = b5, inS p.2.2.2.2.2 (-1) 4095 = b6
      cases b3 <;> cases b4 <;> cases b5 <;> cases b6 <;> simp
theorem pltsE_zero {r t : Int} (hr : inS r 0 255 = true) (ht : inS t 0 200000 = true) : ∀ {l : List P6}, pltsE r t l = 0 → okP l = true
  | [], _ => rfl
  | p :: l, h => by
    rw [pltsE] at h
    cases hb : (pltE r t p != 0) with
    | true => rw [hb] at h; simp only [cond_true] at h; rw [h] at hb; cases hb
    | false =>
      rw [hb] at h
      have e : pltE r t p = 0 := by simpa using hb
      have := pltsE_zero hr ht (l := l) h
      unfold okP at this ⊢
      rw [List.all_cons, pltE_zero e hr ht, this]; rfl
theorem frmE_zero {r t : Int} {l : List P6} (h : frmE r t l = 0) : l.length ≤ 32 ∧ (0 ≤ r ∧ r ≤ 255) ∧ (0 ≤ t ∧ t ≤ 200000) ∧ okP l = true := by
  unfold frmE at h
  cases h1 : decide ((l.length : Int) > 32) with
  | true => rw [h1] at h; cases h
  | false => cases h2 : inS r 0 255 with
    | false => rw [h1, h2] at h; cases h
    | true => cases h3 : inS t 0 200000 with
      | false => rw [h1, h2, h3] at h; cases h
      | true =>
        rw [h1, h2, h3] at h
        have := of_decide_eq_false h1
        exact ⟨by omega, in_of h2, in_of h3, pltsE_zero h2 h3 h⟩
theorem hd_eq (r t : Int) (l : List P6) : [83, 87, byteAt r 0] ++ putB t 4 ++ putB (l.length : Int) 2 = hdB r t l := by
  unfold hdB
  rw [putB_eq, putB_eq]
  show _ = [83, 87] ++ (byteAt r 0 :: [] ++ _)
  simp only [List.append_assoc]
  rfl
theorem hd_len (r t : Int) (l : List P6) : (hdB r t l).length = 9 := by
  unfold hdB
  simp only [List.length_append, putL_len]; rfl
theorem fm_len : ∀ l : List P6, (l.flatMap pltB).length = 16 * l.length
  | [] => rfl
  | x :: l => by rw [List.flatMap_cons, List.length_append, plt_len, fm_len l, List.length_cons]; omega
theorem fr_len (r t : Int) (l : List P6) : (frB r t l).length = 9 + 16 * l.length := by
  unfold frB
  rw [List.length_append, hd_len, fm_len]
theorem sum2_in {s : List Int} (h : ∀ x ∈ s, 0 ≤ x) : 0 ≤ sum2 s ∧ sum2 s ≤ 65535 := by
  obtain ⟨⟨h1, h2⟩, h3, h4⟩ := sumR_in s 0 0 h (by omega) (by omega) (by omega) (by omega)
  unfold sum2; omega
theorem bytes_nn (s : ByteArray) : ∀ x ∈ bytesI s, 0 ≤ x := fun x hx => (bytes_in s x hx).1
noncomputable abbrev rEn (r t : Int) (l : List P6) : ByteArray := bif frmE r t l == 0 then encS r t l else ByteArray.mk #[]
theorem q51 (r t : Int) (l : List P6) (nl : Bool) (h : l.length ≤ 100000000000000) : w51L r t l nl = some (PV.tup [PV.sc (.string (rEn r t l)), PV.sc (.int .i64 (frmE r t l))], [Blk.row false kP l]) := by
  rw [w51]
  simp only [List.take_length, Nat.zero_add, len_true, cond_true, decEq, List.drop_zero, Int.toNat_zero]
  refine guard_split (decide_eq_true h) ?_
  cases hb : (frmE r t l != 0) with
  | true =>
    have e : (frmE r t l == 0) = false := by
      have : frmE r t l ≠ 0 := by simpa using hb
      simpa using this
    unfold rEn
    rw [e]; rfl
  | false =>
    have e : frmE r t l = 0 := by simpa using hb
    obtain ⟨h1, ⟨h2, h3⟩, ⟨h4, h5⟩, h6⟩ := frmE_zero e
    unfold rEn
    rw [e]
    simp only [cond_false]
    rw [u64_in h2 (by omega), u64_in h4 (by omega), u64_in (n := (l.length : Int)) (by omega) (by omega), hd_eq]
    have hh := hd_len r t l
    have hf : (hdB r t l ++ List.flatMap pltB l).length = 9 + 16 * l.length := fr_len r t l
    change _ = some (PV.tup [PV.sc (.string (encS r t l)), PV.sc (.int .i64 0)], [Blk.row false kP l])
    unfold encS
    rw [show frB r t l = hdB r t l ++ List.flatMap pltB l from rfl]
    have hs := sum2_in (bytes_nn (strOfNums (hdB r t l ++ List.flatMap pltB l)))
    have e2 : (sumR 0 0 (bytesI (strOfNums (hdB r t l ++ List.flatMap pltB l)))).snd * 256 + (sumR 0 0 (bytesI (strOfNums (hdB r t l ++ List.flatMap pltB l)))).fst = sum2 (bytesI (strOfNums (hdB r t l ++ List.flatMap pltB l))) := rfl
    have e3 : putL (sum2 (bytesI (strOfNums (hdB r t l ++ List.flatMap pltB l)))) 2 = putB (sum2 (bytesI (strOfNums (hdB r t l ++ List.flatMap pltB l)))) 2 := (putB_eq (sum2 (bytesI (strOfNums (hdB r t l ++ List.flatMap pltB l)))) 2).symm
    rw [e2, e3, u64_in hs.1 (by omega)]
    have hz : (strOfNums (hdB r t l ++ List.flatMap pltB l)).size = 9 + 16 * l.length := by rw [str_size, hf]
    refine guard_split (decide_eq_true ⟨h4, by omega, by omega, by show 3 ≤ 100000; decide⟩) (guard_split ?_ (guard_split ?_ (guard_split rfl (guard_split (decide_eq_true (by omega)) (guard_split ?_ (guard_split rfl rfl))))))
    · rw [decT]; refine decide_eq_true ⟨by omega, by omega, by omega, ?_⟩
      rw [List.length_append, putB_len]; show 3 + 4 ≤ 100000; decide
    · rw [decT, h6, show preCk l (l.length : Int) 0 = true from decide_eq_true (by omega)]
      show decide (((hdB r t l).length : Int) ≤ 1000 + 16 * 0) = true
      exact decide_eq_true (by omega)
    · rw [decT]; exact decide_eq_true ⟨hs.1, by omega, by omega, by omega⟩
theorem fr_in (r t : Int) (l : List P6) : ∀ x ∈ frB r t l, 0 ≤ x ∧ x ≤ 255 := by
  have hp : ∀ l : List P6, ∀ x ∈ l.flatMap pltB, 0 ≤ x ∧ x ≤ 255 := by
    intro l x hx
    obtain ⟨p, _, hx⟩ := List.mem_flatMap.1 hx
    unfold pltB at hx
    simp only [List.mem_append] at hx
    rcases hx with h | h | h | h <;> exact putL_in _ _ x h
  intro x hx
  unfold frB hdB at hx
  simp only [List.mem_append] at hx
  rcases hx with (h | h | h | h) | h
  · simp at h; omega
  · exact putL_in _ _ x h
  · exact putL_in _ _ x h
  · exact putL_in _ _ x h
  · exact hp l x h
theorem frS_eq (r t : Int) (l : List P6) : ByteArray.mk #[83, 87] ++ bytS r 1 ++ bytS t 4 ++ bytS (l.length : Int) 2 ++ strOfNums (l.flatMap pltB) = strOfNums (frB r t l) := by
  unfold frB hdB bytS
  rw [show ByteArray.mk #[83, 87] = strOfNums [83, 87] from rfl, ← str_app, ← str_app, ← str_app, ← str_app]
  simp only [List.append_assoc]
  rfl
theorem pltS_eq (a : ByteArray) (x : P6) (r : List Int) : a ++ (bytS (fbits x.2.2.1) 8 ++ bytS x.2.2.2.1 2 ++ bytS x.2.2.2.2.1 4 ++ bytS (x.2.2.2.2.2 + 1) 2) ++ strOfNums r = a ++ strOfNums (pltB x ++ r) := by
  unfold pltB bytS
  rw [← str_app, ← str_app, ← str_app, ByteArray.append_assoc, ← str_app]
  simp only [List.append_assoc]
  rfl
theorem bytS_len (n k : Int) : (bytS n k).size = k.toNat := by unfold bytS; rw [str_size, putL_len]
theorem ba_size (a b : ByteArray) : (a ++ b).size = a.size + b.size := ByteArray.size_append
theorem q56a (acc : ByteArray) (l : List P6) (nl : Bool) (n k : Int) (h : preCk l n k = true ∧ okP l = true ∧ (acc.size : Int) ≤ 1000 + 16 * k) : w56aL acc l nl n k = pickA (cFr (acc, (l, nl), n, k, ())).2 := by
  obtain ⟨hp, ho, hl⟩ := h
  obtain ⟨g1, g2, g3, g4⟩ := of_decide_eq_true hp
  show _ = some (Xt.exit 0, [PV.sc (.string (acc ++ strOfNums ((l.drop k.toNat).flatMap pltB)))], [Blk.row false kP l])
  rw [w56a]
  refine cond_split (fun h => ?_) (fun h => ?_)
  · have h := of_decide_eq_true h
    obtain ⟨x, hx⟩ := get_ex (l := l) (k := k.toNat) (by omega)
    obtain ⟨p1, p2, p3, p4, p5, p6⟩ := pE_in (okP_at ho hx)
    rw [drop_cons hx, Nat.zero_add, hx, List.flatMap_cons, ← pltS_eq]
    simp only [bindO]
    rw [u64_in (n := x.2.2.2.1) (by omega) (by omega), u64_in (n := x.2.2.2.2.1) (by omega) (by omega), IntWalk.i64_in (x.2.2.2.2.2 + 1) (by omega), u64_in (n := x.2.2.2.2.2 + 1) (by omega) (by omega), IntWalk.i64_in (k + 1) (by omega), show (k + 1).toNat = k.toNat + 1 by omega]
    have hb := fbits_lt p3.1 p3.2
    unfold fbits at hb ⊢
    have hz : (bytS (FloatKind.f64.nearest x.2.2.1 : Int) 8 ++ bytS x.2.2.2.1 2 ++ bytS x.2.2.2.2.1 4 ++ bytS (x.2.2.2.2.2 + 1) 2).size = 16 := by
      simp only [ba_size, bytS_len]; rfl
    generalize bytS (FloatKind.f64.nearest x.2.2.1 : Int) 8 ++ bytS x.2.2.2.1 2 ++ bytS x.2.2.2.2.1 4 ++ bytS (x.2.2.2.2.2 + 1) 2 = a4 at *
    refine guard_split (by simp; omega) (guard_split (bp_mk ⟨by omega, by omega, by omega, by decide, by omega⟩) (guard_split (bp_mk ⟨by omega, by omega, by omega, by decide, by omega⟩) (guard_split (bp_mk ⟨by omega, by omega, by omega, by decide, by omega⟩) (guard_split (bp_mk ⟨by omega, by omega, by omega, by decide, by omega⟩) (guard_split (Nat.ble_eq_true_of_le (by omega)) (guard_split (decide_eq_true (show (n - (k + 1)).toNat < (n - k).toNat by omega)) (guard_split ?_ ?_)))))))
    · simp only [List.take_length, Nat.zero_add, len_true, cond_true]
      rw [show preCk l n (k + 1) = true from decide_eq_true (by omega), ho]
      exact decide_eq_true (by rw [ba_size]; omega)
    · rw [List.take_length]
  · have h := of_decide_eq_false h
    rw [List.drop_eq_nil_of_le (by omega), List.flatMap_nil, show strOfNums [] = ByteArray.empty from rfl, ByteArray.append_empty]
theorem in56 : CutOK Try.prog Try.f56.ntmps (codeAt 0 (bodyF Try.f56)) [3, 23, 24, 25] [3] (entC kFr cFr) :=
  loop_cutW (kill := killA 0 kFr) W3_ok mixed muFr (by kernel_rfl) (noCuts_ok _) fun v h => q56a v.1 v.2.1.1 v.2.1.2 v.2.2.1 v.2.2.2.1 (by
    obtain ⟨h1, h2⟩ := Bool.and_eq_true_iff.1 h
    obtain ⟨h2, h3⟩ := Bool.and_eq_true_iff.1 h2
    exact ⟨h1, h2, of_decide_eq_true h3⟩)
theorem chk2_in {s : List Int} (h : ∀ x ∈ s, 0 ≤ x ∧ x ≤ 255) (hl : s.length ≤ 4000) : 0 ≤ chk2 s ∧ chk2 s ≤ 65535 := by
  obtain ⟨⟨h1, h2⟩, h3, h4⟩ := chkR_in s 0 0 h hl (by omega) (by omega)
  have t1 := tm h1
  have t2 := tm h3
  unfold chk2; omega
theorem q56 (r t : Int) (l : List P6) (nl : Bool) (h : l.length ≤ 100000000000000 ∧ frmE r t l = 0) : w56L r t l nl = some (PV.sc (.string (frmS r t l)), [Blk.row false kP l]) := by
  obtain ⟨h1, ⟨h2, h3⟩, ⟨h4, h5⟩, h6⟩ := frmE_zero h.2
  rw [w56]
  simp only [List.take_length, Nat.zero_add, len_true, cond_true, List.drop_zero, Int.toNat_zero]
  rw [u64_in h2 (by omega), u64_in h4 (by omega), u64_in (n := (l.length : Int)) (by omega) (by omega), frS_eq]
  have hz : (strOfNums (frB r t l)).size = 9 + 16 * l.length := by rw [str_size, fr_len]
  have hs := chk2_in (s := bytesI (strOfNums (frB r t l))) (bytes_in _) (by rw [bytes_len, hz]; omega)
  have e2 : (chkR 0 0 (bytesI (strOfNums (frB r t l)))).snd.tmod 255 * 256 + (chkR 0 0 (bytesI (strOfNums (frB r t l)))).fst.tmod 255 = chk2 (bytesI (strOfNums (frB r t l))) := rfl
  rw [e2, u64_in hs.1 (by omega)]
  refine guard_split (bp_mk ⟨by omega, by omega, by omega, by decide, by omega⟩) (guard_split (bp_mk ⟨by omega, by omega, by omega, by decide, by omega⟩) (guard_split (bp_mk ⟨by omega, by omega, by omega, by decide, by omega⟩) (guard_split ?_ (guard_split (decide_eq_true (by omega)) (guard_split (bp_mk ⟨by omega, by omega, by omega, by decide, by omega⟩) (guard_split (Nat.ble_eq_true_of_le (by rw [bytS_len, hz]; show _ + 2 ≤ _; omega)) ?_))))))
  · rw [h6, show preCk l (l.length : Int) 0 = true from decide_eq_true (by omega)]; rfl
  · unfold frmS bytS
    rw [str_app]; rfl
theorem W4_ok : TableOK Try.prog W4 :=
  ext_ok (entV_ok Try.call51 (liftV W3_ok mixed Try.func51 (show Try.f51.body = some (bodyF Try.f51) from rfl) (cut_cons (by kernel_rfl) in51 (noCuts_ok _)) (by decide) fun v h => q51 v.1.1 v.1.2.1 v.1.2.2.1.1 v.1.2.2.1.2 (of_decide_eq_true h))) <|
  ext_ok (entV_ok Try.call56 (liftV W3_ok mixed Try.func56 (show Try.f56.body = some (bodyF Try.f56) from rfl) (cut_cons (by kernel_rfl) in56 (noCuts_ok _)) (by decide) fun v h => q56 v.1.1 v.1.2.1 v.1.2.2.1.1 v.1.2.2.1.2 (by
    obtain ⟨h1, h2⟩ := Bool.and_eq_true_iff.1 h
    exact ⟨of_decide_eq_true h1, eq_of_beq h2⟩))) W3_ok
/-- The two encodings of a frame are one. -/
theorem enc_frm (r t : Int) (l : List P6) : encS r t l = frmS r t l := by
  unfold encS frmS
  rw [sum_chk2 (bytes_nn _)]
end Go.Proofs.YtacdahpjmeianaaWi
