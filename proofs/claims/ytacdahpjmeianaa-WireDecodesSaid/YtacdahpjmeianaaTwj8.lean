/- What is proved: a frame's bytes are those that were read exactly if each plot's range is its float's, and then both readers agree. No program is named. No condition but the bytes' bounds. -/
import Derived.Test.YtacdahpjmeianaaTwj7
namespace Go.Proofs.YtacdahpjmeianaaWi
open Go Go.Proofs Go.Proofs.YtacdahpjmeianaaEv Go.Proofs.YtacdahpjmeianaaFl
set_option maxRecDepth 100000
set_option maxHeartbeats 4000000
set_option linter.unusedVariables false
set_option linter.unusedSimpArgs false
def B8 (l : List Int) : Prop := ∀ x ∈ l, 0 ≤ x ∧ x ≤ 255
theorem numL_app : ∀ (l m : List Int) (n : Int), numL n (l ++ m) = numL (numL n l) m
  | [], m, n => rfl
  | x :: r, m, n => by rw [List.cons_append, numL, numL, numL_app r m]
/-- The bytes of a number that was read are those that it was read from. -/
theorem put_num : ∀ (k : Nat) (l : List Int), l.length = k → B8 l → k ≤ 8 → putL (numL 0 l) k = l
  | 0, l, hl, _, _ => by rw [List.length_eq_zero_iff.1 hl]; rfl
  | k + 1, l, hl, hb, hk => by
    obtain ⟨m, x, rfl⟩ : ∃ m x, l = m ++ [x] := ⟨l.dropLast, l.getLast (by intro e; rw [e] at hl; simp at hl), (List.dropLast_concat_getLast _).symm⟩
    have hm : m.length = k := by simpa using hl
    have hx := hb x (by simp)
    have hb2 : B8 m := fun y hy => hb y (List.mem_append_left _ hy)
    have hn := (numL_in m 0 hb2 (by omega)).1
    rw [numL_app]
    show putL (numL 0 m * 256 + x) (k + 1) = _
    rw [putL_div k _ (by omega) (by omega), show (numL 0 m * 256 + x) / 256 = numL 0 m by omega, show (numL 0 m * 256 + x) % 256 = x by omega, put_num k m hm hb2 (by omega)]
theorem num_put : ∀ (k : Nat) (n : Int), 0 ≤ n → n < 256 ^ k → k ≤ 8 → numL 0 (putL n k) = n
  | 0, n, h0, h1, _ => by
    rw [Int.pow_zero] at h1
    show (0 : Int) = n
    omega
  | k + 1, n, h0, h1, hk => by
    rw [Int.pow_succ] at h1
    rw [putL_div k n h0 (by omega), numL_app, num_put k (n / 256) (by omega) (by omega) (by omega)]
    show n / 256 * 256 + n % 256 = n
    omega
abbrev seg (s : ByteArray) (a k : Nat) : List Int := ((bytesI s).drop a).take k
theorem seg_b (s : ByteArray) (a k : Nat) : B8 (seg s a k) := fun x hx => bytes_in s x (List.mem_of_mem_drop (List.mem_of_mem_take hx))
theorem seg_len (s : ByteArray) (a k : Nat) (h : a + k ≤ s.size) : (seg s a k).length = k := by
  rw [List.length_take, List.length_drop, bytes_len]; omega
theorem seg_add (s : ByteArray) (a j k : Nat) : seg s a (j + k) = seg s a j ++ seg s (a + j) k := by
  show ((bytesI s).drop a).take (j + k) = ((bytesI s).drop a).take j ++ ((bytesI s).drop (a + j)).take k
  rw [List.take_add, List.drop_drop]
theorem getN_seg (s : ByteArray) (a k : Nat) : getN s (a : Int) (k : Int) = numL 0 (seg s a k) := by rw [getN_eq, Int.toNat_natCast, Int.toNat_natCast]
theorem put_get (s : ByteArray) (a k : Nat) (h : a + k ≤ s.size) (hk : k ≤ 8) : putL (getN s (a : Int) (k : Int)) k = seg s a k := by
  rw [getN_seg]; exact put_num k _ (seg_len s a k h) (seg_b s a k) hk
theorem put_inj {m n : Int} (h0 : 0 ≤ m) (h1 : m < 18446744073709551616) (g0 : 0 ≤ n) (g1 : n < 18446744073709551616) (h : putL m 8 = putL n 8) : m = n := by
  have e1 := num_put 8 m h0 h1 (by omega)
  have e2 := num_put 8 n g0 g1 (by omega)
  rw [h, e2] at e1
  exact e1.symm
theorem fR_in (s : ByteArray) (a : Int) (h : fO s a = true) : 0 ≤ fR s a ∧ fR s a ≤ 2000000 := by
  unfold fO at h
  rw [Bool.and_eq_true] at h
  obtain ⟨n, e, h0, h1⟩ := flt_ok _ h.1 h.2
  unfold fR
  rw [e]; exact ⟨h0, h1⟩
/-- One plot's bytes. -/
theorem plt_seg (s : ByteArray) (a : Nat) (r t : Int) (h : a + 16 ≤ s.size) (hf : fO s (a : Int) = true) :
    (pltB (fP s (a : Int) r t) = seg s a 16 ↔ (fbits (fR s (a : Int)) : Int) = getN s (a : Int) 8) := by
  have e1 : putL (getN s ((a : Int) + 8) 2) 2 = seg s (a + 8) 2 := put_get s (a + 8) 2 (by omega) (by omega)
  have e2 : putL (getN s ((a : Int) + 10) 4) 4 = seg s (a + 10) 4 := put_get s (a + 10) 4 (by omega) (by omega)
  have e3 : putL (getN s ((a : Int) + 14) 2 - 1 + 1) 2 = seg s (a + 14) 2 := by
    rw [Int.sub_add_cancel]; exact put_get s (a + 14) 2 (by omega) (by omega)
  have e0 : putL (getN s (a : Int) 8) 8 = seg s a 8 := put_get s a 8 (by omega) (by omega)
  have es : seg s a 16 = seg s a 8 ++ (seg s (a + 8) 2 ++ (seg s (a + 10) 4 ++ seg s (a + 14) 2)) := by
    rw [show (16 : Nat) = 8 + (2 + (4 + 2)) by rfl, seg_add, seg_add, seg_add]
  have ep : pltB (fP s (a : Int) r t) = putL (fbits (fR s (a : Int))) 8 ++ (seg s (a + 8) 2 ++ (seg s (a + 10) 4 ++ seg s (a + 14) 2)) := by
    unfold pltB fP
    simp only []
    rw [e1, e2, e3]
  have hr := fR_in s a hf
  have hb := fbits_lt hr.1 hr.2
  have g8 := getN_in (s := s) (a := (a : Int)) (k := 8)
  rw [ep, es]
  constructor
  · intro h2
    have h3 : putL (fbits (fR s (a : Int))) 8 = seg s a 8 := (List.append_inj h2 (by rw [putL_len, seg_len s a 8 (by omega)])).1
    rw [← e0] at h3
    have hn := numL_in (seg s a 8) 0 (seg_b s a 8) (by omega)
    rw [seg_len s a 8 (by omega)] at hn
    have e8 : getN s (a : Int) 8 = numL 0 (seg s a 8) := getN_seg s a 8
    refine put_inj (by omega) (by omega) (by rw [e8]; exact hn.1) (by rw [e8]; have := hn.2; omega) h3
  · intro h2
    rw [h2, e0]
theorem flT_len (s : ByteArray) (r t : Int) : ∀ (c : Nat) (i : Int), flO s i c = true → (flT s r t i c).length = c
  | 0, i, _ => rfl
  | c + 1, i, h => by
    rw [flO, Bool.and_eq_true] at h
    rw [flT, h.1, cond_true, List.length_cons, flT_len s r t c (i + 1) h.2]
/-- The plots, one after the other. -/
theorem plots_seg (s : ByteArray) (r t : Int) : ∀ (c : Nat) (i : Nat), s.size ≤ 140737488355328 → 9 + 16 * (i + c) ≤ s.size →
    (plsO s r t (i : Int) c = true ↔ flO s (i : Int) c = true ∧ pltsE r t (flT s r t (i : Int) c) = 0 ∧ (flT s r t (i : Int) c).flatMap pltB = seg s (9 + 16 * i) (16 * c)) ∧
    (plsO s r t (i : Int) c = true → plsT s r t (i : Int) c = flT s r t (i : Int) c)
  | 0, i, _, _ => ⟨⟨fun _ => ⟨rfl, rfl, by rw [flT]; simp⟩, fun _ => rfl⟩, fun _ => rfl⟩
  | c + 1, i, hz, hs => by
    obtain ⟨ih1, ih2⟩ := plots_seg s r t c (i + 1) hz (by omega)
    have ea : (9 : Int) + (i : Int) * 16 = ((9 + 16 * i : Nat) : Int) := by omega
    have eb : (9 : Int) + 16 * (i : Int) = ((9 + 16 * i : Nat) : Int) := by omega
    obtain ⟨o1, o2⟩ := one_plot s ((9 + 16 * i : Nat) : Int) r t ⟨hz, by omega, by omega, by omega, by omega⟩
    rw [plsO, plsT, flO, flT, ea, eb, show ((i : Int) + 1) = ((i + 1 : Nat) : Int) by omega]
    have es : seg s (9 + 16 * i) (16 * (c + 1)) = seg s (9 + 16 * i) 16 ++ seg s (9 + 16 * (i + 1)) (16 * c) := by
      rw [show 16 * (c + 1) = 16 + 16 * c by omega, seg_add, show 9 + 16 * i + 16 = 9 + 16 * (i + 1) by omega]
    rw [es]
    constructor
    · rw [Bool.and_eq_true, Bool.and_eq_true]
      constructor
      · rintro ⟨h1, h2⟩
        obtain ⟨j1, j2, j3⟩ := ih1.1 h2
        rw [o1] at h1
        simp only [Bool.and_eq_true, beq_iff_eq] at h1
        obtain ⟨k1, k2, k3⟩ := h1
        refine ⟨⟨k1, j1⟩, ?_, ?_⟩
        · rw [k1, cond_true, pltsE, k3]; simp only [bne_self_eq_false, cond_false]; exact j2
        · rw [k1, cond_true, List.flatMap_cons, j3, (plt_seg s _ r t (by omega) k1).2 k2]
      · rintro ⟨⟨k1, j1⟩, h2, h3⟩
        rw [k1, cond_true, pltsE] at h2
        rw [k1, cond_true, List.flatMap_cons] at h3
        cases hb : (pltE r t (fP s ((9 + 16 * i : Nat) : Int) r t) != 0) with
        | true => rw [hb, cond_true] at h2; rw [h2] at hb; cases hb
        | false =>
          rw [hb, cond_false] at h2
          have k3 : pltE r t (fP s ((9 + 16 * i : Nat) : Int) r t) = 0 := by simpa using hb
          obtain ⟨h4, h5⟩ := List.append_inj h3 (by rw [plt_len, seg_len s _ 16 (by omega)])
          have k2 := (plt_seg s _ r t (by omega) k1).1 h4
          refine ⟨?_, ih1.2 ⟨j1, h2, h5⟩⟩
          rw [o1, k1, k2, k3]; simp
    · rw [Bool.and_eq_true]
      rintro ⟨h1, h2⟩
      have h3 := o1
      rw [h1] at h3
      have k1 : fO s ((9 + 16 * i : Nat) : Int) = true := by
        cases hb : fO s ((9 + 16 * i : Nat) : Int) with
        | true => rfl
        | false => rw [hb] at h3; cases h3
      rw [h1, k1, cond_true, cond_true, o2 h1, ih2 h2]
theorem swP_take {l : List Int} (h : swP l = true) (hl : 2 ≤ l.length) : l.take 2 = [83, 87] := by
  match l, hl with
  | [], hl => simp at hl
  | [x], hl => simp at hl
  | x :: y :: r, _ =>
    have h : (x == 83 && y == 87) = true := h
    rw [Bool.and_eq_true, beq_iff_eq, beq_iff_eq] at h
    rw [h.1, h.2]; rfl
/-- Both readers agree. -/
theorem both (s : ByteArray) (hz : s.size ≤ 140737488355328) (hsw : swP (bytesI s) = true) (h9 : 9 ≤ s.size) (ht : tI s ≤ 200000) (hm : mI s ≤ 32) (hn : nI s + 2 ≤ (s.size : Int)) (hs : getN s (nI s) 2 = sum2 ((bytesI s).take (nI s).toNat)) :
    (plsO s (rI s) (tI s) 0 (mI s).toNat = true ↔ flO s 0 (mI s).toNat = true ∧ frmE (rI s) (tI s) (flT s (rI s) (tI s) 0 (mI s).toNat) = 0 ∧ frmS (rI s) (tI s) (flT s (rI s) (tI s) 0 (mI s).toNat) = s.extract 0 (nI s + 2).toNat) ∧
    (plsO s (rI s) (tI s) 0 (mI s).toNat = true → decL s = flT s (rI s) (tI s) 0 (mI s).toNat) := by
  have g1 : okG s 2 1 := ⟨hz, by omega, by omega, by omega, by omega⟩
  have g2 : okG s 3 4 := ⟨hz, by omega, by omega, by omega, by omega⟩
  have g3 : okG s 7 2 := ⟨hz, by omega, by omega, by omega, by omega⟩
  have i1 : 0 ≤ rI s ∧ rI s < 256 := getN1 g1
  have i2 : 0 ≤ tI s ∧ tI s < 4294967296 := getN4 g2
  have i3 : 0 ≤ mI s ∧ mI s < 65536 := getN2 g3
  have hnI : nI s = 9 + mI s * 16 := rfl
  obtain ⟨m, hmm⟩ : ∃ m : Nat, mI s = (m : Int) := ⟨(mI s).toNat, by omega⟩
  have en : nI s = ((9 + 16 * m : Nat) : Int) := by omega
  rw [en] at hs hn ⊢
  rw [hmm] at hm i3 ⊢
  rw [show ((m : Int)).toNat = m by omega, show (((9 + 16 * m : Nat) : Int) + 2).toNat = 9 + 16 * m + 2 by omega]
  rw [show (((9 + 16 * m : Nat) : Int)).toNat = 9 + 16 * m by omega] at hs
  obtain ⟨p1, p2⟩ := plots_seg s (rI s) (tI s) m 0 hz (by omega)
  rw [show ((0 : Nat) : Int) = 0 from rfl, show 9 + 16 * 0 = 9 from rfl] at p1
  rw [show ((0 : Nat) : Int) = 0 from rfl] at p2
  have hd : ∀ L : List P6, L.length = m → hdB (rI s) (tI s) L = seg s 0 9 := by
    intro L hL
    have e0 : seg s 0 2 = [83, 87] := by
      show ((bytesI s).drop 0).take 2 = _
      rw [List.drop_zero]; exact swP_take hsw (by rw [bytes_len]; omega)
    have e1 : putL (rI s) 1 = seg s 2 1 := put_get s 2 1 (by omega) (by omega)
    have e2 : putL (tI s) 4 = seg s 3 4 := put_get s 3 4 (by omega) (by omega)
    have e3 : putL (m : Int) 2 = seg s 7 2 := by rw [← hmm]; exact put_get s 7 2 (by omega) (by omega)
    unfold hdB
    rw [hL, ← e0, e1, e2, e3, show (9 : Nat) = 2 + (1 + (4 + 2)) from rfl, seg_add, seg_add, seg_add]
  have fr : ∀ L : List P6, L.length = m → (frmS (rI s) (tI s) L = s.extract 0 (9 + 16 * m + 2) ↔ L.flatMap pltB = seg s 9 (16 * m)) := by
    intro L hL
    have hfl := fm_len L
    have e1 : frB (rI s) (tI s) L = seg s 0 9 ++ L.flatMap pltB := by unfold frB; rw [hd L hL]
    have e2 : bytesI (frmS (rI s) (tI s) L) = frB (rI s) (tI s) L ++ putL (chk2 (frB (rI s) (tI s) L)) 2 := by
      unfold frmS
      rw [bytes_str (fr_in _ _ _), bytes_str]
      intro x hx
      rcases List.mem_append.1 hx with h | h
      · exact fr_in _ _ _ x h
      · exact putL_in _ _ x h
    have e3 : bytesI (s.extract 0 (9 + 16 * m + 2)) = seg s 0 9 ++ seg s 9 (16 * m) ++ seg s (9 + 16 * m) 2 := by
      rw [bytes_ext, Nat.sub_zero]
      show seg s 0 (9 + 16 * m + 2) = _
      rw [seg_add, seg_add, Nat.zero_add, Nat.zero_add]
    constructor
    · intro h
      rw [h, e3, e1] at e2
      have h1 := (List.append_inj e2 (by rw [List.length_append, List.length_append, hfl, hL, seg_len s 9 _ (by omega)])).1
      exact ((List.append_inj h1 rfl).2).symm
    · intro h
      refine bytes_inj ?_
      have e4 : seg s 0 9 ++ seg s 9 (16 * m) = (bytesI s).take (9 + 16 * m) := by
        have := seg_add s 0 9 (16 * m)
        rw [Nat.zero_add] at this
        rw [← this]; show ((bytesI s).drop 0).take _ = _
        rw [List.drop_zero]
      have e5 : putL (getN s ((9 + 16 * m : Nat) : Int) 2) 2 = seg s (9 + 16 * m) 2 := put_get s (9 + 16 * m) 2 (by omega) (by omega)
      rw [e2, e3, e1, h, e4, ← e5, hs, sum_chk2]
      intro x hx
      exact (bytes_in s x (List.mem_of_mem_take hx)).1
  constructor
  · rw [p1]
    constructor
    · rintro ⟨h1, h2, h3⟩
      have hL := flT_len s (rI s) (tI s) m 0 h1
      refine ⟨h1, ?_, (fr _ hL).2 h3⟩
      unfold frmE
      rw [hL, decide_eq_false (show ¬ (m : Int) > 32 by omega), show inS (rI s) 0 255 = true by unfold inS; simp; omega, show inS (tI s) 0 200000 = true by unfold inS; simp; omega]
      exact h2
    · rintro ⟨h1, h2, h3⟩
      have hL := flT_len s (rI s) (tI s) m 0 h1
      refine ⟨h1, ?_, (fr _ hL).1 h3⟩
      unfold frmE at h2
      rw [hL, decide_eq_false (show ¬ (m : Int) > 32 by omega), show inS (rI s) 0 255 = true by unfold inS; simp; omega, show inS (tI s) 0 200000 = true by unfold inS; simp; omega] at h2
      exact h2
  · intro h
    unfold decL
    rw [hmm, show ((m : Int)).toNat = m by omega]
    exact p2 h
end Go.Proofs.YtacdahpjmeianaaWi
