/- What is proved: what ToFixed answers at scale 0: something always, and the number itself at the float of a small whole number. No condition. -/
import Derived.Test.YtacdahpjmeianaaTwj2
namespace Go.Proofs.YtacdahpjmeianaaWi
open Go Go.Proofs Go.Proofs.YtacdahpjmeianaaEv Go.Proofs.YtacdahpjmeianaaFl
set_option maxRecDepth 100000
set_option maxHeartbeats 4000000
set_option linter.unusedVariables false
set_option linter.unusedSimpArgs false
noncomputable abbrev j137L (b : Int) := (evFuncV Try.prog J1 noCuts Try.f137 (killA 0 [sU, sI]) (showA 0 [sU, sI] (b, (0, ()))).1
  (showA 0 [sU, sI] (b, (0, ()))).2)
theorem j137 (b : Int) : j137L b = (guardB (bp (okU b))
  (bif !pFin b then
    some (PV.tup [PV.sc (Value.int IntKind.i64 0), PV.sc (Value.bool false), PV.sc (Value.int IntKind.i64 3)], [])
  else
    guardB (bp (okU b))
      (bif pMan b == 0 then
        some (PV.tup [PV.sc (Value.int IntKind.i64 0), PV.sc (Value.bool true), PV.sc (Value.int IntKind.i64 0)], [])
      else
        bif decide (IntKind.i64.wrap (pExp b + 0) > 0) then
          bif decide (IntKind.i64.wrap (lenN (pMan b) + IntKind.i64.wrap (pExp b + 0)) > 64) then
            some
              (PV.tup [PV.sc (Value.int IntKind.i64 0), PV.sc (Value.bool false), PV.sc (Value.int IntKind.i64 2)], [])
          else
            guardB (decide (0 ≤ IntKind.i64.wrap (pExp b + 0)))
              (bif pNeg b then
                bif pNeg b then
                  bif
                      decide
                        (IntKind.u64.wrap (pMan b * 2 ^ min (IntKind.i64.wrap (pExp b + 0)).toNat IntKind.u64.bits) >
                          9223372036854775808) then
                    some
                      (PV.tup
                          [PV.sc (Value.int IntKind.i64 0), PV.sc (Value.bool false), PV.sc (Value.int IntKind.i64 2)],
                        [])
                  else
                    some
                      (PV.tup
                          [PV.sc
                              (Value.int IntKind.i64
                                (IntKind.i64.wrap
                                  (IntKind.u64.wrap
                                    (0 -
                                      IntKind.u64.wrap
                                        (pMan b * 2 ^ min (IntKind.i64.wrap (pExp b + 0)).toNat IntKind.u64.bits))))),
                            PV.sc (Value.bool true), PV.sc (Value.int IntKind.i64 0)],
                        [])
                else
                  bif
                      decide
                        (IntKind.u64.wrap (pMan b * 2 ^ min (IntKind.i64.wrap (pExp b + 0)).toNat IntKind.u64.bits) ≥
                          9223372036854775808) then
                    some
                      (PV.tup
                          [PV.sc (Value.int IntKind.i64 0), PV.sc (Value.bool false), PV.sc (Value.int IntKind.i64 2)],
                        [])
                  else
                    some
                      (PV.tup
                          [PV.sc
                              (Value.int IntKind.i64
                                (IntKind.i64.wrap
                                  (IntKind.u64.wrap
                                    (pMan b * 2 ^ min (IntKind.i64.wrap (pExp b + 0)).toNat IntKind.u64.bits)))),
                            PV.sc (Value.bool true), PV.sc (Value.int IntKind.i64 0)],
                        [])
              else
                bif pNeg b then
                  bif
                      decide
                        (IntKind.u64.wrap (pMan b * 2 ^ min (IntKind.i64.wrap (pExp b + 0)).toNat IntKind.u64.bits) >
                          9223372036854775808) then
                    some
                      (PV.tup
                          [PV.sc (Value.int IntKind.i64 0), PV.sc (Value.bool false), PV.sc (Value.int IntKind.i64 2)],
                        [])
                  else
                    some
                      (PV.tup
                          [PV.sc
                              (Value.int IntKind.i64
                                (IntKind.i64.wrap
                                  (IntKind.u64.wrap
                                    (0 -
                                      IntKind.u64.wrap
                                        (pMan b * 2 ^ min (IntKind.i64.wrap (pExp b + 0)).toNat IntKind.u64.bits))))),
                            PV.sc (Value.bool true), PV.sc (Value.int IntKind.i64 0)],
                        [])
                else
                  bif
                      decide
                        (IntKind.u64.wrap (pMan b * 2 ^ min (IntKind.i64.wrap (pExp b + 0)).toNat IntKind.u64.bits) ≥
                          9223372036854775808) then
                    some
                      (PV.tup
                          [PV.sc (Value.int IntKind.i64 0), PV.sc (Value.bool false), PV.sc (Value.int IntKind.i64 2)],
                        [])
                  else
                    some
                      (PV.tup
                          [PV.sc
                              (Value.int IntKind.i64
                                (IntKind.i64.wrap
                                  (IntKind.u64.wrap
                                    (pMan b * 2 ^ min (IntKind.i64.wrap (pExp b + 0)).toNat IntKind.u64.bits)))),
                            PV.sc (Value.bool true), PV.sc (Value.int IntKind.i64 0)],
                        []))
        else
          bif decide (IntKind.i64.wrap (pExp b + 0) < -63) then
            bif pNeg b then
              some
                (PV.tup [PV.sc (Value.int IntKind.i64 (-1)), PV.sc (Value.bool false), PV.sc (Value.int IntKind.i64 0)],
                  [])
            else
              bif pNeg b then
                some
                  (PV.tup [PV.sc (Value.int IntKind.i64 0), PV.sc (Value.bool false), PV.sc (Value.int IntKind.i64 0)],
                    [])
              else
                some
                  (PV.tup [PV.sc (Value.int IntKind.i64 0), PV.sc (Value.bool false), PV.sc (Value.int IntKind.i64 0)],
                    [])
          else
            guardB (decide (0 ≤ IntKind.i64.wrap (0 - IntKind.i64.wrap (pExp b + 0))))
              (guardB (decide (0 ≤ IntKind.i64.wrap (0 - IntKind.i64.wrap (pExp b + 0))))
                (bif pNeg b then
                  bif
                      IntKind.u64.wrap
                          (↑(BitVec.ofInt IntKind.u64.bits (pMan b) &&&
                                  BitVec.ofInt IntKind.u64.bits
                                    (IntKind.u64.wrap
                                      (IntKind.u64.wrap
                                          (1 *
                                            2 ^
                                              min (IntKind.i64.wrap (0 - IntKind.i64.wrap (pExp b + 0))).toNat
                                                IntKind.u64.bits) -
                                        1))).toNat :
                            Int) !=
                        0 then
                    bif
                        decide
                          (IntKind.u64.wrap
                              ((pMan b).fdiv
                                  (2 ^
                                    min (IntKind.i64.wrap (0 - IntKind.i64.wrap (pExp b + 0))).toNat IntKind.u64.bits) +
                                1) >
                            9223372036854775808) then
                      some
                        (PV.tup
                            [PV.sc (Value.int IntKind.i64 0), PV.sc (Value.bool false),
                              PV.sc (Value.int IntKind.i64 2)],
                          [])
                    else
                      some
                        (PV.tup
                            [PV.sc
                                (Value.int IntKind.i64
                                  (IntKind.i64.wrap
                                    (IntKind.u64.wrap
                                      (0 -
                                        IntKind.u64.wrap
                                          ((pMan b).fdiv
                                              (2 ^
                                                min (IntKind.i64.wrap (0 - IntKind.i64.wrap (pExp b + 0))).toNat
                                                  IntKind.u64.bits) +
                                            1))))),
                              PV.sc
                                (Value.bool
                                  !IntKind.u64.wrap
                                        (↑(BitVec.ofInt IntKind.u64.bits (pMan b) &&&
                                                BitVec.ofInt IntKind.u64.bits
                                                  (IntKind.u64.wrap
                                                    (IntKind.u64.wrap
                                                        (1 *
                                                          2 ^
                                                            min
                                                              (IntKind.i64.wrap
                                                                  (0 - IntKind.i64.wrap (pExp b + 0))).toNat
                                                              IntKind.u64.bits) -
                                                      1))).toNat :
                                          Int) !=
                                      0),
                              PV.sc (Value.int IntKind.i64 0)],
                          [])
                  else
                    bif pNeg b then
                      bif
                          decide
                            ((pMan b).fdiv
                                (2 ^
                                  min (IntKind.i64.wrap (0 - IntKind.i64.wrap (pExp b + 0))).toNat IntKind.u64.bits) >
                              9223372036854775808) then
                        some
                          (PV.tup
                              [PV.sc (Value.int IntKind.i64 0), PV.sc (Value.bool false),
                                PV.sc (Value.int IntKind.i64 2)],
                            [])
                      else
                        some
                          (PV.tup
                              [PV.sc
                                  (Value.int IntKind.i64
                                    (IntKind.i64.wrap
                                      (IntKind.u64.wrap
                                        (0 -
                                          (pMan b).fdiv
                                            (2 ^
                                              min (IntKind.i64.wrap (0 - IntKind.i64.wrap (pExp b + 0))).toNat
                                                IntKind.u64.bits))))),
                                PV.sc
                                  (Value.bool
                                    !IntKind.u64.wrap
                                          (↑(BitVec.ofInt IntKind.u64.bits (pMan b) &&&
                                                  BitVec.ofInt IntKind.u64.bits
                                                    (IntKind.u64.wrap
                                                      (IntKind.u64.wrap
                                                          (1 *
                                                            2 ^
                                                              min
                                                                (IntKind.i64.wrap
                                                                    (0 - IntKind.i64.wrap (pExp b + 0))).toNat
                                                                IntKind.u64.bits) -
                                                        1))).toNat :
                                            Int) !=
                                        0),
                                PV.sc (Value.int IntKind.i64 0)],
                            [])
                    else
                      bif
                          decide
                            ((pMan b).fdiv
                                (2 ^
                                  min (IntKind.i64.wrap (0 - IntKind.i64.wrap (pExp b + 0))).toNat IntKind.u64.bits) ≥
                              9223372036854775808) then
                        some
                          (PV.tup
                              [PV.sc (Value.int IntKind.i64 0), PV.sc (Value.bool false),
                                PV.sc (Value.int IntKind.i64 2)],
                            [])
                      else
                        some
                          (PV.tup
                              [PV.sc
                                  (Value.int IntKind.i64
                                    (IntKind.i64.wrap
                                      ((pMan b).fdiv
                                        (2 ^
                                          min (IntKind.i64.wrap (0 - IntKind.i64.wrap (pExp b + 0))).toNat
                                            IntKind.u64.bits)))),
                                PV.sc
                                  (Value.bool
                                    !IntKind.u64.wrap
                                          (↑(BitVec.ofInt IntKind.u64.bits (pMan b) &&&
                                                  BitVec.ofInt IntKind.u64.bits
                                                    (IntKind.u64.wrap
                                                      (IntKind.u64.wrap
                                                          (1 *
                                                            2 ^
                                                              min
                                                                (IntKind.i64.wrap
                                                                    (0 - IntKind.i64.wrap (pExp b + 0))).toNat
                                                                IntKind.u64.bits) -
                                                        1))).toNat :
                                            Int) !=
                                        0),
                                PV.sc (Value.int IntKind.i64 0)],
                            [])
                else
                  bif pNeg b then
                    bif
                        decide
                          ((pMan b).fdiv
                              (2 ^ min (IntKind.i64.wrap (0 - IntKind.i64.wrap (pExp b + 0))).toNat IntKind.u64.bits) >
                            9223372036854775808) then
                      some
                        (PV.tup
                            [PV.sc (Value.int IntKind.i64 0), PV.sc (Value.bool false),
                              PV.sc (Value.int IntKind.i64 2)],
                          [])
                    else
                      some
                        (PV.tup
                            [PV.sc
                                (Value.int IntKind.i64
                                  (IntKind.i64.wrap
                                    (IntKind.u64.wrap
                                      (0 -
                                        (pMan b).fdiv
                                          (2 ^
                                            min (IntKind.i64.wrap (0 - IntKind.i64.wrap (pExp b + 0))).toNat
                                              IntKind.u64.bits))))),
                              PV.sc
                                (Value.bool
                                  !IntKind.u64.wrap
                                        (↑(BitVec.ofInt IntKind.u64.bits (pMan b) &&&
                                                BitVec.ofInt IntKind.u64.bits
                                                  (IntKind.u64.wrap
                                                    (IntKind.u64.wrap
                                                        (1 *
                                                          2 ^
                                                            min
                                                              (IntKind.i64.wrap
                                                                  (0 - IntKind.i64.wrap (pExp b + 0))).toNat
                                                              IntKind.u64.bits) -
                                                      1))).toNat :
                                          Int) !=
                                      0),
                              PV.sc (Value.int IntKind.i64 0)],
                          [])
                  else
                    bif
                        decide
                          ((pMan b).fdiv
                              (2 ^ min (IntKind.i64.wrap (0 - IntKind.i64.wrap (pExp b + 0))).toNat IntKind.u64.bits) ≥
                            9223372036854775808) then
                      some
                        (PV.tup
                            [PV.sc (Value.int IntKind.i64 0), PV.sc (Value.bool false),
                              PV.sc (Value.int IntKind.i64 2)],
                          [])
                    else
                      some
                        (PV.tup
                            [PV.sc
                                (Value.int IntKind.i64
                                  (IntKind.i64.wrap
                                    ((pMan b).fdiv
                                      (2 ^
                                        min (IntKind.i64.wrap (0 - IntKind.i64.wrap (pExp b + 0))).toNat
                                          IntKind.u64.bits)))),
                              PV.sc
                                (Value.bool
                                  !IntKind.u64.wrap
                                        (↑(BitVec.ofInt IntKind.u64.bits (pMan b) &&&
                                                BitVec.ofInt IntKind.u64.bits
                                                  (IntKind.u64.wrap
                                                    (IntKind.u64.wrap
                                                        (1 *
                                                          2 ^
                                                            min
                                                              (IntKind.i64.wrap
                                                                  (0 - IntKind.i64.wrap (pExp b + 0))).toNat
                                                              IntKind.u64.bits) -
                                                      1))).toNat :
                                          Int) !=
                                      0),
                              PV.sc (Value.int IntKind.i64 0)],
                          [])))))) := by kernel_rfl
def in64 (n : Int) : Prop := -9223372036854775808 ≤ n ∧ n ≤ 9223372036854775807
def Ex3 (x : Option (PV × List Blk)) : Prop := ∃ t : Int × Bool × Int, in64 t.1 ∧ x = some (PV.tup [PV.sc (.int .i64 t.1), PV.sc (.bool t.2.1), PV.sc (.int .i64 t.2.2)], [])
theorem ex3_c {c : Bool} {a b : Option (PV × List Blk)} (h1 : Ex3 a) (h2 : Ex3 b) : Ex3 (cond c a b) := by
  cases c
  · exact h2
  · exact h1
theorem ex3_d {p : Prop} {i : Decidable p} {a b : Option (PV × List Blk)} (h1 : p → Ex3 a) (h2 : ¬ p → Ex3 b) : Ex3 (cond (@decide p i) a b) := by
  by_cases h : p
  · rw [decide_eq_true h]; exact h1 h
  · rw [decide_eq_false h]; exact h2 h
theorem ex3_g {c : Bool} {a : Option (PV × List Blk)} (h : c = true) (h1 : Ex3 a) : Ex3 (guardB c a) := by
  obtain ⟨t, h2, h3⟩ := h1
  exact ⟨t, h2, guard_split h h3⟩
theorem ex3_m {r : Int} {e : Bool} {c : Int} (h : in64 r) : Ex3 (some (PV.tup [PV.sc (.int .i64 r), PV.sc (.bool e), PV.sc (.int .i64 c)], [])) := ⟨(r, e, c), h, rfl⟩
theorem w64in (n : Int) : in64 (IntKind.i64.wrap n) := by
  unfold in64
  rw [IntKind.wrap_i64]; omega
theorem pExp_in (b : Int) : -1074 ≤ pExp b ∧ pExp b ≤ 972 := by
  unfold pExp
  cases hb : pHas b with
  | false => simp only [cond_false]; omega
  | true =>
    have h : 0 < b / 4503599627370496 % 2048 := of_decide_eq_true hb
    simp only [cond_true]; omega
theorem p137x (b : Int) (h : okU b) : Ex3 (j137L b) := by
  have he := pExp_in b
  have hl := lenN_in (pMan b)
  have z : in64 0 := ⟨by omega, by omega⟩
  have o : in64 (-1) := ⟨by omega, by omega⟩
  rw [j137, IntWalk.i64_in (pExp b + 0) (by omega), Int.add_zero, IntWalk.i64_in (0 - pExp b) (by omega)]
  refine ex3_g (bp_mk h) (ex3_c (ex3_m z) (ex3_g (bp_mk h) (ex3_c (ex3_m z) (ex3_d (fun h1 => ?_) (fun h1 => ?_)))))
  · refine ex3_c (ex3_m z) (ex3_g (decide_eq_true (by omega)) ?_)
    exact ex3_c (ex3_c (ex3_c (ex3_m z) (ex3_m (w64in _))) (ex3_c (ex3_m z) (ex3_m (w64in _)))) (ex3_c (ex3_c (ex3_m z) (ex3_m (w64in _))) (ex3_c (ex3_m z) (ex3_m (w64in _))))
  · refine ex3_d (fun h2 => ex3_c (ex3_m o) (ex3_c (ex3_m z) (ex3_m z))) (fun h2 => ex3_g (decide_eq_true (by omega)) (ex3_g (decide_eq_true (by omega)) ?_))
    exact ex3_c (ex3_c (ex3_c (ex3_m z) (ex3_m (w64in _))) (ex3_c (ex3_c (ex3_m z) (ex3_m (w64in _))) (ex3_c (ex3_m z) (ex3_m (w64in _))))) (ex3_c (ex3_c (ex3_m z) (ex3_m (w64in _))) (ex3_c (ex3_m z) (ex3_m (w64in _))))
noncomputable def toF (b : Int) : Int × Bool × Int := @dite _ (okU b) (Classical.propDecidable _) (fun h => Classical.choose (p137x b h)) (fun _ => (0, false, 0))
theorem p137 (b : Int) (h : okU b) : j137L b = some (PV.tup [PV.sc (.int .i64 (toF b).1), PV.sc (.bool (toF b).2.1), PV.sc (.int .i64 (toF b).2.2)], []) := by
  have e : toF b = Classical.choose (p137x b h) := by unfold toF; rw [dif_pos h]
  rw [e]; exact (Classical.choose_spec (p137x b h)).2
theorem toF_in (b : Int) : in64 (toF b).1 := by
  unfold toF
  split
  · rename_i h; exact (Classical.choose_spec (p137x b h)).1
  · exact ⟨by decide, by decide⟩
/-- The digits of a small whole number's float. -/
theorem fb_at {n : Nat} (h1 : 1 ≤ n) (h2 : n < 4503599627370496) : ∃ L, L < 52 ∧ (fbits (n : Int) : Nat) = (L + 1022) * 4503599627370496 + n * 2 ^ (52 - L) ∧ 4503599627370496 ≤ n * 2 ^ (52 - L) ∧ n * 2 ^ (52 - L) < 9007199254740992 := by
  have h0 : n ≠ 0 := by omega
  have a := Nat.log2_self_le h0
  have b := Nat.lt_log2_self (n := n)
  have hl : n.log2 < 52 := (Nat.log2_lt h0).2 (by omega)
  obtain ⟨e, k1, k2⟩ := nearest_at a b (by omega)
  refine ⟨n.log2, hl, ?_, k1, k2⟩
  have e0 : fbits (n : Int) = Ieee.double.nearest false n 0 := by
    show Ieee.double.nearest (decide ((n : Int) < 0)) ((n : Int)).natAbs 0 = _
    rw [decide_eq_false (show ¬ (n : Int) < 0 by omega), Int.natAbs_natCast]
  rw [e0, e, show ((n.log2 : Int) - 52 + 1074).toNat = n.log2 + 1022 by omega]
theorem p137f (n : Int) (h0 : 0 ≤ n) (h1 : n ≤ 2000000) : j137L (fbits n : Int) = some (PV.tup [PV.sc (.int .i64 n), PV.sc (.bool true), PV.sc (.int .i64 0)], []) := by
  have hlt := fbits_lt h0 h1
  have hok : okU (fbits n : Int) := ⟨by omega, by omega⟩
  obtain ⟨n, rfl⟩ := Int.eq_ofNat_of_zero_le h0
  by_cases hn : n = 0
  · subst hn
    rw [j137, show ((fbits ((0 : Nat) : Int) : Nat) : Int) = 0 by decide]
    exact guard_split (bp_mk ⟨by omega, by omega⟩) (guard_split (bp_mk ⟨by omega, by omega⟩) rfl)
  · obtain ⟨L, hL, e, k1, k2⟩ := fb_at (n := n) (by omega) (by omega)
    have hb : ((fbits (n : Int) : Nat) : Int) = (((L + 1022) * 4503599627370496 + n * 2 ^ (52 - L) : Nat) : Int) := by rw [e]
    have hd : ((fbits (n : Int) : Nat) : Int) / 4503599627370496 % 2048 = ((L + 1023 : Nat) : Int) := by omega
    have h1 : pFin (fbits (n : Int) : Int) = true := decide_eq_true (by omega)
    have h2 : pHas (fbits (n : Int) : Int) = true := decide_eq_true (by omega)
    have h3 : pExp (fbits (n : Int) : Int) = (L : Int) - 52 := by
      unfold pExp; rw [h2]; simp only [cond_true]; omega
    have h4 : pMan (fbits (n : Int) : Int) = ((n * 2 ^ (52 - L) : Nat) : Int) := by
      unfold pMan; rw [h2]; simp only [cond_true]; omega
    have h5 : pNeg (fbits (n : Int) : Int) = false := decide_eq_false (by omega)
    rw [j137, h1, h3, h4, h5, IntWalk.i64_in ((L : Int) - 52 + 0) (by omega), Int.add_zero, IntWalk.i64_in (0 - ((L : Int) - 52)) (by omega)]
    rw [decide_eq_false (show ¬ (L : Int) - 52 > 0 by omega), decide_eq_false (show ¬ (L : Int) - 52 < -63 by omega)]
    have es : min (0 - ((L : Int) - 52)).toNat IntKind.u64.bits = 52 - L := by
      show min (0 - ((L : Int) - 52)).toNat 64 = _
      omega
    have hp := Nat.two_pow_pos (52 - L)
    have hp2 : 2 ^ (52 - L) ≤ 4503599627370496 := by
      have : 2 ^ (52 - L) ≤ 2 ^ 52 := Nat.pow_le_pow_right (by decide) (by omega)
      exact this
    have ep : (2 : Int) ^ (52 - L) = ((2 ^ (52 - L) : Nat) : Int) := by rw [Int.natCast_pow]; rfl
    have ef : ((n * 2 ^ (52 - L) : Nat) : Int).fdiv (2 ^ (52 - L)) = (n : Int) := by
      rw [ep, Int.fdiv_eq_ediv_of_nonneg _ (by omega), ← Int.natCast_ediv, Nat.mul_div_cancel _ hp]
    have em : IntKind.u64.wrap (IntKind.u64.wrap (1 * 2 ^ (52 - L)) - 1) = ((2 ^ (52 - L) - 1 : Nat) : Int) := by
      rw [ep, Int.one_mul, u64_in (n := ((2 ^ (52 - L) : Nat) : Int)) (by omega) (by omega), u64_in (by omega) (by omega)]; omega
    have ea : IntKind.u64.wrap (((BitVec.ofInt 64 ((n * 2 ^ (52 - L) : Nat) : Int) &&& BitVec.ofInt 64 ((2 ^ (52 - L) - 1 : Nat) : Int)).toNat : Nat) : Int) = 0 := by
      rw [BitVec.toNat_and, bv_nat (by omega), bv_nat (by omega), Nat.and_two_pow_sub_one_eq_mod, Nat.mul_mod_left]; rfl
    rw [es, ef, em, show IntKind.u64.bits = 64 from rfl, ea, IntWalk.i64_in (n : Int) (by omega), decide_eq_false (show ¬ (n : Int) ≥ 9223372036854775808 by omega)]
    have hm : ((((n * 2 ^ (52 - L) : Nat) : Int)) == 0) = false := by simp; omega
    rw [hm]
    exact guard_split (bp_mk hok) (guard_split (bp_mk hok) (guard_split (decide_eq_true (by omega)) (guard_split (decide_eq_true (by omega)) rfl)))
theorem toF_f (n : Int) (h0 : 0 ≤ n) (h1 : n ≤ 2000000) : toF (fbits n : Int) = (n, true, 0) := by
  have hlt := fbits_lt h0 h1
  have e := p137 (fbits n : Int) ⟨by omega, by omega⟩
  rw [p137f n h0 h1] at e
  generalize toF (fbits n : Int) = t at *
  obtain ⟨a, b, c⟩ := t
  simp only [Option.some.injEq, Prod.mk.injEq, PV.tup.injEq, List.cons.injEq, PV.sc.injEq, Value.int.injEq, Value.bool.injEq, true_and, and_true] at e
  obtain ⟨rfl, rfl, rfl⟩ := e
  rfl
noncomputable def J2 : Table := ext 137 (entV [sU, sI] (specP [sU, sI] [sI, sB, sI] (fun v => bp (okU v.1 ∧ v.2.1 = 0)) fun v => ((toF v.1).1, (toF v.1).2.1, (toF v.1).2.2, ()))) J1
theorem J2_ok : TableOK Try.prog J2 := by
  refine ext_ok (entV_ok Try.call137 (liftV (kill := killA 0 [sU, sI]) J1_ok mixed Try.func137 (show Try.f137.body = some (bodyF Try.f137) from rfl) (noCuts_ok _) (by decide) fun v h => ?_)) J1_ok
  obtain ⟨b, k, ⟨⟩⟩ := v
  obtain ⟨h1, h2⟩ := bp_true.1 h
  obtain rfl : k = 0 := h2
  exact p137 b h1
end Go.Proofs.YtacdahpjmeianaaWi
