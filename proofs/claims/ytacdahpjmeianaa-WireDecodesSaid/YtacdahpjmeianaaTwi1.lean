/- What is proved: bits.FromFixed at scale 0 gives the bits of float64(n). No condition. -/
import Derived.Test.YtacdahpjmeianaaTwi0
import Derived.Test.YtacdahpjmeianaaTwg
import Derived.Laws.Externs
namespace Go.Proofs.YtacdahpjmeianaaWi
open Go Go.Proofs Go.Proofs.YtacdahpjmeianaaEv Go.Proofs.YtacdahpjmeianaaFl
set_option maxRecDepth 100000
set_option maxHeartbeats 4000000
set_option linter.unusedVariables false
set_option linter.unusedSimpArgs false
theorem mixed : Try.prog.follows .mixedOrders = true := by kernel_rfl
noncomputable abbrev w156L (a0 : Nat) := evFuncV Try.prog F0 noCuts Try.f156 (killA 0 [sF]) (showA 0 [sF] (a0, ())).1 (showA 0 [sF] (a0, ())).2
theorem w156 (a0 : Nat) : w156L a0 = (some
  (PV.sc
      (Value.float FloatKind.f64
        (IntKind.u64.wrap
            (↑(BitVec.ofInt IntKind.u64.bits (↑a0 : Int) &&&
                    ~~~BitVec.ofInt IntKind.u64.bits 9223372036854775808).toNat :
              Int)).toNat),
    [])) := by kernel_rfl
noncomputable abbrev w151L (a0 : Nat) (a1 : Int) := evFuncV Try.prog F1 noCuts Try.f151 (killA 0 [sF, sI]) (showA 0 [sF, sI] (a0, (a1, ()))).1 (showA 0 [sF, sI] (a0, (a1, ()))).2
theorem w151 (a0 : Nat) (a1 : Int) : w151L a0 a1 = (bif a1 == 0 then
  guardB (bp (FB a0))
    (some (PV.sc (Value.bool (FloatKind.f64.format.order a0 9218868437227405311 == some Ordering.gt)), []))
else
  bif decide (a1 < 0) then
    some
      (PV.sc
          (Value.bool
            (FloatKind.f64.format.order (Op.negFloat FloatKind.f64 a0) 9218868437227405311 == some Ordering.gt)),
        [])
  else some (PV.sc (Value.bool (FloatKind.f64.format.order a0 9218868437227405311 == some Ordering.gt)), [])) := by kernel_rfl
noncomputable abbrev w152L (a0 : Nat) := evFuncV Try.prog F1 noCuts Try.f152 (killA 0 [sF]) (showA 0 [sF] (a0, ())).1 (showA 0 [sF] (a0, ())).2
theorem w152 (a0 : Nat) : w152L a0 = (some (PV.sc (Value.bool (FloatKind.f64.format.order a0 a0 != some Ordering.eq)), [])) := by kernel_rfl
noncomputable abbrev w153L (a0 : Nat) := evFuncV Try.prog F1 noCuts Try.f153 (killA 0 [sF]) (showA 0 [sF] (a0, ())).1 (showA 0 [sF] (a0, ())).2
theorem w153 (a0 : Nat) : w153L a0 = (guardB (bp (FB a0))
  (bif FloatKind.f64.format.order a0 4503599627370496 == some Ordering.lt then
    bindO (floatBits BinOp.mul FloatKind.f64 a0 4841369599423283200) fun x =>
      some (PV.tup [PV.sc (Value.float FloatKind.f64 x), PV.sc (Value.int IntKind.i64 (-52))], [])
  else some (PV.tup [PV.sc (Value.float FloatKind.f64 a0), PV.sc (Value.int IntKind.i64 0)], []))) := by kernel_rfl
noncomputable abbrev w143L (a0 : Nat) (a1 : Int) := evFuncV Try.prog F2 noCuts Try.f143 (killA 0 [sF, sI]) (showA 0 [sF, sI] (a0, (a1, ()))).1 (showA 0 [sF, sI] (a0, (a1, ()))).2
theorem w143 (a0 : Nat) (a1 : Int) : w143L a0 a1 = (bif FloatKind.f64.format.order a0 0 == some Ordering.eq then some (PV.sc (Value.float FloatKind.f64 a0), [])
else
  guardB (bp (FB a0 ∧ (0 : Int) = 0))
    (guardB (bp (FB a0))
      (guardB (bp (FB a0))
        (bif
            decide
              (IntKind.i64.wrap
                  (IntKind.i64.wrap (a1 + 0) +
                    IntKind.i64.wrap
                      (IntKind.i64.wrap
                          (↑(BitVec.ofInt IntKind.i64.bits
                                    (IntKind.i64.wrap ((↑a0 : Int).fdiv (2 ^ min (Int.toNat 52) IntKind.u64.bits))) &&&
                                  BitVec.ofInt IntKind.i64.bits 2047).toNat :
                            Int) -
                        1023)) <
                -1075) then
          none
        else
          bif
              decide
                (IntKind.i64.wrap
                    (IntKind.i64.wrap (a1 + 0) +
                      IntKind.i64.wrap
                        (IntKind.i64.wrap
                            (↑(BitVec.ofInt IntKind.i64.bits
                                      (IntKind.i64.wrap
                                        ((↑a0 : Int).fdiv (2 ^ min (Int.toNat 52) IntKind.u64.bits))) &&&
                                    BitVec.ofInt IntKind.i64.bits 2047).toNat :
                              Int) -
                          1023)) >
                  1023) then
            bif FloatKind.f64.format.order a0 0 == some Ordering.lt then none else none
          else
            bif
                decide
                  (IntKind.i64.wrap
                      (IntKind.i64.wrap (a1 + 0) +
                        IntKind.i64.wrap
                          (IntKind.i64.wrap
                              (↑(BitVec.ofInt IntKind.i64.bits
                                        (IntKind.i64.wrap
                                          ((↑a0 : Int).fdiv (2 ^ min (Int.toNat 52) IntKind.u64.bits))) &&&
                                      BitVec.ofInt IntKind.i64.bits 2047).toNat :
                                Int) -
                            1023)) <
                    -1022) then
              bindO
                (floatBits BinOp.mul FloatKind.f64 4368491638549381120
                  (IntKind.u64.wrap
                      (↑(BitVec.ofInt IntKind.u64.bits
                                (IntKind.u64.wrap
                                  (↑(BitVec.ofInt IntKind.u64.bits (↑a0 : Int) &&&
                                          ~~~BitVec.ofInt IntKind.u64.bits 9218868437227405312).toNat :
                                    Int)) |||
                              BitVec.ofInt IntKind.u64.bits
                                (IntKind.u64.wrap
                                  (IntKind.u64.wrap
                                      (IntKind.i64.wrap
                                        (IntKind.i64.wrap
                                            (IntKind.i64.wrap
                                                (IntKind.i64.wrap (a1 + 0) +
                                                  IntKind.i64.wrap
                                                    (IntKind.i64.wrap
                                                        (↑(BitVec.ofInt IntKind.i64.bits
                                                                  (IntKind.i64.wrap
                                                                    ((↑a0 : Int).fdiv
                                                                      (2 ^ min (Int.toNat 52) IntKind.u64.bits))) &&&
                                                                BitVec.ofInt IntKind.i64.bits 2047).toNat :
                                                          Int) -
                                                      1023)) +
                                              53) +
                                          1023)) *
                                    4503599627370496))).toNat :
                        Int)).toNat)
                fun x => some (PV.sc (Value.float FloatKind.f64 x), [])
            else
              bindO
                (floatBits BinOp.mul FloatKind.f64 4607182418800017408
                  (IntKind.u64.wrap
                      (↑(BitVec.ofInt IntKind.u64.bits
                                (IntKind.u64.wrap
                                  (↑(BitVec.ofInt IntKind.u64.bits (↑a0 : Int) &&&
                                          ~~~BitVec.ofInt IntKind.u64.bits 9218868437227405312).toNat :
                                    Int)) |||
                              BitVec.ofInt IntKind.u64.bits
                                (IntKind.u64.wrap
                                  (IntKind.u64.wrap
                                      (IntKind.i64.wrap
                                        (IntKind.i64.wrap
                                            (IntKind.i64.wrap (a1 + 0) +
                                              IntKind.i64.wrap
                                                (IntKind.i64.wrap
                                                    (↑(BitVec.ofInt IntKind.i64.bits
                                                              (IntKind.i64.wrap
                                                                ((↑a0 : Int).fdiv
                                                                  (2 ^ min (Int.toNat 52) IntKind.u64.bits))) &&&
                                                            BitVec.ofInt IntKind.i64.bits 2047).toNat :
                                                      Int) -
                                                  1023)) +
                                          1023)) *
                                    4503599627370496))).toNat :
                        Int)).toNat)
                fun x => some (PV.sc (Value.float FloatKind.f64 x), []))))) := by kernel_rfl
noncomputable abbrev w126L (a0 : Nat) (a1 : Int) := evFuncV Try.prog F3 noCuts Try.f126 (killA 0 [sF, sI]) (showA 0 [sF, sI] (a0, (a1, ()))).1 (showA 0 [sF, sI] (a0, (a1, ()))).2
theorem w126 (a0 : Nat) (a1 : Int) : w126L a0 a1 = (guardB (bp ((a0 = 0 ∨ FB a0) ∧ a1 = 0)) (some (PV.sc (Value.float FloatKind.f64 a0), []))) := by kernel_rfl
noncomputable abbrev w94L (a0 : Int) (a1 : Int) := evFuncV Try.prog F4 noCuts Try.f94 (killA 0 [sI, sI]) (showA 0 [sI, sI] (a0, (a1, ()))).1 (showA 0 [sI, sI] (a0, (a1, ()))).2
theorem w94 (a0 : Int) (a1 : Int) : w94L a0 a1 = (bif decide (a1 < 0) then some (PV.tup [PV.sc (Value.int IntKind.u64 0), PV.sc (Value.int IntKind.i64 4)], [])
else
  bif decide (a1 > 60) then some (PV.tup [PV.sc (Value.int IntKind.u64 0), PV.sc (Value.int IntKind.i64 4)], [])
  else
    guardB (bp ((FloatKind.f64.nearest a0 = 0 ∨ FB (FloatKind.f64.nearest a0)) ∧ IntKind.i64.wrap (0 - a1) = 0))
      (some
        (PV.tup [PV.sc (Value.int IntKind.u64 (↑(FloatKind.f64.nearest a0) : Int)), PV.sc (Value.int IntKind.i64 0)],
          []))) := by kernel_rfl
theorem x98 : EntOK Try.prog 98 (entX g98) := entX_ok fun v u h w => by
  unfold g98 at h
  split at h
  · cases h
    rw [run_callFunc_extern Try.func98 (by kernel_rfl) (by kernel_rfl) (by kernel_rfl) (e := Extern.MathFloatBits.float64bits) (by kernel_rfl)]; rfl
  · cases h
theorem x116 : EntOK Try.prog 116 (entX g116) := entX_ok fun v u h w => by
  unfold g116 at h
  split at h
  · cases h
    rw [run_callFunc_extern Try.func116 (by kernel_rfl) (by kernel_rfl) (by kernel_rfl) (e := Extern.MathFloatBits.float64frombits) (by kernel_rfl)]; rfl
  · cases h
theorem F0_ok : TableOK Try.prog F0 := ext_ok x98 (ext_ok x116 (T0_ok _))
theorem q156 (b : Nat) (h : FB b) : w156L b = some (PV.sc (.float .f64 b), []) := by
  obtain ⟨L, K, h⟩ := h
  rw [w156]
  have := abs_bits h
  rw [show IntKind.u64.bits = 64 from rfl, this, Int.toNat_natCast]
theorem F1_ok : TableOK Try.prog F1 := ext_ok (entV_ok Try.call156 (liftV F0_ok mixed Try.func156 (show Try.f156.body = some (bodyF Try.f156) from rfl) (noCuts_ok _) (by decide) fun v h => q156 v.1 (bp_true.1 h))) F0_ok
theorem q151 (b : Nat) (k : Int) (h : FB b ∧ k = 0) : w151L b k = some (PV.sc (.bool false), []) := by
  obtain ⟨hb, rfl⟩ := h
  obtain ⟨L, K, h⟩ := hb
  rw [w151]
  have e : FloatKind.f64.format.order b 9218868437227405311 = some .lt := order_max h
  rw [e]
  exact guard_split (bp_mk ⟨L, K, h⟩) rfl
theorem q152 (b : Nat) (h : FB b) : w152L b = some (PV.sc (.bool false), []) := by
  obtain ⟨L, K, h⟩ := h
  rw [w152]
  have e : FloatKind.f64.format.order b b = some .eq := order_self h
  rw [e]; rfl
theorem q153 (b : Nat) (h : FB b) : w153L b = some (PV.tup [PV.sc (.float .f64 b), PV.sc (.int .i64 0)], []) := by
  obtain ⟨L, K, h⟩ := h
  rw [w153]
  have e : FloatKind.f64.format.order b 4503599627370496 = some .gt := order_min h
  rw [e]
  exact guard_split (bp_mk ⟨L, K, h⟩) rfl
theorem F2_ok : TableOK Try.prog F2 :=
  ext_ok (entV_ok Try.call151 (liftV F1_ok mixed Try.func151 (show Try.f151.body = some (bodyF Try.f151) from rfl) (noCuts_ok _) (by decide) fun v h => q151 v.1 v.2.1 (bp_true.1 h))) <|
  ext_ok (entV_ok Try.call152 (liftV F1_ok mixed Try.func152 (show Try.f152.body = some (bodyF Try.f152) from rfl) (noCuts_ok _) (by decide) fun v h => q152 v.1 (bp_true.1 h))) <|
  ext_ok (entV_ok Try.call153 (liftV F1_ok mixed Try.func153 (show Try.f153.body = some (bodyF Try.f153) from rfl) (noCuts_ok _) (by decide) fun v h => q153 v.1 (bp_true.1 h))) F1_ok
theorem q143 (b : Nat) (k : Int) (h : (b = 0 ∨ FB b) ∧ k = 0) : w143L b k = some (PV.sc (.float .f64 b), []) := by
  obtain ⟨hb, rfl⟩ := h
  rcases hb with rfl | ⟨L, K, h⟩
  · rw [w143, show FloatKind.f64.format.order 0 0 = some .eq by decide]; rfl
  · have hl := h.l
    have e0 : FloatKind.f64.format.order b 0 = some .gt := order_zero h
    have e1 := exp_bits h
    have e2 := low_bits hl
    have e3 := frac_bits h
    have e4 := put_bits h
    have e5 : floatBits BinOp.mul FloatKind.f64 4607182418800017408 b = some b := mul_one h
    have w1 : IntKind.i64.wrap (((L + 1023 : Nat) : Int) - 1023) = (L : Int) := by rw [IntWalk.i64_in _ (by omega)]; omega
    have w2 : IntKind.i64.wrap (L : Int) = (L : Int) := IntWalk.i64_in _ (by omega)
    have w3 : IntKind.i64.wrap (IntKind.i64.wrap (0 + 0) + (L : Int)) = (L : Int) := by rw [show IntKind.i64.wrap (0 + 0) = 0 from rfl, Int.zero_add, w2]
    have w4 : IntKind.i64.wrap ((L : Int) + 1023) = ((L + 1023 : Nat) : Int) := by rw [IntWalk.i64_in _ (by omega)]; omega
    have w5 : IntKind.u64.wrap ((L + 1023 : Nat) : Int) = ((L + 1023 : Nat) : Int) := u64_in (by omega) (by omega)
    have w6 : IntKind.u64.wrap (((L + 1023 : Nat) : Int) * 4503599627370496) = (((L + 1023) * 4503599627370496 : Nat) : Int) := by rw [u64_in (by omega) (by omega)]; omega
    rw [w143, e0, e1]
    rw [show IntKind.i64.bits = 64 from rfl, show IntKind.u64.bits = 64 from rfl, e2, w1, w3, e3, w4, w5, w6, e4, Int.toNat_natCast]
    refine guard_split (bp_mk ⟨⟨L, K, h⟩, rfl⟩) (guard_split (bp_mk ⟨L, K, h⟩) (guard_split (bp_mk ⟨L, K, h⟩) ?_))
    rw [decide_eq_false (show ¬ (L : Int) < -1075 by omega), decide_eq_false (show ¬ (L : Int) > 1023 by omega), decide_eq_false (show ¬ (L : Int) < -1022 by omega), e5]
    rfl
theorem F3_ok : TableOK Try.prog F3 := ext_ok (entV_ok Try.call143 (liftV F2_ok mixed Try.func143 (show Try.f143.body = some (bodyF Try.f143) from rfl) (noCuts_ok _) (by decide) fun v h => q143 v.1 v.2.1 (bp_true.1 h))) F2_ok
theorem q126 (b : Nat) (k : Int) (h : (b = 0 ∨ FB b) ∧ k = 0) : w126L b k = some (PV.sc (.float .f64 b), []) := by
  rw [w126]; exact guard_split (bp_mk h) rfl
theorem F4_ok : TableOK Try.prog F4 := ext_ok (entV_ok Try.call126 (liftV F3_ok mixed Try.func126 (show Try.f126.body = some (bodyF Try.f126) from rfl) (noCuts_ok _) (by decide) fun v h => q126 v.1 v.2.1 (bp_true.1 h))) F3_ok
theorem fbits_ok {n : Int} (h0 : 0 ≤ n) (h1 : n ≤ 2000000) : fbits n = 0 ∨ FB (fbits n) := by
  obtain ⟨m, rfl⟩ := Int.eq_ofNat_of_zero_le h0
  cases m with
  | zero => exact Or.inl (by decide)
  | succ m =>
    right
    have e : fbits (((m + 1 : Nat)) : Int) = Ieee.double.nearest false (m + 1) 0 := by
      show Ieee.double.nearest (decide ((((m + 1 : Nat)) : Int) < 0)) (((m + 1 : Nat)) : Int).natAbs 0 = _
      rw [decide_eq_false (show ¬ (((m + 1 : Nat)) : Int) < 0 by omega), Int.natAbs_natCast]
    rw [e]
    exact at_int (by omega) (by omega)
theorem q94 (n k : Int) (h : 0 ≤ n ∧ n ≤ 2000000 ∧ k = 0) : w94L n k = some (PV.tup [PV.sc (.int .u64 (fbits n : Int)), PV.sc (.int .i64 0)], []) := by
  obtain ⟨h0, h1, rfl⟩ := h
  rw [w94]
  exact guard_split (bp_mk ⟨fbits_ok h0 h1, rfl⟩) rfl
theorem F5_ok : TableOK Try.prog F5 := ext_ok (entV_ok Try.call94 (liftV F4_ok mixed Try.func94 (show Try.f94.body = some (bodyF Try.f94) from rfl) (noCuts_ok _) (by decide) fun v h => q94 v.1 v.2.1 (of_decide_eq_true h))) F4_ok
end Go.Proofs.YtacdahpjmeianaaWi
