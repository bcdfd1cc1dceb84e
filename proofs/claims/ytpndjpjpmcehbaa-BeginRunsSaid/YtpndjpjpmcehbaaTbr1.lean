/- What is proved: the counting of bits is by each bit. No condition. -/
import Derived.Test.YtpndjpjpmcehbaaTbr0
namespace Go.Proofs.YtpndjpjpmcehbaaBr
open Go Go.Proofs Go.Proofs.YtpndjpjpmcehbaaEv
set_option maxRecDepth 100000
set_option linter.unusedSimpArgs false
set_option linter.unusedVariables false
theorem mixed : Try.prog.follows .mixedOrders = true := by kernel_rfl
noncomputable abbrev b140L (a0 : Int) := evFuncV Try.prog T0 noCuts Try.f140 (killA 0 [sU]) (showA 0 [sU] (a0, ())).1 (showA 0 [sU] (a0, ())).2
theorem b140 (a0 : Int) : b140L a0 = some (PV.sc (.int .i64 (pop64 a0)), []) := by kernel_rfl
/-! ### Bits -/
theorem w_nat (x : Nat) (h : x < 18446744073709551616) : w (x : Int) = (x : Int) := by
  unfold w IntKind.wrap
  simp [IntKind.signed, IntKind.bits]
  omega
theorem an_nat (x c : Nat) (hx : x < 18446744073709551616) (hc : c < 18446744073709551616) : an (x : Int) (c : Int) = ((x &&& c : Nat) : Int) := by
  unfold an
  rw [show (BitVec.ofInt IntKind.u64.bits (x : Int) &&& BitVec.ofInt IntKind.u64.bits (c : Int)).toNat = x &&& c by
    rw [BitVec.ofInt_natCast, BitVec.ofInt_natCast, BitVec.toNat_and, BitVec.toNat_ofNat, BitVec.toNat_ofNat]
    rw [Nat.mod_eq_of_lt (show x < 2 ^ IntKind.u64.bits from hx), Nat.mod_eq_of_lt (show c < 2 ^ IntKind.u64.bits from hc)]]
  exact w_nat _ (Nat.lt_of_le_of_lt Nat.and_le_right hc)
theorem sh_nat (x k : Nat) (hk : k ≤ 64) : sh (x : Int) (k : Int) = ((x >>> k : Nat) : Int) := by
  unfold sh
  rw [show min (Int.toNat (k : Int)) IntKind.u64.bits = k by rw [Int.toNat_natCast]; exact Nat.min_eq_left hk]
  rw [Nat.shiftRight_eq_div_pow]
  rw [Int.fdiv_eq_ediv_of_nonneg _ (by exact Int.le_of_lt (Int.pow_pos (by decide)))]
  push_cast; rfl
theorem w_add (x y : Nat) (h : x + y < 18446744073709551616) : w ((x : Int) + (y : Int)) = ((x + y : Nat) : Int) := by
  have := w_nat (x + y) h
  rwa [Int.natCast_add] at this
theorem pd_nat (x k : Nat) (hk : k ≤ 64) (h : x < 1000000000) : pd (k : Int) (x : Int) = ((x + x >>> k : Nat) : Int) := by
  unfold pd
  rw [sh_nat x k hk, w_add]
  have := Nat.shiftRight_le x k
  omega
theorem pop_nat (x : Nat) (h : x < 65536) : pop64 (x : Int) = ((popN x : Nat) : Int) := by
  have A : pa (x : Int) = ((((x >>> 1) &&& 6148914691236517205) + (x &&& 6148914691236517205) : Nat) : Int) := by
    unfold pa
    have h1 := Nat.shiftRight_le x 1
    rw [show sh (x : Int) 1 = ((x >>> 1 : Nat) : Int) from sh_nat x 1 (by decide), show an ((x >>> 1 : Nat) : Int) 6148914691236517205 = ((x >>> 1 &&& 6148914691236517205 : Nat) : Int) from an_nat _ _ (by omega) (by decide), show an (x : Int) 6148914691236517205 = ((x &&& 6148914691236517205 : Nat) : Int) from an_nat _ _ (by omega) (by decide)]
    have h2 : x >>> 1 &&& 6148914691236517205 ≤ x >>> 1 := Nat.and_le_left
    have h3 : x &&& 6148914691236517205 ≤ x := Nat.and_le_left
    exact w_add _ _ (by omega)
  have a1 : ((x >>> 1) &&& 6148914691236517205) + (x &&& 6148914691236517205) < 200000 := by
    have h1 := Nat.shiftRight_le x 1
    have h2 : x >>> 1 &&& 6148914691236517205 ≤ x >>> 1 := Nat.and_le_left
    have h3 : x &&& 6148914691236517205 ≤ x := Nat.and_le_left
    omega
  unfold pop64 popN
  rw [A]
  generalize ((x >>> 1) &&& 6148914691236517205) + (x &&& 6148914691236517205) = y at a1
  have h1 := Nat.shiftRight_le y 2
  have h2 : y >>> 2 &&& 3689348814741910323 ≤ y >>> 2 := Nat.and_le_left
  have h3 : y &&& 3689348814741910323 ≤ y := Nat.and_le_left
  have B : pb (y : Int) = ((((y >>> 2) &&& 3689348814741910323) + (y &&& 3689348814741910323) : Nat) : Int) := by
    unfold pb
    rw [show sh (y : Int) 2 = ((y >>> 2 : Nat) : Int) from sh_nat y 2 (by decide), show an ((y >>> 2 : Nat) : Int) 3689348814741910323 = ((y >>> 2 &&& 3689348814741910323 : Nat) : Int) from an_nat _ _ (by omega) (by decide), show an (y : Int) 3689348814741910323 = ((y &&& 3689348814741910323 : Nat) : Int) from an_nat _ _ (by omega) (by decide)]
    exact w_add _ _ (by omega)
  rw [B]
  have b1 : ((y >>> 2) &&& 3689348814741910323) + (y &&& 3689348814741910323) < 400000 := by omega
  simp only
  generalize ((y >>> 2) &&& 3689348814741910323) + (y &&& 3689348814741910323) = z at b1
  have h4 := Nat.shiftRight_le z 4
  have h5 : ((z >>> 4) + z) &&& 1085102592571150095 ≤ (z >>> 4) + z := Nat.and_le_left
  have C : pc (z : Int) = ((((z >>> 4) + z) &&& 1085102592571150095 : Nat) : Int) := by
    unfold pc
    rw [show sh (z : Int) 4 = ((z >>> 4 : Nat) : Int) from sh_nat z 4 (by decide), w_add _ _ (by omega)]
    exact an_nat _ _ (by omega) (by decide)
  rw [C]
  have c1 : ((z >>> 4) + z) &&& 1085102592571150095 < 800000 := by omega
  generalize ((z >>> 4) + z) &&& 1085102592571150095 = u at c1
  have h6 := Nat.shiftRight_le u 8
  rw [show pd 8 (u : Int) = ((u + u >>> 8 : Nat) : Int) from pd_nat u 8 (by decide) (by omega)]
  have d1 : u + u >>> 8 < 1600000 := by omega
  generalize u + u >>> 8 = v at d1
  have h7 := Nat.shiftRight_le v 16
  rw [show pd 16 (v : Int) = ((v + v >>> 16 : Nat) : Int) from pd_nat v 16 (by decide) (by omega)]
  have e1 : v + v >>> 16 < 3200000 := by omega
  generalize v + v >>> 16 = t at e1
  have h8 := Nat.shiftRight_le t 32
  rw [show pd 32 (t : Int) = ((t + t >>> 32 : Nat) : Int) from pd_nat t 32 (by decide) (by omega)]
  have f1 : t + t >>> 32 < 6400000 := by omega
  generalize t + t >>> 32 = s at f1
  unfold pe
  rw [IntWalk.i64_in (s : Int) (by omega), show (BitVec.ofInt IntKind.i64.bits (s : Int) &&& BitVec.ofInt IntKind.i64.bits 127).toNat = s &&& 127 by
    rw [show (127 : Int) = ((127 : Nat) : Int) from rfl, BitVec.ofInt_natCast, BitVec.ofInt_natCast, BitVec.toNat_and, BitVec.toNat_ofNat, BitVec.toNat_ofNat]
    rw [Nat.mod_eq_of_lt (show s < 2 ^ IntKind.i64.bits by show s < 18446744073709551616; omega), Nat.mod_eq_of_lt (show 127 < 2 ^ IntKind.i64.bits by decide)]]
  have h9 : s &&& 127 ≤ s := Nat.and_le_left
  exact IntWalk.i64_in _ (by omega)
def chk (hi : Nat) : Nat → Bool
  | 0 => true
  | n + 1 => Nat.beq (popN (2 * (hi + n))) (popN (hi + n)) && Nat.beq (popN (2 * (hi + n) + 1)) (popN (hi + n) + 1) && chk hi n
def chk2 : Nat → Bool
  | 0 => true
  | n + 1 => chk (n * 256) 256 && chk2 n
theorem chk_all : chk2 128 = true := by kernel_rfl
theorem chk_at (hi : Nat) : ∀ n, chk hi n = true → ∀ k, k < n → popN (2 * (hi + k)) = popN (hi + k) ∧ popN (2 * (hi + k) + 1) = popN (hi + k) + 1
  | 0, _, k, hk => by omega
  | n + 1, h, k, hk => by
    unfold chk at h
    rw [Bool.and_eq_true, Bool.and_eq_true] at h
    obtain ⟨⟨h1, h2⟩, h3⟩ := h
    rcases Nat.lt_or_ge k n with hlt | hge
    · exact chk_at hi n h3 k hlt
    · have : k = n := by omega
      subst this
      exact ⟨Nat.eq_of_beq_eq_true h1, Nat.eq_of_beq_eq_true h2⟩
theorem chk2_at : ∀ n, chk2 n = true → ∀ x, x < n * 256 → popN (2 * x) = popN x ∧ popN (2 * x + 1) = popN x + 1
  | 0, _, x, hx => by omega
  | n + 1, h, x, hx => by
    unfold chk2 at h
    rw [Bool.and_eq_true] at h
    rcases Nat.lt_or_ge x (n * 256) with hlt | hge
    · exact chk2_at n h.2 x hlt
    · have := chk_at (n * 256) 256 h.1 (x - n * 256) (by omega)
      rwa [show n * 256 + (x - n * 256) = x by omega] at this
theorem pop_rec (x : Nat) (b : Bool) (h : x < 32768) : popN (2 * x + (bif b then 1 else 0)) = popN x + (bif b then 1 else 0) := by
  have := chk2_at 128 chk_all x h
  cases b
  · exact this.1
  · exact this.2
end Go.Proofs.YtpndjpjpmcehbaaBr
