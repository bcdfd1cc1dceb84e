/- What is laid here: the plain functions of reading numbers out of bytes and of floats of any whole number, with their tables and loops. Definitions alone; no condition. -/
import Derived.Test.YtacdahpjmeianaaTwi6
import Derived.Test.YtacdahpjmeianaaTwh
namespace Go.Proofs.YtacdahpjmeianaaWi
open Go Go.Proofs Go.Proofs.YtacdahpjmeianaaEv Go.Proofs.YtacdahpjmeianaaFl
def FS (b : Nat) : Prop := ∃ s L K, Bs b s L K
noncomputable def G1 : Table := ext 156 (entV [sF] (specP [sF] [sF] (fun v => bp (FS v.1)) fun v => (v.1 % 9223372036854775808, ()))) F0
noncomputable def G2 : Table :=
  ext 151 (entV [sF, sI] (specP [sF, sI] [sB] (fun v => bp (FS v.1 ∧ v.2.1 = 0)) fun _ => (false, ()))) <|
  ext 152 (entV [sF] (specP [sF] [sB] (fun v => bp (FS v.1)) fun _ => (false, ()))) <|
  ext 153 (entV [sF] (specP [sF] [sF, sI] (fun v => bp (FS v.1)) fun v => (v.1, 0, ()))) G1
noncomputable def G3 : Table := ext 143 (entV [sF, sI] (specP [sF, sI] [sF] (fun v => bp ((v.1 = 0 ∨ FS v.1) ∧ v.2.1 = 0)) fun v => (v.1, ()))) G2
noncomputable def G4 : Table := ext 126 (entV [sF, sI] (specP [sF, sI] [sF] (fun v => bp ((v.1 = 0 ∨ FS v.1) ∧ v.2.1 = 0)) fun v => (v.1, ()))) G3
noncomputable def e94G : TabEnt := entV [sI, sI] (specP [sI, sI] [sU, sI] (fun v => bp (-9223372036854775808 ≤ v.1 ∧ v.1 ≤ 9223372036854775807 ∧ v.2.1 = 0)) fun v => ((fbits v.1 : Int), 0, ()))
/-! ### Numbers out of bytes -/
def numL : Int → List Int → Int
  | n, [] => n
  | n, x :: r => numL (n * 256 + x) r
abbrev kGt : List Shp := [sS, sI, sU, sI, sI]
def okGt (s : ByteArray) (a n k i : Int) : Prop := s.size ≤ 140737488355328 ∧ 0 ≤ a ∧ a + k ≤ (s.size : Int) ∧ 0 ≤ i ∧ i ≤ k ∧ k ≤ 8 ∧ 0 ≤ n ∧ n < 256 ^ i.toNat
noncomputable def cGt : SpecC kGt := cut1 kGt [sU] (fun v => bp (okGt v.1 v.2.1 v.2.2.1 v.2.2.2.1 v.2.2.2.2.1)) (.exit 0) (fun v => (numL v.2.2.1 (((bytesI v.1).drop (v.2.1 + v.2.2.2.2.1).toNat).take (v.2.2.2.1 - v.2.2.2.2.1).toNat), ())) (same kGt)
def muGt : denA kGt → Nat := fun v => (v.2.2.2.1 - v.2.2.2.2.1).toNat
/-- The number in k bytes from a on. -/
noncomputable def getN (s : ByteArray) (a k : Int) : Int := Classical.choose (⟨_, rfl⟩ : ∃ n, n = numL 0 (((bytesI s).drop a.toNat).take k.toNat))
theorem getN_eq (s : ByteArray) (a k : Int) : getN s a k = numL 0 (((bytesI s).drop a.toNat).take k.toNat) := Classical.choose_spec (⟨_, rfl⟩ : ∃ n, n = numL 0 (((bytesI s).drop a.toNat).take k.toNat))
def okG (s : ByteArray) (a k : Int) : Prop := s.size ≤ 140737488355328 ∧ 0 ≤ a ∧ a + k ≤ (s.size : Int) ∧ 0 ≤ k ∧ k ≤ 8
abbrev kNu : List Shp := [sS, sI, sI, sI]
def okNu (s : ByteArray) (n k i : Int) : Prop := k = (s.size : Int) ∧ 0 ≤ i ∧ i ≤ k ∧ k ≤ 7 ∧ 0 ≤ n ∧ n < 256 ^ i.toNat
noncomputable def cNu : SpecC kNu := cut1 kNu [sI] (fun v => bp (okNu v.1 v.2.1 v.2.2.1 v.2.2.2.1)) (.exit 0) (fun v => (numL v.2.1 ((bytesI v.1).drop v.2.2.2.1.toNat), ())) (same kNu)
def muNu : denA kNu → Nat := fun v => (v.2.2.1 - v.2.2.2.1).toNat
noncomputable def numS (s : ByteArray) : Int := Classical.choose (⟨_, rfl⟩ : ∃ n, n = numL 0 (bytesI s))
theorem numS_eq (s : ByteArray) : numS s = numL 0 (bytesI s) := Classical.choose_spec (⟨_, rfl⟩ : ∃ n, n = numL 0 (bytesI s))
/-! ### The parts of a float -/
def okU (b : Int) : Prop := 0 ≤ b ∧ b < 18446744073709551616
def pNeg (b : Int) : Bool := decide (9223372036854775808 ≤ b)
def pHas (b : Int) : Bool := decide (0 < b / 4503599627370496 % 2048)
def pExp (b : Int) : Int := bif pHas b then b / 4503599627370496 % 2048 - 1075 else -1074
def pMan (b : Int) : Int := bif pHas b then b % 4503599627370496 + 4503599627370496 else b % 4503599627370496
def pFin (b : Int) : Bool := decide (b / 4503599627370496 % 2048 ≠ 2047)
end Go.Proofs.YtacdahpjmeianaaWi
