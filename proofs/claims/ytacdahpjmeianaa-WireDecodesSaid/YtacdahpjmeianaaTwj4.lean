/- What is laid here: the plain functions of decoding frames, with their tables and loops. Definitions alone; no condition. -/
import Derived.Test.YtacdahpjmeianaaTwj3
namespace Go.Proofs.YtacdahpjmeianaaWi
open Go Go.Proofs Go.Proofs.YtacdahpjmeianaaEv Go.Proofs.YtacdahpjmeianaaFl
/-! ### A plot -/
noncomputable def plP (s : ByteArray) (a r t : Int) : P6 := (r, t, (toF (getN s a 8)).1, getN s (a + 8) 2, getN s (a + 10) 4, getN s (a + 14) 2 - 1)
noncomputable def plO (s : ByteArray) (a r t : Int) : Bool := (toF (getN s a 8)).2.2 == 0 && ((toF (getN s a 8)).2.1 && (((fbits (toF (getN s a 8)).1 : Int) == getN s a 8) && (pltE r t (plP s a r t) == 0)))
def okPl (s : ByteArray) (a : Int) : Prop := s.size ≤ 140737488355328 ∧ 0 ≤ a ∧ a + 16 ≤ (s.size : Int)
noncomputable def J3 : Table := ext 114 (entV [sS, sI, aF] (specP [sS, sI, aF] [sP, sB] (fun v => bp (okPl v.1 v.2.1)) fun v => (plP v.1 v.2.1 v.2.2.1.1 v.2.2.1.2.1, plO v.1 v.2.1 v.2.2.1.1 v.2.2.1.2.1, ()))) J2
/-! ### The plots of a frame -/
noncomputable def plsT (s : ByteArray) (r t : Int) : Int → Nat → List P6
  | _, 0 => []
  | i, c + 1 => bif plO s (9 + i * 16) r t then plP s (9 + i * 16) r t :: plsT s r t (i + 1) c else []
noncomputable def plsO (s : ByteArray) (r t : Int) : Int → Nat → Bool
  | _, 0 => true
  | i, c + 1 => plO s (9 + i * 16) r t && plsO s r t (i + 1) c
abbrev nil0 : Value := .slice none 0 0
abbrev bZ : Shp := .ob [.v ⟨false, I⟩, .v ⟨false, I⟩, .con nil0]
abbrev bO : Shp := .ob [.v ⟨false, I⟩, .v ⟨false, I⟩, .ow kP]
abbrev kDe : List Shp := [sS, bZ, sI, sI, bO, sI, sI]
def okDe (s : ByteArray) (l : List P6) (n i : Int) (r0 t0 : Int) : Prop := s.size ≤ 140737488355328 ∧ 0 ≤ i ∧ i ≤ n ∧ n ≤ 32 ∧ 11 + 16 * n ≤ (s.size : Int) ∧ (l.length : Int) ≤ i ∧ r0 = 0 ∧ t0 = 0
noncomputable def flagD (s : ByteArray) (r t n i : Int) (nl : Bool) : Bool := bif decide (i < n) && plO s (9 + i * 16) r t then false else nl
noncomputable def postDe (v : denA kDe) : postD kDe := ((), (0, 0, (), ()), (), (), (v.2.2.2.2.1.1, v.2.2.2.2.1.2.1, (v.2.2.2.2.1.2.2.1.1 ++ plsT v.1 v.2.2.2.2.1.1 v.2.2.2.2.1.2.1 v.2.2.2.2.2.2.1 (v.2.2.2.2.2.1 - v.2.2.2.2.2.2.1).toNat, flagD v.1 v.2.2.2.2.1.1 v.2.2.2.2.1.2.1 v.2.2.2.2.2.1 v.2.2.2.2.2.2.1 v.2.2.2.2.1.2.2.1.2), ()), (), (), ())
noncomputable def cDe : SpecC kDe := cut2 kDe [sI, sI] [sI, sI] (fun v => bp (okDe v.1 v.2.2.2.2.1.2.2.1.1 v.2.2.2.2.2.1 v.2.2.2.2.2.2.1 v.2.1.1 v.2.1.2.1))
  (fun v => plsO v.1 v.2.2.2.2.1.1 v.2.2.2.2.1.2.1 v.2.2.2.2.2.2.1 (v.2.2.2.2.2.1 - v.2.2.2.2.2.2.1).toNat) (.exit 0) .ret (fun v => (v.2.2.1, v.2.2.2.1, ())) (fun _ => (0, 3, ())) postDe postDe
def muDe : denA kDe → Nat := fun v => (v.2.2.2.2.2.1 - v.2.2.2.2.2.2.1).toNat
/-! ### The reference's plots -/
def geZ (b : Nat) : Bool := FloatKind.f64.format.order b 0 == some .gt || FloatKind.f64.format.order b 0 == some .eq
def leM (b : Nat) : Bool := FloatKind.f64.format.order b 4701340746312056832 == some .lt || FloatKind.f64.format.order b 4701340746312056832 == some .eq
noncomputable def fO (s : ByteArray) (a : Int) : Bool := geZ (getN s a 8).toNat && leM (getN s a 8).toNat
noncomputable def fR (s : ByteArray) (a : Int) : Int := (floatToIntVal .f64 (getN s a 8).toNat .i64).getD 0
noncomputable def fP (s : ByteArray) (a r t : Int) : P6 := (r, t, fR s a, getN s (a + 8) 2, getN s (a + 10) 4, getN s (a + 14) 2 - 1)
noncomputable def flT (s : ByteArray) (r t : Int) : Int → Nat → List P6
  | _, 0 => []
  | i, c + 1 => bif fO s (9 + 16 * i) then fP s (9 + 16 * i) r t :: flT s r t (i + 1) c else []
noncomputable def flO (s : ByteArray) : Int → Nat → Bool
  | _, 0 => true
  | i, c + 1 => fO s (9 + 16 * i) && flO s (i + 1) c
abbrev kRe : List Shp := [sS, bZ, sI, sI, bZ, bO, sI, sI]
def okRe (s : ByteArray) (l : List P6) (n i r0 t0 r1 t1 : Int) : Prop := okDe s l n i r0 t0 ∧ r1 = 0 ∧ t1 = 0
noncomputable def flagR (s : ByteArray) (n i : Int) (nl : Bool) : Bool := bif decide (i < n) && fO s (9 + 16 * i) then false else nl
noncomputable def postRe (v : denA kRe) : postD kRe := ((), (0, 0, (), ()), (), (), (0, 0, (), ()), (v.2.2.2.2.2.1.1, v.2.2.2.2.2.1.2.1, (v.2.2.2.2.2.1.2.2.1.1 ++ flT v.1 v.2.2.2.2.2.1.1 v.2.2.2.2.2.1.2.1 v.2.2.2.2.2.2.2.1 (v.2.2.2.2.2.2.1 - v.2.2.2.2.2.2.2.1).toNat, flagR v.1 v.2.2.2.2.2.2.1 v.2.2.2.2.2.2.2.1 v.2.2.2.2.2.1.2.2.1.2), ()), (), (), ())
noncomputable def cRe : SpecC kRe := cut2 kRe [sI, sI] [sI, sI] (fun v => bp (okRe v.1 v.2.2.2.2.2.1.2.2.1.1 v.2.2.2.2.2.2.1 v.2.2.2.2.2.2.2.1 v.2.1.1 v.2.1.2.1 v.2.2.2.2.1.1 v.2.2.2.2.1.2.1))
  (fun v => flO v.1 v.2.2.2.2.2.2.2.1 (v.2.2.2.2.2.2.1 - v.2.2.2.2.2.2.2.1).toNat) (.exit 0) .ret (fun v => (v.2.2.1, v.2.2.2.1, ())) (fun _ => (0, 3, ())) postRe postRe
def muRe : denA kRe → Nat := fun v => (v.2.2.2.2.2.2.1 - v.2.2.2.2.2.2.2.1).toNat
/-! ### SamePlots -/
def sameL : List P6 → List P6 → Bool
  | x :: r, y :: q => decide (x = y) && sameL r q
  | _, _ => true
abbrev kSp : List Shp := [rP, rP, sI, sI, sB]
def cSp : SpecC kSp := cut2 kSp [sB] [sB] (fun v => decide (v.1.1.length = v.2.1.1.length ∧ v.2.2.1 = (v.1.1.length : Int) ∧ 0 ≤ v.2.2.2.1 ∧ v.2.2.2.1 ≤ v.2.2.1 ∧ v.2.2.1 ≤ 1000)) (fun v => sameL (v.1.1.drop v.2.2.2.1.toNat) (v.2.1.1.drop v.2.2.2.1.toNat)) (.exit 0) .ret (fun v => (v.2.2.2.2.1, ())) (fun _ => (false, ())) (same kSp) (same kSp)
def muSp : denA kSp → Nat := fun v => (v.2.2.1 - v.2.2.2.1).toNat
end Go.Proofs.YtacdahpjmeianaaWi
