/- What is laid here: comparing lists, cutting labels, trying all positions. Definitions alone; no condition. -/
import Derived.Test.YtacdahpjmeianaaTlb3
namespace Go.Proofs.YtacdahpjmeianaaLb
open Go Go.Proofs Go.Proofs.YtacdahpjmeianaaEv
abbrev kEq : List Shp := [rI, rI, sI, sI]
def preEq (a b : List Int) (n k : Int) : Bool := decide (a.length = b.length ∧ n = a.length ∧ a.length ≤ 1000 ∧ 0 ≤ k ∧ k ≤ n)
def cEq : SpecC kEq := cut2 kEq [.un] [sB] (fun v => preEq v.1.1 v.2.1.1 v.2.2.1 v.2.2.2.1) (fun v => decide (v.1.1.drop v.2.2.2.1.toNat = v.2.1.1.drop v.2.2.2.1.toNat)) (.exit 0) .ret (fun _ => ((), ())) (fun _ => (false, ())) (same kEq) (same kEq)
def muEq : denA kEq → Nat := fun v => (v.2.2.1 - v.2.2.2.1).toNat
abbrev kE2 : List Shp := [rI, rI]
abbrev k23 : List Shp := [rIt]
def spec23 : SpecV k23 := fun v => (decide (v.1.1.length ≤ 1000), [(v.1.2, ansV k23 v [sNil] ((), ()) (same k23 v)), (true, ansV k23 v [oIt] ((v.1.1, false), ()) (same k23 v))])
noncomputable def TL : Table :=
  ext 16 (entV kE2 (specP kE2 [sB] (fun v => decide (v.1.1.length ≤ 1000)) fun v => (decide (v.1.1 = v.2.1.1), ()))) <|
  ext 26 (entV kE2 (specP kE2 [sB] (fun v => decide (v.1.1.length ≤ 1000)) fun v => (decide (v.1.1 = v.2.1.1), ()))) <|
  ext 23 (entV k23 spec23) <|
  ext 14 (entV [sI, sI, sI] (specP [sI, sI, sI] [sI] (fun v => decide (W (W (v.2.2.1 - v.2.1) + 1) ≠ 0)) fun v => (cutS v.1 v.2.1 v.2.2.1, ()))) <|
  ext 24 (entV [rIt] (specP [rIt] [sI] (fun _ => true) fun v => (chkL v.1.1, ()))) <|
  ext 25 (entV k25 (specP k25 [sB] (fun v => okAll v.1.1 v.2.1.1) fun v => (fitV v.1.1 v.2.1.1 0, ()))) T15
/-! ### The law's loops -/
def cutI (x : It) : It := (x.1, x.2.1, cutS x.2.2.1 1 6, cutS x.2.2.2 1 6)
def cutL (l : List It) (k : Nat) : List It := l.take k ++ (l.drop k).map cutI
abbrev kLa : List Shp := [iIt, sI, sI]
def cLa : SpecC kLa := cut1 kLa [] (fun v => preFi v.1.1 v.2.1 v.2.2.1) (.exit 0) (fun _ => ()) (fun v => (cutL v.1.1 v.2.2.1.toNat, (), (), ()))
def muLa : denA kLa → Nat := fun v => (v.2.1 - v.2.2.1).toNat
def pw8 (a : Int) (d : Nat) : Int := a * 8 ^ d
abbrev kLb : List Shp := [sI, sI, sI]
def preLb (a n k : Int) : Bool := decide (0 ≤ k ∧ k ≤ n ∧ n ≤ 3 ∧ a = 8 ^ k.toNat)
def cLb : SpecC kLb := cut1 kLb [sI] (fun v => preLb v.1 v.2.1 v.2.2.1) (.exit 2) (fun v => (8 ^ v.2.1.toNat, ())) (same kLb)
def muLb : denA kLb → Nat := fun v => (v.2.1 - v.2.2.1).toNat
/-- The digits of a number: so many, those from place d - 1 downwards set. -/
def setD : Nat → List Int → Int → List Int
  | 0, xs, _ => xs
  | d + 1, xs, n => setD d (xs.set d (n.tmod 8)) (n.tdiv 8)
abbrev kLd : List Shp := [iI, sI, sI]
def preLd (xs : List Int) (k n : Int) : Bool := decide (xs.length ≤ 3 ∧ -1 ≤ k ∧ k < xs.length ∧ 0 ≤ n ∧ n ≤ 512)
def cLd : SpecC kLd := cut1 kLd [] (fun v => preLd v.1.1 v.2.1 v.2.2.1) (.exit 6) (fun _ => ()) (fun v => (setD (v.2.1 + 1).toNat v.1.1 v.2.2.1, (), (), ()))
def muLd : denA kLd → Nat := fun v => (v.2.1 + 1).toNat
def digs (len : Nat) (n : Int) : List Int := setD len (List.replicate len 0) n
def fstK (l : List It) : Nat → Int → Option (List Int)
  | 0, _ => none
  | d + 1, n => bif fitV l (digs l.length n) 0 then some (digs l.length n) else fstK l d (n + 1)
def fstV (l : List It) (all n : Int) : Option (List Int) := fstK l (all - n).toNat n
abbrev kLe : List Shp := [rIt, rI, sI, sI, sI]
noncomputable def preLe (l : List It) (p : List Int) (all n : Int) : Bool := bp (l.length ≤ 3 ∧ (∀ x ∈ l, okIt x) ∧ all = 8 ^ l.length ∧ 0 ≤ n ∧ n ≤ all ∧ p.length ≤ 1000)
noncomputable def cLe : SpecC kLe := cut2 kLe [.un] [sB] (fun v => preLe v.1.1 v.2.1.1 v.2.2.2.1 v.2.2.2.2.1) (fun v => (fstV v.1.1 v.2.2.2.1 v.2.2.2.2.1).isNone) (.exit 4) .ret (fun _ => ((), ()))
  (fun v => (decide (v.2.2.1 = 0) && decide (v.2.1.1 = (fstV v.1.1 v.2.2.2.1 v.2.2.2.2.1).getD []), ())) (same kLe) (same kLe)
def muLe : denA kLe → Nat := fun v => (v.2.2.2.1 - v.2.2.2.2.1).toNat
end Go.Proofs.YtacdahpjmeianaaLb
