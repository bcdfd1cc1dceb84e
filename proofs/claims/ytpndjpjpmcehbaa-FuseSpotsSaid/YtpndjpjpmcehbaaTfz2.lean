/- What is laid here: the loops of the law FuseSpots, told by plain functions. Definitions alone; no condition. -/
import Derived.Test.YtpndjpjpmcehbaaTfz0
namespace Go.Proofs.YtpndjpjpmcehbaaFz
open Go Go.Proofs Go.Proofs.YtpndjpjpmcehbaaEv Go.Proofs.YtpndjpjpmcehbaaTk
def lawR (out : List Sp') (e c : Int) : Bool := bif decide (e = c) then decide (((out.length : Nat) : Int) = 0) else false
abbrev kLa : List Shp := [rSp, sI, rSp, sI, sI]
def cLa : SpecC kLa := cut2 kLa [.un] [sB] (fun v => pre65a v.2.2.1.1 v.2.2.2.1 v.2.2.2.2.1) (fun v => okS (v.2.2.1.1.drop v.2.2.2.2.1.toNat)) (.exit 0) .ret (fun _ => ((), ())) (fun v => (lawR v.1.1 v.2.1 4, ())) (same kLa) (same kLa)
def muLa : denA kLa → Nat := fun v => (v.2.2.2.1 - v.2.2.2.2.1).toNat
def zSp : Sp' := (0, (0, 0), 0, 0, 0)
def minF (l : List Sp') : Nat → Nat → Nat → Nat
  | 0, _, k => k
  | d + 1, i, k => minF l d (i + 1) (bif decide (cmpS (l.getD i zSp) (l.getD k zSp) < 0) then i else k)
def minV (l : List Sp') (k i : Int) : Int := (minF l (l.length - i.toNat) i.toNat k.toNat : Nat)
abbrev kLe : List Shp := [rSp, sI, sI, sI]
def preLe (l : List Sp') (k n i : Int) : Bool := decide (l.length ≤ 1000 ∧ n = l.length ∧ 0 ≤ k ∧ k < n ∧ 0 ≤ i ∧ i ≤ n)
def cLe : SpecC kLe := cut1 kLe [sI] (fun v => preLe v.1.1 v.2.1 v.2.2.1 v.2.2.2.1) (.exit 4) (fun v => (minV v.1.1 v.2.1 v.2.2.2.1, ())) (same kLe)
def muLe : denA kLe → Nat := fun v => (v.2.2.1 - v.2.2.2.1).toNat
def lawQ (s : Sp') (b : Int) (x : Sp') : Bool :=
  decide (x.1 = s.1) && (decide (x.2.2.2.1 = s.2.2.2.1) && (decide (s.2.2.2.1 ≠ -1) && (decide (far x.2.1.1 x.2.1.2 s.2.1.1 s.2.1.2 ≤ W (W (x.2.2.2.2 + s.2.2.2.2) * W (x.2.2.2.2 + s.2.2.2.2))) && decide (aptR x.2.2.1 s.2.2.1 ≤ b))))
abbrev kLg : List Shp := [sI, bSp, sB, rSp, sI, sI]
def cLg : SpecC kLg := cut1 kLg [sB] (fun v => pre65a v.2.2.2.1.1 v.2.2.2.2.1 v.2.2.2.2.2.1) (.exit 6) (fun v => (v.2.2.1 || (v.2.2.2.1.1.drop v.2.2.2.2.2.1.toNat).any (lawQ v.2.1 v.1), ())) (same kLg)
def muLg : denA kLg → Nat := fun v => (v.2.2.2.2.1 - v.2.2.2.2.2.1).toNat
abbrev kLc : List Shp := [sI, oSp, oSp]
noncomputable def preLc (b : Int) (l acc : List Sp') : Bool := bp (bandE b = 0 ∧ okS l = true ∧ okS acc = true ∧ l.length + acc.length ≤ 20)
noncomputable def cLc : SpecC kLc := cut1 kLc [oSp] (fun v => preLc v.1 v.2.1.1 v.2.2.1.1) (.exit 2) (fun v => ((dd v.1 v.2.2.1.1 (srtS v.2.1.1), v.2.2.1.2 && decide ((dd v.1 v.2.2.1.1 (srtS v.2.1.1)).length = v.2.2.1.1.length)), ())) (same kLc)
def muLc : denA kLc → Nat := fun v => v.2.1.1.length
abbrev kLi : List Shp := [rSp, rSp, sI, sI]
def preLi (l l2 : List Sp') (n k : Int) : Bool := decide (l.length = l2.length ∧ n = l.length ∧ l.length ≤ 1000 ∧ 0 ≤ k ∧ k ≤ n)
noncomputable def cLi : SpecC kLi := cut2 kLi [.un] [sB] (fun v => preLi v.1.1 v.2.1.1 v.2.2.1 v.2.2.2.1) (fun v => bp (v.1.1.drop v.2.2.2.1.toNat = v.2.1.1.drop v.2.2.2.1.toNat)) (.exit 8) .ret (fun _ => ((), ())) (fun _ => (false, ())) (same kLi) (same kLi)
def muLi : denA kLi → Nat := fun v => (v.2.2.1 - v.2.2.2.1).toNat
end Go.Proofs.YtpndjpjpmcehbaaFz
