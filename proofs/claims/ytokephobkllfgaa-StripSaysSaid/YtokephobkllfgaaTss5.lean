/- What is laid here: the plain functions of Equal, Insert, sorted and Bay of a board, their tables and loops. Definitions alone; no condition. -/
import Derived.Test.YtokephobkllfgaaTss4
import Derived.Sort.Defs
import Derived.Shelf.SlSortCmp.Insertion
namespace Go.Proofs.YtokephobkllfgaaSs
open Go Go.Proofs Go.Proofs.YtokephobkllfgaaEv
def eqS (x y : Strip) : Bool := decide (x.1 = y.1) && (decide (x.2.1 = y.2.1) && (x.2.2.1 == y.2.2.1 && (x.2.2.2.1 == y.2.2.2.1 && (x.2.2.2.2 == y.2.2.2.2 && true))))
def eqL : List Strip → List Strip → Bool
  | [], [] => true
  | x :: r, y :: s => eqS x y && eqL r s
  | _, _ => false
abbrev kEq : List Shp := [rS, rS, sI, sI]
def preEq (l m : List Strip) (n k : Int) : Bool := decide (n = l.length ∧ m.length = l.length ∧ 0 ≤ k ∧ k ≤ n ∧ n ≤ 100)
def cEq : SpecC kEq := cut2 kEq [.un] [sB] (fun v => preEq v.1.1 v.2.1.1 v.2.2.1 v.2.2.2.1) (fun v => eqL (v.1.1.drop v.2.2.2.1.toNat) (v.2.1.1.drop v.2.2.2.1.toNat)) (.exit 0) .ret (fun _ => ((), ())) (fun _ => (false, ())) (same kEq) (same kEq)
def muEq : denA kEq → Nat := fun v => (v.2.2.1 - v.2.2.2.1).toNat
/-- slices.Insert. -/
abbrev oS : Shp := .s (.ow kS)
abbrev kIn : List Shp := [oS, sI, oS]
def insS (xs : List Strip) (i : Int) (ys : List Strip) : List Strip := xs.take i.toNat ++ (ys ++ xs.drop i.toNat)
def pre47 (xs : List Strip) (i : Int) (ys : List Strip) : Bool := decide (0 ≤ i ∧ i ≤ (xs.length : Int) ∧ xs.length ≤ 1000 ∧ ys.length = 1)
def sp47 : SpecV kIn := fun v => (pre47 v.1.1 v.2.1 v.2.2.1.1, [(true, (.sl 2 0 5 (v.1.1.length + 1) (v.1.1.length + 1) false false, [.dead, .row true kS v.2.2.1.1, .row true kS (insS v.1.1 v.2.1 v.2.2.1.1)]))])
/-- sorted. -/
def ltT (y x : Strip) : Bool := decide (y.2.2.1 < x.2.2.1) || (y.2.2.1 == x.2.2.1 && Op.bytesLess y.1.data.toList x.1.data.toList)
def posS (x : Strip) : List Strip → Nat
  | [] => 0
  | y :: r => bif ltT y x then posS x r + 1 else 0
abbrev kAt : List Shp := [rS, .s xT, sI]
def preAt (l : List Strip) (k : Int) : Bool := decide (0 ≤ k ∧ k ≤ (l.length : Int) ∧ l.length ≤ 100)
def cAt : SpecC kAt := cut1 kAt [sI] (fun v => preAt v.1.1 v.2.2.1) (.exit 2) (fun v => (v.2.2.1 + posS v.2.1 (v.1.1.drop v.2.2.1.toNat), ())) (same kAt)
def muAt : denA kAt → Nat := fun v => ((v.1.1.length : Int) - v.2.2.1).toNat
abbrev kSo : List Shp := [sI, oS, rS, sI, sI]
def preSo (out l : List Strip) (n k : Int) : Bool := decide (n = l.length ∧ 0 ≤ k ∧ k ≤ n ∧ n ≤ 100 ∧ (out.length : Int) ≤ k)
def soR (b : Int) : List Strip × Bool → List Strip → List Strip × Bool
  | o, [] => o
  | o, x :: r => bif x.2.2.2.2 != b then soR b o r else soR b (insS o.1 (posS x o.1) [x], false) r
def baR (b : Int) : List Strip × Bool → List Strip → List Strip × Bool
  | o, [] => o
  | o, x :: r => bif x.2.2.2.2 == b then baR b (o.1 ++ [x], false) r else baR b o r
def cSo : SpecC kSo := cut1 kSo [oS] (fun v => preSo v.2.1.1 v.2.2.1.1 v.2.2.2.1 v.2.2.2.2.1) (.exit 0) (fun v => (soR v.1 v.2.1 (v.2.2.1.1.drop v.2.2.2.2.1.toNat), ())) (same kSo)
def muSo : denA kSo → Nat := fun v => (v.2.2.2.1 - v.2.2.2.2.1).toNat
abbrev kSr : List Shp := [rS, sI]
def cBa : SpecC kSo := cut1 kSo [oS] (fun v => preSo v.2.1.1 v.2.2.1.1 v.2.2.2.1 v.2.2.2.2.1) (.exit 0) (fun v => (baR v.1 v.2.1 (v.2.2.1.1.drop v.2.2.2.2.1.toNat), ())) (same kSo)
/-- slices.SortFunc by cmpT. -/
abbrev k43 : List Shp := [.s (.io kS), .fn 44 []]
instance : Inhabited Strip := ⟨(⟨#[]⟩, ⟨#[]⟩, 0, 0, 0)⟩
noncomputable def srtT (l : List Strip) : List Strip := (Go.Sort.pdq (Go.Proofs.ltOf cmpT) l.toArray 0 l.length (Go.Lib.bitLen l.length) true true).toList
noncomputable def U8 : Table :=
  ext 47 (entV kIn sp47) <| ext 43 (entV k43 (spec1 k43 [] (fun v => decide (v.1.1.length ≤ 1000)) (fun _ => ()) fun v => (srtT v.1.1, (), ()))) <|
  ext 19 (entV [rS, rS] (specP [rS, rS] [sB] (fun v => decide (v.1.1.length ≤ 100 ∧ v.2.1.1.length ≤ 100)) fun v => (eqL v.1.1 v.2.1.1, ()))) U7
abbrev bay3 (L R : List Strip) (n : Nat) (nl : Bool) : List Blk := [.fix true [.sl 3 0 5 n n false nl], .dead, .row true kS R, .row true kS L]
noncomputable def sp20 (v : V41) : Bool × List (Bool × PV × List Blk) := (okV v.2, [(true, (.sl 2 0 5 (baR v.1 ([], true) v.2.1).1.length (baR v.1 ([], true) v.2.1).1.length false (baR v.1 ([], true) v.2.1).2, bay3 v.2.1 (srtT (baR v.1 ([], true) v.2.1).1) v.2.2.1 v.2.2.2.2.2))])
def sp20n (_ : Int) : Bool × List (Bool × PV × List Blk) := (true, [(true, (.sl 1 0 5 0 0 false true, [.fix true [.sc (.slice none 0 0)], .row true kS []]))])
noncomputable def U9 : Table :=
  ext 21 (entV kSr (spec1 kSr [oS] (fun v => decide (v.1.1.length ≤ 100)) (fun v => (soR v.2.1 ([], true) v.1.1, ())) (same kSr))) <|
  ext 20 (orE (entF p41 sp20) (entF p41n sp20n)) U8
end Go.Proofs.YtokephobkllfgaaSs
