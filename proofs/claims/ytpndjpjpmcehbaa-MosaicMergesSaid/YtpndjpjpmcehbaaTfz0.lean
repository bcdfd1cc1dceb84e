/- What is laid here: the plain functions on spots that the law FuseSpots reaches. Definitions alone; no condition. -/
import Derived.Test.YtpndjpjpmcehbaaTk2
namespace Go.Proofs.YtpndjpjpmcehbaaFz
open Go Go.Proofs Go.Proofs.YtpndjpjpmcehbaaEv Go.Proofs.YtpndjpjpmcehbaaTk
abbrev Sp' := kSpot.den
abbrev Pt := kP.den
abbrev rSp : Shp := .s (.ro kSpot)
abbrev oSp : Shp := .s (.ow kSpot)
abbrev iSp : Shp := .s (.io kSpot)
abbrev bSp : Shp := .s (.bx ⟨true, kSpot⟩)
abbrev bI : Shp := .s (.bx ⟨false, I⟩)
abbrev rI : Shp := .s (.ro I)
abbrev sNil : Shp := .s (.con (.slice none 0 0))
abbrev cF : Shp := .fn 110 [.bx ⟨true, kSpot⟩, .bx ⟨false, I⟩]
abbrev sE (s : Sp') : Int := spotE s.1 s.2.1.1 s.2.1.2 s.2.2.1 s.2.2.2.1 s.2.2.2.2
def far (x y x' y' : Int) : Int := W (W (W (x - x') * W (x - x')) + W (W (y - y') * W (y - y')))
def apt (a b : Int) : Int := max (W (a - b)) (W (b - a))
def aptR (a b : Int) : Int := bif decide (a < b) then W (b - a) else W (a - b)
def cmpI (a b : Int) : Int := bif decide (a < b) then -1 else bif decide (a > b) then 1 else 0
def orL : List Int → Int
  | [] => 0
  | x :: r => bif decide (x = 0) then orL r else x
def cmpS (a b : Sp') : Int := orL [cmpI a.1 b.1, cmpI a.2.2.2.2 b.2.2.2.2, cmpI a.2.1.1 b.2.1.1, cmpI a.2.1.2 b.2.1.2, cmpI a.2.2.1 b.2.2.1, cmpI a.2.2.2.1 b.2.2.2.1]
def srtS (l : List Sp') : List Sp' := l.mergeSort fun x y => !decide (cmpS y x < 0)
def bandE (b : Int) : Int := bif decide (b < 0) || decide (b > 60000) then 4 else 0
def likeB (a b : Sp') (band : Int) : Bool :=
  decide (a.1 = b.1) && (decide (a.2.2.2.1 ≥ 0) && (decide (a.2.2.2.1 = b.2.2.2.1) && (decide (far a.2.1.1 a.2.1.2 b.2.1.1 b.2.1.2 ≤ W (W (a.2.2.2.2 + b.2.2.2.2) * W (a.2.2.2.2 + b.2.2.2.2))) && decide (apt a.2.2.1 b.2.2.1 ≤ band))))
def likeS (a b : Sp') (band : Int) : Bool × Int :=
  bif decide (sE a = 0) then (bif decide (sE b = 0) then (bif decide (bandE band = 0) then (likeB a b band, 0) else (false, 4)) else (false, sE b)) else (false, sE a)
noncomputable def Z1 : Table :=
  ext 138 (entV [sI] (specP [sI] [sB] (fun _ => true) fun _ => (false, ()))) <|
  ext 49 (entV [sP, sP] (specP [sP, sP] [sI] (fun _ => true) fun v => (far v.1.1 v.1.2 v.2.1.1 v.2.1.2, ()))) <|
  ext 50 (entV [sI, sI] (specP [sI, sI] [sI] (fun _ => true) fun v => (aptR v.1 v.2.1, ()))) <|
  ext 136 (entV [sP, sP] (specP [sP, sP] [sI] (fun _ => true) fun v => (far v.1.1 v.1.2 v.2.1.1 v.2.1.2, ()))) <|
  ext 137 (entV [sI, sI] (specP [sI, sI] [sI] (fun _ => true) fun v => (apt v.1 v.2.1, ()))) T3
abbrev k112 : List Shp := [sI, rI, sI, sI]
def pre112 (z : Int) (l : List Int) (n k : Int) : Bool := decide (z = 0 ∧ l.length ≤ 1000 ∧ n = l.length ∧ 0 ≤ k ∧ k ≤ n)
def c112 : SpecC k112 := cut2 k112 [.un] [sI] (fun v => pre112 v.1 v.2.1.1 v.2.2.1 v.2.2.2.1) (fun v => decide (orL (v.2.1.1.drop v.2.2.2.1.toNat) = 0)) (.exit 0) .ret (fun _ => ((), ())) (fun v => (orL (v.2.1.1.drop v.2.2.2.1.toNat), ())) (same k112) (same k112)
def mu112 : denA k112 → Nat := fun v => (v.2.2.1 - v.2.2.2.1).toNat
noncomputable def Z2 : Table :=
  ext 113 (entV [sI, sI] (specP [sI, sI] [sI] (fun _ => true) fun v => (cmpI v.1 v.2.1, ()))) <|
  ext 112 (entV [rI] (specP [rI] [sI] (fun v => decide (v.1.1.length ≤ 1000)) fun v => (orL v.1.1, ()))) <|
  ext 111 (entV [sSpot, sSpot, sI] (specP [sSpot, sSpot, sI] [sB, sI] (fun _ => true) fun v => ((likeS v.1 v.2.1 v.2.2.1).1, (likeS v.1 v.2.1 v.2.2.1).2, ()))) Z1
noncomputable def Z3 : Table :=
  ext 67 (entV [sSpot, sSpot] (specP [sSpot, sSpot] [sI] (fun _ => true) fun v => (cmpS v.1 v.2.1, ()))) <|
  ext 110 (entV [sSpot, bSp, bI] (specP [sSpot, bSp, bI] [sB] (fun _ => true) fun v => ((likeS v.1 v.2.1 v.2.2.1).1, ()))) Z2
/-! ### The first that fits -/
def qS (s : Sp') (b : Int) (t : Sp') : Bool := (likeS t s b).1
def fiK (p : Sp' → Bool) : List Sp' → Int → Option Int
  | [], _ => none
  | x :: r, k => bif p x then some k else fiK p r (k + 1)
def fiV (p : Sp' → Bool) (l : List Sp') (k : Int) : Option Int := fiK p (l.drop k.toNat) k
abbrev kFi : List Shp := [rSp, cF, sI, sI]
def preFi (l : List Sp') (n k : Int) : Bool := decide (l.length ≤ 1000 ∧ n = l.length ∧ 0 ≤ k ∧ k ≤ n)
def cFi : SpecC kFi := cut2 kFi [.un] [sI] (fun v => preFi v.1.1 v.2.2.1 v.2.2.2.1) (fun v => (fiV (qS v.2.1.1 v.2.1.2.1) v.1.1 v.2.2.2.1).isNone) (.exit 0) .ret (fun _ => ((), ())) (fun v => ((fiV (qS v.2.1.1 v.2.1.2.1) v.1.1 v.2.2.2.1).getD 0, ())) (same kFi) (same kFi)
def muFi : denA kFi → Nat := fun v => (v.2.2.1 - v.2.2.2.1).toNat
def anyI (p : Sp' → Bool) (l : List Sp') : Int := (fiV p l 0).getD (-1)
abbrev kAn : List Shp := [rSp, cF]
abbrev k108 : List Shp := [iSp, .fn 67 []]
def spec107 : SpecV [rSp] := fun v => (decide (v.1.1.length ≤ 1000), [(v.1.2, ansV [rSp] v [sNil] ((), ()) (same [rSp] v)), (true, ansV [rSp] v [oSp] ((v.1.1, false), ()) (same [rSp] v))])
noncomputable def Z4 : Table :=
  ext 135 (entV kAn (specP kAn [sI] (fun v => decide (v.1.1.length ≤ 1000)) fun v => (anyI (qS v.2.1.1 v.2.1.2.1) v.1.1, ()))) <|
  ext 107 (entV [rSp] spec107) <|
  ext 108 (entV k108 (spec1 k108 [] (fun v => decide (v.1.1.length ≤ 1000)) (fun _ => ()) fun v => (srtS v.1.1, (), ()))) Z3
noncomputable def Z5 : Table := ext 109 (entV kAn (specP kAn [sB] (fun v => decide (v.1.1.length ≤ 1000)) fun v => (v.1.1.any (qS v.2.1.1 v.2.1.2.1), ()))) Z4
/-! ### Spots -/
def okS (l : List Sp') : Bool := l.all fun s => decide (sE s = 0)
abbrev k65a : List Shp := [rSp, sI, sI]
def pre65a (l : List Sp') (n k : Int) : Bool := decide (l.length ≤ 1000 ∧ n = l.length ∧ 0 ≤ k ∧ k ≤ n)
def c65a : SpecC k65a := cut2 k65a [.un, .un] [sNil, sI] (fun v => pre65a v.1.1 v.2.1 v.2.2.1) (fun v => okS (v.1.1.drop v.2.2.1.toNat)) (.exit 0) .ret (fun _ => ((), (), ())) (fun _ => ((), 4, ())) (same k65a) (same k65a)
def mu65a : denA k65a → Nat := fun v => (v.2.1 - v.2.2.1).toNat
def dd (b : Int) : List Sp' → List Sp' → List Sp'
  | acc, [] => acc
  | acc, s :: r => bif acc.any (qS s b) then dd b acc r else dd b (acc ++ [s]) r
abbrev k65c : List Shp := [bI, oSp, rSp, sI, sI]
def pre65c (acc l : List Sp') (n k : Int) : Bool := decide (l.length ≤ 1000 ∧ n = l.length ∧ 0 ≤ k ∧ k ≤ n ∧ acc.length ≤ k)
def ddK (b : Int) (acc l : List Sp') (k : Int) : List Sp' := dd b acc (l.drop k.toNat)
def c65c : SpecC k65c := cut1 k65c [oSp] (fun v => pre65c v.2.1.1 v.2.2.1.1 v.2.2.2.1 v.2.2.2.2.1) (.exit 2) (fun v => ((ddK v.1 v.2.1.1 v.2.2.1.1 v.2.2.2.2.1, v.2.1.2 && decide ((ddK v.1 v.2.1.1 v.2.2.1.1 v.2.2.2.2.1).length = v.2.1.1.length)), ())) (same k65c)
def mu65c : denA k65c → Nat := fun v => (v.2.2.2.1 - v.2.2.2.2.1).toNat
def spE (l : List Sp') (b : Int) : Int := bif decide (128 < l.length) then 2 else bif okS l then bandE b else 4
def spL (l : List Sp') (b : Int) : List Sp' := dd b [] (srtS l)
abbrev k65 : List Shp := [rSp, sI]
def spec65 : SpecV k65 := fun v => (!v.1.2 || decide (v.1.1.length = 0), [(decide (spE v.1.1 v.2.1 = 0), ansV k65 v [oSp, sI] ((spL v.1.1 v.2.1, decide ((spL v.1.1 v.2.1).length = 0)), 0, ()) (same k65 v)), (true, ansV k65 v [sNil, sI] ((), spE v.1.1 v.2.1, ()) (same k65 v))])
noncomputable def Z6 : Table := ext 65 (entV k65 spec65) Z5
end Go.Proofs.YtpndjpjpmcehbaaFz
