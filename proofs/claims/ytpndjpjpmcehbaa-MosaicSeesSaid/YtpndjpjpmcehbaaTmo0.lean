/- What is laid here: the plain functions on radars, on small sorts and on sites that the law MosaicSees reaches. Definitions alone; no condition. -/
import Derived.Test.YtpndjpjpmcehbaaTk2
import Derived.Test.YtpndjpjpmcehbaaTlen
namespace Go.Proofs.YtpndjpjpmcehbaaMo
open Go Go.Proofs Go.Proofs.YtpndjpjpmcehbaaEv Go.Proofs.YtpndjpjpmcehbaaTk
abbrev St := kSpot.den
abbrev Pt := kP.den
abbrev rSt : Shp := .s (.ro kSpot)
abbrev bSt : Shp := .s (.bx ⟨true, kSpot⟩)
abbrev bP : Shp := .s (.bx ⟨true, kP⟩)
abbrev rI : Shp := .s (.ro I)
abbrev oI : Shp := .s (.ow I)
abbrev iI : Shp := .s (.io I)
abbrev sU : Shp := .s (.v ⟨false, .int .u64⟩)
abbrev sNil : Shp := .s (.con (.slice none 0 0))
abbrev cF : Shp := .fn 129 [.bx ⟨true, kSpot⟩]
abbrev stN (i x y r e a : Int) : Prop := 0 ≤ i ∧ i ≤ 255 ∧ (-1000000 ≤ x ∧ x ≤ 1000000 ∧ -1000000 ≤ y ∧ y ≤ 1000000) ∧ 1 ≤ r ∧ r ≤ 1000000 ∧ 1 ≤ e ∧ e ≤ 10000 ∧ 1 ≤ a ∧ a ≤ 100
def stE (i x y r e a : Int) : Int := bif decide (stN i x y r e a) then 0 else 4
abbrev sE (s : St) : Int := stE s.1 s.2.1.1 s.2.1.2 s.2.2.1 s.2.2.2.1 s.2.2.2.2
def far (x y x' y' : Int) : Int := W (W (W (x - x') * W (x - x')) + W (W (y - y') * W (y - y')))
def sees (s : St) (p : Pt) : Bool := decide (far s.2.1.1 s.2.1.2 p.1 p.2 ≤ W (s.2.2.1 * s.2.2.1))
def plc (p : Pt) : Bool := placedS p.1 p.2
def cov (s : St) (p : Pt) : Bool × Int := bif decide (sE s = 0) then (bif plc p then (sees s p, 0) else (false, 4)) else (false, sE s)
def site : St := (1, (0, 0), 5, 1, 1)
def less (a b : Int) : Bool := decide (a < b)
def len4 (n : Int) : Int := (Lib.bitLen n.toNat : Nat)
noncomputable def M0 : Table :=
  ext 138 (entV [sI] (specP [sI] [sB] (fun _ => true) fun _ => (false, ()))) <|
  ext 127 (entV [sSpot] (specP [sSpot] [sI] (fun _ => true) fun v => (sE v.1, ()))) <|
  ext 60 (entV [sSpot] (specP [sSpot] [sI] (fun _ => true) fun v => (sE v.1, ()))) <|
  ext 49 (entV [sP, sP] (specP [sP, sP] [sI] (fun _ => true) fun v => (far v.1.1 v.1.2 v.2.1.1 v.2.1.2, ()))) <|
  ext 130 (entV [sP, sP] (specP [sP, sP] [sI] (fun _ => true) fun v => (far v.1.1 v.1.2 v.2.1.1 v.2.1.2, ()))) <|
  ext 59 (entV [] (specP [] [sSpot] (fun _ => true) fun _ => (site, ()))) <|
  ext 129 (entV [sSpot, bSt] (specP [sSpot, bSt] [sB] (fun _ => true) fun v => (decide (v.1.1 = v.2.1.1), ()))) <|
  ext 132 (entV [sU] (specP [sU] [sI] (fun v => decide (0 ≤ v.1 ∧ v.1 ≤ 1000)) fun v => (len4 v.1, ()))) T2
/-! ### The first that fits -/
def qS (s t : St) : Bool := decide (t.1 = s.1)
def fiK (p : St → Bool) : List St → Int → Option Int
  | [], _ => none
  | x :: r, k => bif p x then some k else fiK p r (k + 1)
def fiV (p : St → Bool) (l : List St) (k : Int) : Option Int := fiK p (l.drop k.toNat) k
abbrev kFi : List Shp := [rSt, cF, sI, sI]
def preFi (l : List St) (n k : Int) : Bool := decide (l.length ≤ 1000 ∧ n = l.length ∧ 0 ≤ k ∧ k ≤ n)
def cFi : SpecC kFi := cut2 kFi [.un] [sI] (fun v => preFi v.1.1 v.2.2.1 v.2.2.2.1) (fun v => (fiV (qS v.2.1.1) v.1.1 v.2.2.2.1).isNone) (.exit 0) .ret (fun _ => ((), ())) (fun v => ((fiV (qS v.2.1.1) v.1.1 v.2.2.2.1).getD 0, ())) (same kFi) (same kFi)
def muFi : denA kFi → Nat := fun v => (v.2.2.1 - v.2.2.2.1).toNat
def anyI (p : St → Bool) (l : List St) : Int := (fiV p l 0).getD (-1)
abbrev kAn : List Shp := [rSt, cF]
noncomputable def M1 : Table :=
  ext 149 (entV [sI, sI] (specP [sI, sI] [sB] (fun _ => true) fun v => (less v.1 v.2.1, ()))) <|
  ext 101 (entV [sSpot, sP] (specP [sSpot, sP] [sB, sI] (fun _ => true) fun v => ((cov v.1 v.2.1).1, (cov v.1 v.2.1).2, ()))) <|
  ext 142 (entV kAn (specP kAn [sI] (fun v => decide (v.1.1.length ≤ 1000)) fun v => (anyI (qS v.2.1.1) v.1.1, ()))) M0
noncomputable def M2 : Table := ext 128 (entV kAn (specP kAn [sB] (fun v => decide (v.1.1.length ≤ 1000)) fun v => (v.1.1.any (qS v.2.1.1), ()))) M1
/-! ### The sort by insertion -/
def swp (d : List Int) (j : Nat) : List Int := (d.set j (d.getD (j - 1) 0)).set (j - 1) (d.getD j 0)
def bub : Nat → List Int → List Int
  | 0, d => d
  | j + 1, d => bif less (d.getD (j + 1) 0) (d.getD j 0) then bub j (swp d (j + 1)) else d
def outB : Nat → Nat → List Int → List Int
  | 0, _, d => d
  | f + 1, i, d => outB f (i + 1) (bub i d)
def isort (d : List Int) : List Int := outB (d.length - 1) 1 d
abbrev k143b : List Shp := [iI, sI, sI]
def pre143b (d : List Int) (a j : Int) : Bool := decide (a = 0 ∧ 0 ≤ j ∧ j < d.length ∧ d.length ≤ 12)
def c143b : SpecC k143b := cut1 k143b [] (fun v => pre143b v.1.1 v.2.1 v.2.2.1) (.exit 2) (fun _ => ()) (fun v => (bub v.2.2.1.toNat v.1.1, (), (), ()))
def mu143b : denA k143b → Nat := fun v => v.2.2.1.toNat
abbrev k143a : List Shp := [iI, sI, sI, sI]
def pre143a (d : List Int) (a b i : Int) : Bool := decide (a = 0 ∧ b = d.length ∧ 1 ≤ i ∧ i ≤ 13 ∧ d.length ≤ 12)
def c143a : SpecC k143a := cut1 k143a [] (fun v => pre143a v.1.1 v.2.1 v.2.2.1 v.2.2.2.1) (.exit 0) (fun _ => ()) (fun v => (outB (v.1.1.length - v.2.2.2.1.toNat) v.2.2.2.1.toNat v.1.1, (), (), (), ()))
def mu143a : denA k143a → Nat := fun v => (v.2.2.1 - v.2.2.2.1).toNat
abbrev k143 : List Shp := [iI, sI, sI]
def preSo (d : List Int) (a b : Int) : Bool := decide (a = 0 ∧ b = d.length ∧ d.length ≤ 12)
noncomputable def M3 : Table := ext 143 (entV k143 (spec1 k143 [] (fun v => preSo v.1.1 v.2.1 v.2.2.1) (fun _ => ()) fun v => (isort v.1.1, (), (), ()))) M2
abbrev k131 : List Shp := [iI, sI, sI, sI]
noncomputable def M4 : Table := ext 131 (entV k131 (spec1 k131 [] (fun v => preSo v.1.1 v.2.1 v.2.2.1) (fun _ => ()) fun v => (isort v.1.1, (), (), (), ()))) M3
noncomputable def M5 : Table := ext 102 (entV [iI] (spec1 [iI] [] (fun v => decide (v.1.1.length ≤ 12)) (fun _ => ()) fun v => (isort v.1.1, ()))) M4
/-! ### Lists of radars -/
def mE (l : List St) : Nat → Nat → Int
  | 0, _ => 0
  | d + 1, k => match l[k]? with
    | none => 0
    | some s => bif decide (sE s = 0) then (bif (l.take k).any (qS s) then 7 else mE l d (k + 1)) else sE s
def mV (l : List St) (k : Int) : Int := mE l (l.length - k.toNat) k.toNat
def chkM (l : List St) : Int := bif decide (4 < l.length) then 2 else mV l 0
abbrev k100 : List Shp := [rSt, rSt, sI, sI]
noncomputable def pre100 (l l2 : List St) (n k : Int) : Bool := bp (l2 = l ∧ n = l.length ∧ l.length ≤ 4 ∧ 0 ≤ k ∧ k ≤ n)
noncomputable def c100 : SpecC k100 := cut2 k100 [.un] [sI] (fun v => pre100 v.1.1 v.2.1.1 v.2.2.1 v.2.2.2.1) (fun v => decide (mV v.1.1 v.2.2.2.1 = 0)) (.exit 0) .ret (fun _ => ((), ())) (fun v => (mV v.1.1 v.2.2.2.1, ())) (same k100) (same k100)
def mu100 : denA k100 → Nat := fun v => (v.2.2.1 - v.2.2.2.1).toNat
noncomputable def M6 : Table := ext 100 (entV [rSt] (specP [rSt] [sI] (fun _ => true) fun v => (chkM v.1.1, ()))) M5
def visK (l : List St) (p : Pt) (k : Int) : List Int := ((l.drop k.toNat).filter (fun s => sees s p)).map fun s => s.1
abbrev k58c : List Shp := [bP, oI, rSt, sI, sI]
noncomputable def pre58 (acc : List Int) (l : List St) (n k : Int) : Bool := bp ((∀ s ∈ l, sE s = 0) ∧ n = l.length ∧ l.length ≤ 4 ∧ 0 ≤ k ∧ k ≤ n ∧ acc.length ≤ k)
noncomputable def c58 : SpecC k58c := cut2 k58c [.un, .un, oI] [sNil, sI, oI] (fun v => pre58 v.2.1.1 v.2.2.1.1 v.2.2.2.1 v.2.2.2.2.1) (fun v => plc v.1 || decide (v.2.2.2.1 ≤ v.2.2.2.2.1)) (.exit 0) .ret
  (fun v => ((), (), (v.2.1.1 ++ visK v.2.2.1.1 v.1 v.2.2.2.2.1, v.2.1.2 && (visK v.2.2.1.1 v.1 v.2.2.2.2.1).isEmpty), ())) (fun v => ((), 4, v.2.1, ())) (same k58c) (same k58c)
def mu58 : denA k58c → Nat := fun v => (v.2.2.2.1 - v.2.2.2.2.1).toNat
def seeE (l : List St) (p : Pt) : Int := bif decide (chkM l = 0) then (bif plc p || decide (l.length = 0) then 0 else 4) else chkM l
def seeL (l : List St) (p : Pt) : List Int := isort (visK l p 0)
abbrev k58 : List Shp := [rSt, sP]
def spec58 : SpecV k58 := fun v => (true, [(decide (seeE v.1.1 v.2.1 = 0), ansV k58 v [oI, sI] ((seeL v.1.1 v.2.1, (visK v.1.1 v.2.1 0).isEmpty), 0, ()) (same k58 v)), (true, ansV k58 v [sNil, sI] ((), seeE v.1.1 v.2.1, ()) (same k58 v))])
noncomputable def M7 : Table := ext 58 (entV k58 spec58) M6
/-! ### The law -/
abbrev k61 : List Shp := [rI, rI]
abbrev k61c : List Shp := [rI, rI, sI, sI]
def pre61 (l l2 : List Int) (n k : Int) : Bool := decide (l.length = l2.length ∧ n = l.length ∧ l.length ≤ 1000 ∧ 0 ≤ k ∧ k ≤ n)
def c61 : SpecC k61c := cut2 k61c [.un] [sB] (fun v => pre61 v.1.1 v.2.1.1 v.2.2.1 v.2.2.2.1) (fun v => decide (v.1.1.drop v.2.2.2.1.toNat = v.2.1.1.drop v.2.2.2.1.toNat)) (.exit 0) .ret (fun _ => ((), ())) (fun _ => (false, ())) (same k61c) (same k61c)
def mu61 : denA k61c → Nat := fun v => (v.2.2.1 - v.2.2.2.1).toNat
noncomputable def M8 : Table := ext 61 (entV k61 (specP k61 [sB] (fun v => decide (v.1.1.length ≤ 1000)) fun v => (decide (v.1.1 = v.2.1.1), ()))) M7
def lawR (out : List Int) (e c : Int) : Bool := bif decide (e = c) then decide (((out.length : Nat) : Int) = 0) else false
abbrev kLb : List Shp := [rI, sI, bSt, rSt, sI, sI]
def preLb (l : List St) (n k : Int) : Bool := decide (l.length ≤ 1000 ∧ n = l.length ∧ 0 ≤ k ∧ k ≤ n)
def cLb : SpecC kLb := cut2 kLb [.un] [sB] (fun v => preLb v.2.2.2.1.1 v.2.2.2.2.1 v.2.2.2.2.2.1) (fun v => !((v.2.2.2.1.1.drop v.2.2.2.2.2.1.toNat).any (qS v.2.2.1))) (.exit 2) .ret (fun _ => ((), ())) (fun v => (lawR v.1.1 v.2.1 7, ())) (same kLb) (same kLb)
def muLb : denA kLb → Nat := fun v => (v.2.2.2.2.1 - v.2.2.2.2.2.1).toNat
abbrev kLa : List Shp := [rSt, rI, sI, rSt, sI, sI]
noncomputable def cLa : SpecC kLa := cut2 kLa [.un] [sB] (fun v => pre100 v.1.1 v.2.2.2.1.1 v.2.2.2.2.1 v.2.2.2.2.2.1) (fun v => decide (mV v.1.1 v.2.2.2.2.2.1 = 0)) (.exit 0) .ret (fun _ => ((), ())) (fun v => (lawR v.2.1.1 v.2.2.1 (mV v.1.1 v.2.2.2.2.2.1), ())) (same kLa) (same kLa)
def muLa : denA kLa → Nat := fun v => (v.2.2.2.2.1 - v.2.2.2.2.2.1).toNat
def wIn (l : List St) (p : Pt) (id k : Int) : List Int := ((l.drop k.toNat).filter (fun s => decide (s.1 = id) && sees s p)).map fun _ => id
abbrev kLd : List Shp := [bP, oI, sI, rSt, sI, sI]
def preLd (acc : List Int) (l : List St) (n k : Int) : Bool := decide (acc.length ≤ 2000 + k ∧ l.length ≤ 4 ∧ n = l.length ∧ 0 ≤ k ∧ k ≤ n)
def cLd : SpecC kLd := cut1 kLd [oI] (fun v => preLd v.2.1.1 v.2.2.2.1.1 v.2.2.2.2.1 v.2.2.2.2.2.1) (.exit 6) (fun v => ((v.2.1.1 ++ wIn v.2.2.2.1.1 v.1 v.2.2.1 v.2.2.2.2.2.1, v.2.1.2 && (wIn v.2.2.2.1.1 v.1 v.2.2.1 v.2.2.2.2.2.1).isEmpty), ())) (same kLd)
def muLd : denA kLd → Nat := fun v => (v.2.2.2.2.1 - v.2.2.2.2.2.1).toNat
def want (l : List St) (p : Pt) : Nat → Int → List Int
  | 0, _ => []
  | d + 1, id => wIn l p id 0 ++ want l p d (id + 1)
def wantV (l : List St) (p : Pt) (id : Int) : List Int := want l p (256 - id).toNat id
abbrev kLc : List Shp := [rSt, bP, oI, sI]
def preLc (acc : List Int) (l : List St) (id : Int) : Bool := decide (acc.length ≤ 4 * id ∧ l.length ≤ 4 ∧ 0 ≤ id ∧ id ≤ 256)
def cLc : SpecC kLc := cut1 kLc [oI] (fun v => preLc v.2.2.1.1 v.1.1 v.2.2.2.1) (.exit 4) (fun v => ((v.2.2.1.1 ++ wantV v.1.1 v.2.1 v.2.2.2.1, v.2.2.1.2 && (wantV v.1.1 v.2.1 v.2.2.2.1).isEmpty), ())) (same kLc)
def muLc : denA kLc → Nat := fun v => (256 - v.2.2.2.1).toNat
end Go.Proofs.YtpndjpjpmcehbaaMo
