/- What is laid here: the kinds of a tube's nodes, and the plain functions on tubes that the laws PairCosts and ConformCompares reach. Definitions alone; no condition. -/
import Derived.Test.YtpndjpjpmcehbaaTk2
namespace Go.Proofs.YtpndjpjpmcehbaaTu
open Go Go.Proofs Go.Proofs.YtpndjpjpmcehbaaEv Go.Proofs.YtpndjpjpmcehbaaTk
abbrev kTN : Kd := .pair (.pair I (.pair kP I)) (.pair I I)
abbrev sTN : Shp := .s (.v ⟨true, kTN⟩)
abbrev rTN : Shp := .s (.ro kTN)
abbrev rI : Shp := .s (.ro I)
abbrev rTr : Shp := .s (.ro kTrack)
abbrev TN := kTN.den
abbrev Tr := kTrack.den
def tm (n : TN) : Int := n.1.1
def X (n : TN) : Int := n.1.2.1.1
def Y (n : TN) : Int := n.1.2.1.2
def Hh (n : TN) : Int := n.1.2.2
def Rd (n : TN) : Int := n.2.1
def Bn (n : TN) : Int := n.2.2
def zTN : TN := ((0, (0, 0), 0), 0, 0)
abbrev tOk (n : TN) : Prop := 0 ≤ tm n ∧ tm n ≤ 200000
abbrev vOk (n : TN) : Prop := -1000000 ≤ X n ∧ X n ≤ 1000000 ∧ -1000000 ≤ Y n ∧ Y n ≤ 1000000 ∧ 0 ≤ Hh n ∧ Hh n ≤ 60000 ∧ 0 ≤ Rd n ∧ Rd n ≤ 1000000 ∧ 0 ≤ Bn n ∧ Bn n ≤ 60000
def chkP (x y : Int) : Int := if -1000000 ≤ x ∧ x ≤ 1000000 ∧ -1000000 ≤ y ∧ y ≤ 1000000 then 0 else 4
def prevT (l : List TN) (k : Nat) : Int := match l[k - 1]? with | some n => tm n | none => 0
def tubeK (l : List TN) : Nat → Nat → Int
  | 0, _ => 0
  | d + 1, k => match l[k]? with
    | none => 0
    | some n => if tm n < 0 ∨ 200000 < tm n ∨ (0 < k ∧ tm n ≤ prevT l k) then 12 else if vOk n then tubeK l d (k + 1) else 4
def tE (l : List TN) (k : Int) : Int := tubeK l (l.length - k.toNat) k.toNat
def chkT (l : List TN) : Int := if 64 < l.length then 2 else if l.length = 0 then 3 else tE l 0
def btw (a b n d : Int) : Int := W (a + (divDown (W (W (b - a) * n)) d).1)
def abv (a b n d : Int) : Int := W (a + (divUp (W (W (b - a) * n)) d).1)
def towS (ax ay bx y n d : Int) : (Int × Int) × Int :=
  if d ≤ 0 then ((0, 0), 10) else if 200000 < d ∨ n < 0 ∨ d < n ∨ chkP ax ay ≠ 0 ∨ chkP bx y ≠ 0 then ((0, 0), 4) else ((btw ax bx n d, btw ay y n d), 0)
def idxK (l : List TN) (t : Int) : Nat → Nat → Nat
  | 0, k => k
  | d + 1, k => match l[k + 1]? with
    | none => k
    | some n => if tm n ≤ t then idxK l t d (k + 1) else k
def idx (l : List TN) (t : Int) (k : Nat) : Nat := idxK l t (l.length - k) k
def atL (l : List TN) (k : Nat) : TN := l.getD k zTN
def mid (a b : TN) (t : Int) : TN :=
  ((t, (towS (X a) (Y a) (X b) (Y b) (W (t - tm a)) (W (tm b - tm a))).1, btw (Hh a) (Hh b) (W (t - tm a)) (W (tm b - tm a))), abv (Rd a) (Rd b) (W (t - tm a)) (W (tm b - tm a)), abv (Bn a) (Bn b) (W (t - tm a)) (W (tm b - tm a)))
def atS (l : List TN) (t : Int) : TN × Int :=
  if t < tm (atL l 0) ∨ tm (atL l (l.length - 1)) < t then (zTN, 12) else
  if tm (atL l (idx l t 0)) = t then (atL l (idx l t 0), 0) else (mid (atL l (idx l t 0)) (atL l (idx l t 0 + 1)) t, 0)
def AtS (l : List TN) (t : Int) : TN × Int := if chkT l = 0 then atS l t else (zTN, chkT l)
def sqr (x y x' y' : Int) : Int := W (W (W (x - x') * W (x - x')) + W (W (y - y') * W (y - y')))
def apt (a b : Int) : Int := max (W (a - b)) (W (b - a))
def aptR (a b : Int) : Int := bif decide (a < b) then W (b - a) else W (a - b)
def TU1 : Table :=
  ext 92 (entV [sP] (specP [sP] [sI] (fun _ => true) fun v => (chkP v.1.1 v.1.2, ()))) <|
  ext 122 (entV [sI, sI, sI, sI] (specP [sI, sI, sI, sI] [sI] (fun v => nz v.2.2.2.1) fun v => (btw v.1 v.2.1 v.2.2.1 v.2.2.2.1, ()))) <|
  ext 123 (entV [sI, sI, sI, sI] (specP [sI, sI, sI, sI] [sI] (fun v => nz v.2.2.2.1) fun v => (abv v.1 v.2.1 v.2.2.1 v.2.2.2.1, ()))) <|
  ext 91 (entV [sP, sP] (specP [sP, sP] [sI] (fun _ => true) fun v => (sqr v.1.1 v.1.2 v.2.1.1 v.2.1.2, ()))) <|
  ext 96 (entV [sP, sP] (specP [sP, sP] [sI] (fun _ => true) fun v => (sqr v.1.1 v.1.2 v.2.1.1 v.2.1.2, ()))) <|
  ext 49 (entV [sP, sP] (specP [sP, sP] [sI] (fun _ => true) fun v => (sqr v.1.1 v.1.2 v.2.1.1 v.2.1.2, ()))) <|
  ext 50 (entV [sI, sI] (specP [sI, sI] [sI] (fun _ => true) fun v => (aptR v.1 v.2.1, ()))) T3
abbrev k46 : List Shp := [rTN, rTN, sI, sI]
noncomputable def pre46 (l l2 : List TN) (n k : Int) : Bool := bp (l = l2 ∧ n = l.length ∧ l.length ≤ 64 ∧ 0 ≤ k ∧ k ≤ n)
noncomputable def c46 : SpecC k46 := cut2 k46 [.un] [sI] (fun v => pre46 v.1.1 v.2.1.1 v.2.2.1 v.2.2.2.1) (fun v => decide (tE v.1.1 v.2.2.2.1 = 0)) (.exit 1) .ret (fun _ => ((), ())) (fun v => (tE v.1.1 v.2.2.2.1, ())) (same k46) (same k46)
def mu46 : denA k46 → Nat := fun v => (v.2.2.1 - v.2.2.2.1).toNat
def TU2 : Table :=
  ext 121 (entV [sP, sP, sI, sI] (specP [sP, sP, sI, sI] [sP, sI] (fun _ => true) fun v => ((towS v.1.1 v.1.2 v.2.1.1 v.2.1.2 v.2.2.1 v.2.2.2.1).1, (towS v.1.1 v.1.2 v.2.1.1 v.2.1.2 v.2.2.1 v.2.2.2.1).2, ()))) <|
  ext 46 (entV [rTN] (specP [rTN] [sI] (fun _ => true) fun v => (chkT v.1.1, ()))) TU1
abbrev k93c : List Shp := [rTN, sI, sI]
noncomputable def pre93c (l : List TN) (k : Int) : Bool := bp (l.length ≤ 64 ∧ 0 ≤ k ∧ k < l.length)
noncomputable def c93 : SpecC k93c := cut1 k93c [sI] (fun v => pre93c v.1.1 v.2.2.1) (.exit 0) (fun v => ((idx v.1.1 v.2.1 v.2.2.1.toNat : Nat), ())) (same k93c)
def mu93 : denA k93c → Nat := fun v => (v.1.1.length - v.2.2.1).toNat
noncomputable def TU3 : Table := ext 93 (entV [rTN, sI] (specP [rTN, sI] [sTN, sI] (fun v => bp (chkT v.1.1 = 0)) fun v => ((atS v.1.1 v.2.1).1, (atS v.1.1 v.2.1).2, ()))) TU2
noncomputable def TU4 : Table := ext 48 (entV [rTN, sI] (specP [rTN, sI] [sTN, sI] (fun _ => true) fun v => ((AtS v.1.1 v.2.1).1, (AtS v.1.1 v.2.1).2, ()))) TU3
/-! ### Pairs -/
def tT (t : Tr) : Int := t.2.2.1
def tX (t : Tr) : Int := t.2.2.2.1.1
def tY (t : Tr) : Int := t.2.2.2.1.2
def tH (t : Tr) : Int := t.2.2.2.2.2.1
def tR (t : Tr) : Int := t.2.2.2.2.2.2.2.1
def tC (t : Tr) : Int := t.2.2.2.2.2.2.2.2.1
def trE (t : Tr) : Int := partE (tT t) (tX t) (tY t) (tH t) (tR t) (tC t)
def nearB (n : TN) (t : Tr) : Bool := decide (sqr (X n) (Y n) (tX t) (tY t) ≤ W (W (Rd n + tR t) * W (Rd n + tR t))) && decide (apt (Hh n) (tH t) ≤ W (Bn n + 100))
def fitsS (t : Tr) (l : List TN) : Bool × Int :=
  bif decide (trE t = 0) then (bif decide (chkT l = 0) then (bif decide ((AtS l (tT t)).2 = 0) then (nearB (AtS l (tT t)).1 t, 0) else (false, 0)) else (false, chkT l)) else (false, trE t)
noncomputable def TU5 : Table := ext 89 (entV [sTrack] (specP [sTrack] [sI] (fun _ => true) fun v => (trE v.1, ()))) TU4
noncomputable def TU6 : Table := ext 90 (entV [sTrack, rTN] (specP [sTrack, rTN] [sB, sI] (fun _ => true) fun v => ((fitsS v.1 v.2.1.1).1, (fitsS v.1 v.2.1.1).2, ()))) TU5
abbrev s1T : Shp := .ss [.ro kTN]
abbrev k88 : List Shp := [s1T, rI]
def chkC (l : List TN) (c : Int) : Int := if chkT l = 0 then (if c < 0 ∨ 4095 < c then 4 else 0) else chkT l
noncomputable def TU7 : Table := ext 88 (entV k88 (specP k88 [sI] (fun v => bp (v.2.1.1.length = 1)) fun v => (chkC v.1.1.1 (v.2.1.1.getD 0 0), ()))) TU6
abbrev k45 : List Shp := [rTr, s1T, rI]
end Go.Proofs.YtpndjpjpmcehbaaTu
