/- What is laid here: the square root of a whole number, and what a track's place in a tube is. Definitions alone; no condition. -/
import Derived.Test.YtpndjpjpmcehbaaTtu2b
namespace Go.Proofs.YtpndjpjpmcehbaaTu
open Go Go.Proofs Go.Proofs.YtpndjpjpmcehbaaEv Go.Proofs.YtpndjpjpmcehbaaTk
abbrev F : Kd := .flt .f64
abbrev sF : Shp := .s (.v ⟨false, F⟩)
def sqF (x : Nat) : Option Nat := FloatKind.f64.format.sqrt x
def TF : Table := ext 125 (entV [sF] (specP [sF] [sF] (fun v => (sqF v.1).isSome) fun v => ((sqF v.1).getD 0, ()))) TU1
def rdn (n : Int) : Nat → Int → Int
  | 0, r => r
  | d + 1, r => bif decide (r > n.tdiv r) then rdn n d (r - 1) else r
def rup (n : Int) : Nat → Int → Int
  | 0, r => r
  | d + 1, r => bif decide (r + 1 ≤ n.tdiv (r + 1)) then rup n d (r + 1) else r
abbrev k95 : List Shp := [sI, sI]
def pre95 (n r : Int) : Bool := decide (1 ≤ n ∧ n < 9007199254740992 ∧ 1 ≤ r ∧ r < 9007199254740992)
def dnV (n r : Int) : Int := rdn n r.toNat r
def upV (n r : Int) : Int := rup n (n - r).toNat r
def c95a : SpecC k95 := cut1 k95 [sI] (fun v => pre95 v.1 v.2.1) (.exit 0) (fun v => (dnV v.1 v.2.1, ())) (same k95)
def c95b : SpecC k95 := cut1 k95 [sI] (fun v => pre95 v.1 v.2.1) (.exit 2) (fun v => (upV v.1 v.2.1, ())) (same k95)
def mu95a : denA k95 → Nat := fun v => v.2.1.toNat
def mu95b : denA k95 → Nat := fun v => (v.1 - v.2.1).toNat
def r0 (n : Int) : Int := (floatToIntVal .f64 ((sqF (FloatKind.f64.nearest n)).getD 0) .i64).getD 0
def rootS (n : Int) : Int := bif decide (n ≤ 0) then 0 else upV n (dnV n (r0 n))
def ctE (t : Tr) : Int := partE (tT t) (tX t) (tY t) (tH t) (tR t) 0
noncomputable def TC1 : Table :=
  ext 95 (entV [sI] (specP [sI] [sI] (fun v => decide (v.1 < 9007199254740992)) fun v => (rootS v.1, ()))) <|
  ext 124 (entV [sTrack] (specP [sTrack] [sI] (fun _ => true) fun v => (ctE v.1, ()))) TU4
def nodeS (t : Tr) (l : List TN) : TN × Int := bif decide (ctE t = 0) then AtS l (tT t) else (zTN, ctE t)
noncomputable def TC2 : Table := ext 94 (entV [sTrack, rTN] (specP [sTrack, rTN] [sTN, sI] (fun _ => true) fun v => ((nodeS v.1 v.2.1.1).1, (nodeS v.1 v.2.1.1).2, ()))) TC1
def dS (n : TN) (t : Tr) : Int := sqr (X n) (Y n) (tX t) (tY t)
def hS (n : TN) (t : Tr) : Int := apt (Hh n) (tH t)
def whatS (n : TN) (t : Tr) : Int :=
  bif decide (dS n t > W (W (Rd n + tR t) * W (Rd n + tR t))) || decide (hS n t > W (Bn n + 100)) then 2 else
  bif decide (W (Rd n - tR t) ≥ 0) && (decide (dS n t ≤ W (W (Rd n - tR t) * W (Rd n - tR t))) && decide (hS n t ≤ W (Bn n - 100))) then 0 else 1
def cmpS (t : Tr) (l : List TN) : Int × Int := bif decide ((nodeS t l).2 = 0) then (whatS (nodeS t l).1 t, 0) else (0, (nodeS t l).2)
def sideS (n : TN) (t : Tr) : Int := max (W (W (rootS (dS n t) - Rd n) - tR t)) 0
def highS (n : TN) (t : Tr) : Int := max (W (W (hS n t - Bn n) - 100)) 0
def excS (t : Tr) (l : List TN) : Int × Int × Int := bif decide ((nodeS t l).2 = 0) then (sideS (nodeS t l).1 t, highS (nodeS t l).1 t, 0) else (0, 0, (nodeS t l).2)
noncomputable def TC3 : Table :=
  ext 51 (entV [sTrack, rTN] (specP [sTrack, rTN] [sI, sI, sI] (fun _ => true) fun v => ((excS v.1 v.2.1.1).1, (excS v.1 v.2.1.1).2.1, (excS v.1 v.2.1.1).2.2, ()))) <|
  ext 52 (entV [sTrack, rTN] (specP [sTrack, rTN] [sI, sI] (fun _ => true) fun v => ((cmpS v.1 v.2.1.1).1, (cmpS v.1 v.2.1.1).2, ()))) TC2
end Go.Proofs.YtpndjpjpmcehbaaTu
