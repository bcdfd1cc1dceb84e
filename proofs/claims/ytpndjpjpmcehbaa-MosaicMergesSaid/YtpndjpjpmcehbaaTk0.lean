/- What is laid here: the kinds of the tracks, and the plain functions that the laws on tracks reach. Definitions alone; no condition. -/
import Derived.Test.YtpndjpjpmcehbaaEvZc
import Derived.Test.YtpndjpjpmcehbaaProg
namespace Go.Proofs.YtpndjpjpmcehbaaTk
open Go Go.Proofs Go.Proofs.YtpndjpjpmcehbaaEv
abbrev I : Kd := .int .i64
abbrev kP : Kd := .pair I I
abbrev kSpot : Kd := .pair I (.pair kP (.pair I (.pair I I)))
abbrev kTrack : Kd := .pair I (.pair I (.pair I (.pair kP (.pair kP (.pair I (.pair I (.pair I (.pair I (.pair I I)))))))))
abbrev kFT : Kd := .pair kTrack (.pair I kSpot)
abbrev sI : Shp := .s (.v ⟨false, I⟩)
abbrev sB : Shp := .s (.v ⟨false, .bool⟩)
abbrev sP : Shp := .s (.v ⟨true, kP⟩)
abbrev sSpot : Shp := .s (.v ⟨true, kSpot⟩)
abbrev sTrack : Shp := .s (.v ⟨true, kTrack⟩)
abbrev sFT : Shp := .s (.v ⟨true, kFT⟩)

def c1S (a : Int) : Bool := decide (a < -12800 ∨ 12800 < a)
def inS (a b c : Int) : Bool := decide (b ≤ a ∧ a ≤ c)
def placedS (x y : Int) : Bool := decide (-1000000 ≤ x ∧ x ≤ 1000000 ∧ -1000000 ≤ y ∧ y ≤ 1000000)
abbrev spotOk (t x y h c e : Int) : Prop := 0 ≤ t ∧ t ≤ 200000 ∧ -1000000 ≤ x ∧ x ≤ 1000000 ∧ -1000000 ≤ y ∧ y ≤ 1000000 ∧ 0 ≤ h ∧ h ≤ 60000 ∧ -1 ≤ c ∧ c ≤ 4095 ∧ 0 ≤ e ∧ e ≤ 1000000
def spotE (t x y h c e : Int) : Int := if spotOk t x y h c e then 0 else 4
abbrev partOk (t x y h r c : Int) : Prop := 0 ≤ t ∧ t ≤ 200000 ∧ -1000000 ≤ x ∧ x ≤ 1000000 ∧ -1000000 ≤ y ∧ y ≤ 1000000 ∧ 0 ≤ h ∧ h ≤ 60000 ∧ 0 ≤ r ∧ r ≤ 4000000 ∧ -1 ≤ c ∧ c ≤ 4095
def partE (t x y h r c : Int) : Int := if partOk t x y h r c then 0 else 4
abbrev restOk (i u v q n m s : Int) : Prop := -12800 ≤ u ∧ u ≤ 12800 ∧ -12800 ≤ v ∧ v ≤ 12800 ∧ -3200 ≤ q ∧ q ≤ 3200 ∧ 0 ≤ s ∧ s ≤ 409600 ∧ 0 ≤ i ∧ 0 ≤ n ∧ 0 ≤ m
/-- What is told of a track. -/
def checkS (i st t x y u v h q r c n m s t' x' y' h' c' e' : Int) : Int :=
  if partOk t x y h r c ∧ restOk i u v q n m s then (if 0 ≤ st ∧ st ≤ 2 then (if spotOk t' x' y' h' c' e' then (if t' > t then 12 else 0) else 4) else 1) else 4
def checkE : kFT.den → Int
  | ((i, st, t, (x, y), (u, v), h, q, r, c, n, m), s, t', (x', y'), h', c', e') => checkS i st t x y u v h q r c n m s t' x' y' h' c' e'
def zeroFT : kFT.den := ((0, 0, 0, (0, 0), (0, 0), 0, 0, 0, 0, 0, 0), 0, 0, (0, 0), 0, 0, 0)
abbrev W (n : Int) : Int := IntKind.i64.wrap n
/-- num.DivDown where b is not 0. -/
def divDown (a b : Int) : Int × Int :=
  if a = -9223372036854775808 ∧ b = -1 then (0, 2) else (if a.tmod b ≠ 0 ∧ decide (a < 0) ≠ decide (b < 0) then W (W (a.tdiv b) - 1) else W (a.tdiv b), 0)
def divUp (a b : Int) : Int × Int := (if (divDown a b).2 = 0 ∧ a.tmod b ≠ 0 then W ((divDown a b).1 + 1) else (divDown a b).1, (divDown a b).2)
def refDown (a b : Int) : Int := if W (W (a.tdiv b) * b) > a then W (W (a.tdiv b) - 1) else W (a.tdiv b)
def refUp (a b : Int) : Int := W (0 - (refDown (W (0 - a)) b))
def clampS (n l h : Int) : Int := if n < l then l else if n > h then h else n
def betweenS (n l h : Int) : Int := if (if h < n then h else n) > l then (if h < n then h else n) else l
def grownS (s a d : Int) : Int := if d = 0 then 0 else W (W (refUp (W (s * d)) 16 + refUp (W (W (a * d) * d)) 2) + 2)
def grownI (s a d : Int) : Int := W (W ((divUp (W (s * d)) 16).1 + (divUp (W (W (a * d) * d)) 2).1) + 2)
def nz (b : Int) : Bool := !decide (b = 0)
def predictF (dn : Int → Int → Int) (cl gr : Int → Int → Int → Int) : kFT.den → Int → Int → kFT.den
  | ((i, st, t, (x, y), (u, v), h, q, r, c, n, m), s, l), time, a =>
    ((i, st, time, (W (x + dn (W (u * W (time - t))) 16), W (y + dn (W (v * W (time - t))) 16)), (u, v), cl (W (h + dn (W (q * W (time - t))) 16)) 0 60000, q, W (r + gr s a (W (time - t))), c, n, m), W (s + W (W (16 * a) * W (time - t))), l)
def dnI (a b : Int) : Int := (divDown a b).1
def timeOf (f : kFT.den) : Int := f.1.2.2.1
def predictS (f : kFT.den) (time a : Int) : kFT.den × Int :=
  if checkE f ≠ 0 then (zeroFT, checkE f) else if time < 0 ∨ 200000 < time ∨ a < 0 ∨ 20 < a then (zeroFT, 4) else if W (time - timeOf f) < 0 ∨ 600 < W (time - timeOf f) then (zeroFT, 12) else
  if W (time - timeOf f) = 0 then (f, 0) else if checkE (predictF dnI betweenS grownI f time a) ≠ 0 then (zeroFT, 8) else (predictF dnI betweenS grownI f time a, 0)
def predictedS (f : kFT.den) (time a : Int) : kFT.den × Int :=
  if checkE f ≠ 0 then (zeroFT, checkE f) else if time < 0 ∨ 200000 < time ∨ a < 0 ∨ 20 < a then (zeroFT, 4) else if W (time - timeOf f) < 0 ∨ 600 < W (time - timeOf f) then (zeroFT, 12) else
  if checkE (predictF refDown clampS grownS f time a) ≠ 0 then (zeroFT, 8) else (predictF refDown clampS grownS f time a, 0)

def T1 : Table :=
  ext 28 (entV [sI, sI, sI] (specP [sI, sI, sI] [sB] (fun _ => true) fun v => (inS v.1 v.2.1 v.2.2.1, ()))) <|
  ext 115 (entV [sP] (specP [sP] [sB] (fun _ => true) fun v => (placedS v.1.1 v.1.2, ()))) <|
  ext 77 (entV [sI] (specP [sI] [sB] (fun _ => true) fun v => (c1S v.1, ()))) <|
  ext 26 (entV [sI, sI] (specP [sI, sI] [sI] (fun v => nz v.2.1) fun v => (refDown v.1 v.2.1, ()))) <|
  ext 70 (entV [sI, sI] (specP [sI, sI] [sI, sI] (fun v => nz v.2.1) fun v => ((divDown v.1 v.2.1).1, (divDown v.1 v.2.1).2, ()))) <|
  ext 73 (entV [sI, sI, sI] (specP [sI, sI, sI] [sI] (fun _ => true) fun v => (betweenS v.1 v.2.1 v.2.2.1, ()))) <|
  ext 75 (entV [sI, sI, sI] (specP [sI, sI, sI] [sI] (fun _ => true) fun v => (clampS v.1 v.2.1 v.2.2.1, ()))) <|
  ext 41 (entV [] (specP [] [sFT] (fun _ => true) fun _ => (zeroFT, ()))) T0
def T2 : Table :=
  ext 19 (entV [sP] (specP [sP] [sB] (fun _ => true) fun v => (placedS v.1.1 v.1.2, ()))) <|
  ext 78 (entV [sSpot] (specP [sSpot] [sI] (fun _ => true) fun v => (spotE v.1.1 v.1.2.1.1 v.1.2.1.2 v.1.2.2.1 v.1.2.2.2.1 v.1.2.2.2.2, ()))) <|
  ext 27 (entV [sI, sI] (specP [sI, sI] [sI] (fun v => nz v.2.1) fun v => (refUp v.1 v.2.1, ()))) <|
  ext 71 (entV [sI, sI] (specP [sI, sI] [sI, sI] (fun v => nz v.2.1) fun v => ((divUp v.1 v.2.1).1, (divUp v.1 v.2.1).2, ()))) <|
  ext 72 (entV [sI, sI] (specP [sI, sI] [sI] (fun v => nz v.2.1) fun v => ((divDown v.1 v.2.1).1, ()))) T1
def T3 : Table :=
  ext 66 (entV [sSpot] (specP [sSpot] [sI] (fun _ => true) fun v => (spotE v.1.1 v.1.2.1.1 v.1.2.1.2 v.1.2.2.1 v.1.2.2.2.1 v.1.2.2.2.2, ()))) <|
  ext 47 (entV [sTrack] (specP [sTrack] [sI] (fun _ => true) fun v => (partE v.1.2.2.1 v.1.2.2.2.1.1 v.1.2.2.2.1.2 v.1.2.2.2.2.2.1 v.1.2.2.2.2.2.2.2.1 v.1.2.2.2.2.2.2.2.2.1, ()))) <|
  ext 32 (entV [sFT] (specP [sFT] [sI] (fun _ => true) fun v => (checkE v.1, ()))) <|
  ext 74 (entV [sI, sI] (specP [sI, sI] [sI] (fun v => nz v.2.1) fun v => ((divUp v.1 v.2.1).1, ()))) <|
  ext 76 (entV [sI, sI, sI] (specP [sI, sI, sI] [sI] (fun _ => true) fun v => (grownS v.1 v.2.1 v.2.2.1, ()))) T2
def T4 : Table :=
  ext 33 (entV [sFT] (specP [sFT] [sI] (fun _ => true) fun v => (checkE v.1, ()))) <|
  ext 30 (entV [sFT, sI, sI] (specP [sFT, sI, sI] [sFT, sI] (fun _ => true) fun v => ((predictS v.1 v.2.1 v.2.2.1).1, (predictS v.1 v.2.1 v.2.2.1).2, ()))) T3
def T5 : Table :=
  ext 31 (entV [sFT, sI, sI] (specP [sFT, sI, sI] [sFT, sI] (fun _ => true) fun v => ((predictedS v.1 v.2.1 v.2.2.1).1, (predictedS v.1 v.2.1 v.2.2.1).2, ()))) T4
end Go.Proofs.YtpndjpjpmcehbaaTk
