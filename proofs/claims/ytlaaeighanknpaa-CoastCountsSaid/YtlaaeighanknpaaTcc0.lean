/- What is laid here: the kinds of the tracks, and the plain functions that the law CoastCounts reaches. Definitions alone; no condition. -/
import Derived.Test.YtlaaeighanknpaaEvV
import Derived.Test.YtlaaeighanknpaaProg
namespace Go.Proofs.YtlaaeighanknpaaCc
open Go Go.Proofs Go.Proofs.YtlaaeighanknpaaEv
abbrev I : Kd := .int .i64
abbrev kP : Kd := .pair I I
abbrev kSpot : Kd := .pair I (.pair kP (.pair I (.pair I I)))
abbrev kTrack : Kd := .pair I (.pair I (.pair I (.pair kP (.pair kP (.pair I (.pair I (.pair I (.pair I (.pair I I)))))))))
abbrev kFT : Kd := .pair kTrack (.pair I kSpot)
abbrev sI : Sh := ⟨false, I⟩
abbrev sB : Sh := ⟨false, .bool⟩
abbrev sP : Sh := ⟨true, kP⟩
abbrev sSpot : Sh := ⟨true, kSpot⟩
abbrev sTrack : Sh := ⟨true, kTrack⟩
abbrev sFT : Sh := ⟨true, kFT⟩

def c1S (a : Int) : Bool := decide (a < -12800 ∨ 12800 < a)
def inS (a b c : Int) : Bool := decide (b ≤ a ∧ a ≤ c)
def placedS (x y : Int) : Bool := decide (-1000000 ≤ x ∧ x ≤ 1000000 ∧ -1000000 ≤ y ∧ y ≤ 1000000)
abbrev spotOk (t x y h c e : Int) : Prop := 0 ≤ t ∧ t ≤ 200000 ∧ -1000000 ≤ x ∧ x ≤ 1000000 ∧ -1000000 ≤ y ∧ y ≤ 1000000 ∧ 0 ≤ h ∧ h ≤ 60000 ∧ -1 ≤ c ∧ c ≤ 4095 ∧ 0 ≤ e ∧ e ≤ 1000000
def spotE (t x y h c e : Int) : Int := if spotOk t x y h c e then 0 else 4
abbrev partOk (t x y h r c : Int) : Prop := 0 ≤ t ∧ t ≤ 200000 ∧ -1000000 ≤ x ∧ x ≤ 1000000 ∧ -1000000 ≤ y ∧ y ≤ 1000000 ∧ 0 ≤ h ∧ h ≤ 60000 ∧ 0 ≤ r ∧ r ≤ 4000000 ∧ -1 ≤ c ∧ c ≤ 4095
def partE (t x y h r c : Int) : Int := if partOk t x y h r c then 0 else 4
abbrev restOk (i u v q n m s : Int) : Prop := -12800 ≤ u ∧ u ≤ 12800 ∧ -12800 ≤ v ∧ v ≤ 12800 ∧ -3200 ≤ q ∧ q ≤ 3200 ∧ 0 ≤ s ∧ s ≤ 409600 ∧ 0 ≤ i ∧ 0 ≤ n ∧ 0 ≤ m
/-- What is told of a track. -/
def checkS (i st t x y u v h q r c n m s t' x' y' h' c' e' : Int) : Int :=
  if partOk t x y h r c ∧ restOk i u v q n m s then (if 0 ≤ st ∧ st ≤ 2 then (if spotOk t' x' y' h' c' e' then (if t' > t then 12 else 0) else 4) else 1) else 4
def checkE : kFT.den → Int
  | ((i, st, t, (x, y), (u, v), h, q, r, c, n, m), s, t', (x', y'), h', c', e') => checkS i st t x y u v h q r c n m s t' x' y' h' c' e'
def zeroFT : kFT.den := ((0, 0, 0, (0, 0), (0, 0), 0, 0, 0, 0, 0, 0), 0, 0, (0, 0), 0, 0, 0)
def missed : kFT.den → kFT.den
  | ((i, st, t, (x, y), (u, v), h, q, r, c, n, m), l) => ((i, if st = 1 then 2 else st, t, (x, y), (u, v), h, q, r, c, n, IntKind.i64.wrap ((if 100 < m then 100 else m) + 1)), l)
def missS (f : kFT.den) (limit : Int) : kFT.den × Bool × Int :=
  if checkE f ≠ 0 then (zeroFT, false, checkE f) else if limit < 0 ∨ 100 < limit then (zeroFT, false, 4) else (missed f, decide (IntKind.i64.wrap ((if 100 < f.1.2.2.2.2.2.2.2.2.2.2 then 100 else f.1.2.2.2.2.2.2.2.2.2.2) + 1) > limit), 0)
def hitted : kFT.den → kFT.den
  | ((i, st, t, (x, y), (u, v), h, q, r, c, n, _), l) => ((i, if st = 2 then 1 else st, t, (x, y), (u, v), h, q, r, c, n, 0), l)
def hitS (f : kFT.den) : kFT.den × Int := if checkE f ≠ 0 then (zeroFT, checkE f) else (hitted f, 0)

def T1 : Table :=
  ext 17 (entK [sI, sI, sI] [sB] (fun _ => true) fun v => (inS v.1 v.2.1 v.2.2.1, ())) <|
  ext 86 (entK [sP] [sB] (fun _ => true) fun v => (placedS v.1.1 v.1.2, ())) <|
  ext 91 (entK [sI] [sB] (fun _ => true) fun v => (c1S v.1, ())) <|
  ext 45 (entK [] [sFT] (fun _ => true) fun _ => (zeroFT, ())) T0
def T2 : Table :=
  ext 67 (entK [sP] [sB] (fun _ => true) fun v => (placedS v.1.1 v.1.2, ())) <|
  ext 65 (entK [sSpot] [sI] (fun _ => true) fun v => (spotE v.1.1 v.1.2.1.1 v.1.2.1.2 v.1.2.2.1 v.1.2.2.2.1 v.1.2.2.2.2, ())) T1
def T3 : Table :=
  ext 42 (entK [sSpot] [sI] (fun _ => true) fun v => (spotE v.1.1 v.1.2.1.1 v.1.2.1.2 v.1.2.2.1 v.1.2.2.2.1 v.1.2.2.2.2, ())) <|
  ext 41 (entK [sTrack] [sI] (fun _ => true) fun v => (partE v.1.2.2.1 v.1.2.2.2.1.1 v.1.2.2.2.1.2 v.1.2.2.2.2.2.1 v.1.2.2.2.2.2.2.2.1 v.1.2.2.2.2.2.2.2.2.1, ())) <|
  ext 81 (entK [sFT] [sI] (fun _ => true) fun v => (checkE v.1, ())) T2
def T4 : Table :=
  ext 48 (entK [sFT] [sI] (fun _ => true) fun v => (checkE v.1, ())) <|
  ext 46 (entK [sFT, sI] [sFT, sB, sI] (fun _ => true) fun v => ((missS v.1 v.2.1).1, (missS v.1 v.2.1).2.1, (missS v.1 v.2.1).2.2, ())) <|
  ext 47 (entK [sFT] [sFT, sI] (fun _ => true) fun v => ((hitS v.1).1, (hitS v.1).2, ())) T3
end Go.Proofs.YtlaaeighanknpaaCc
