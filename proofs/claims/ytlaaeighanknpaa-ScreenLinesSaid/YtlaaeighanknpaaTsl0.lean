/- What is laid here: the kinds of screen cells, and the plain functions that the law ScreenLines reaches. Definitions alone; no condition. -/
import Derived.Test.YtlaaeighanknpaaEvZc
import Derived.Test.YtlaaeighanknpaaProg
namespace Go.Proofs.YtlaaeighanknpaaSl
open Go Go.Proofs Go.Proofs.YtlaaeighanknpaaEv
abbrev I : Kd := .int .i64
abbrev sI : Shp := .s (.v ⟨false, I⟩)
abbrev sB : Shp := .s (.v ⟨false, .bool⟩)
abbrev kC : Kd := .pair I I
abbrev sC : Shp := .s (.v ⟨true, kC⟩)
abbrev oC : Shp := .ob [.v ⟨true, kC⟩]
abbrev nilS : Shp := .s (.con (.slice none 0 0))

def absS (a : Int) : Int := if a < 0 then -a else a
def inS (a b c : Int) : Bool := decide (b ≤ a ∧ a ≤ c)
abbrev small (a : Int) : Prop := -2000 ≤ a ∧ a ≤ 2000
abbrev half (a : Int) : Prop := -1000000000000 ≤ a ∧ a ≤ 1000000000000
def ptS (ax ay x y n k : Int) : Int × Int := (ax + (2 * k * x + n) / (2 * n), ay + (2 * k * y + n) / (2 * n))
def goL (ax ay x y n : Int) (k : Int) : List (Int × Int) := (List.range (n + 1 - k).toNat).map fun (i : Nat) => ptS ax ay x y n (k + i)
def lineS (ax ay bx b_y : Int) : List (Int × Int) := (ax, ay) :: goL ax ay (bx - ax) (b_y - ay) (max (absS (bx - ax)) (absS (b_y - ay))) 1
def fineS (ax ay bx b_y : Int) : Bool := decide (small ax ∧ small ay ∧ small bx ∧ small b_y)
def onS (ax ay bx b_y cx cy : Int) : Bool :=
  if max (absS (bx - ax)) (absS (b_y - ay)) = 0 then decide (cx = ax ∧ cy = ay) else
  let n := max (absS (bx - ax)) (absS (b_y - ay))
  let k := if absS (b_y - ay) > absS (bx - ax) then absS (cy - ay) else absS (cx - ax)
  decide (k ≤ n ∧ (cx, cy) = ptS ax ay (bx - ax) (b_y - ay) n k)

def T1 : Table :=
  ext 90 (entV [sI, sI] (specP [sI, sI] [sI] (fun v => decide (half v.1 ∧ 0 < v.2.1)) fun v => (v.1 / v.2.1, ()))) <|
  ext 73 (entV [sI, sI] (specP [sI, sI] [sI] (fun v => decide (half v.1 ∧ 0 < v.2.1 ∧ half v.2.1)) fun v => (v.1 / v.2.1, ()))) <|
  ext 27 (entV [sI] (specP [sI] [sI] (fun v => decide (half v.1)) fun v => (absS v.1, ()))) <|
  ext 24 (entV [sI, sI, sI] (specP [sI, sI, sI] [sB] (fun _ => true) fun v => (inS v.1 v.2.1 v.2.2.1, ()))) T0
/-- The loop of Floor. -/
abbrev kFl : List Shp := [sI, sI, sI]
def preFl (a b q : Int) : Bool := decide (half a ∧ 0 < b ∧ half b ∧ (q = a.tdiv b ∨ q = a / b))
def cFl : SpecC kFl := cut1 kFl [sI] (fun v => preFl v.1 v.2.1 v.2.2.1) (.exit 0) (fun v => (v.1 / v.2.1, ())) (same kFl)
def muFl : denA kFl → Nat := fun v => (v.2.2.1 - v.1 / v.2.1).toNat
/-- The loop of line. -/
abbrev kLn : List Shp := [oC, sI, sI, sI, .s (.ow kC), sI]
def preLn (ax ay x y n k : Int) (nl : Bool) (len : Nat) : Bool := !nl && decide ((len : Int) = k ∧ small ax ∧ small ay ∧ (-4000 ≤ x ∧ x ≤ 4000) ∧ (-4000 ≤ y ∧ y ≤ 4000) ∧ (0 ≤ n ∧ n ≤ 4000) ∧ 1 ≤ k ∧ k ≤ n + 1)
def cLn : SpecC kLn := fun ((( ax, ay), ()), x, y, n, (l, nl), k, ()) => cut1 kLn [.s (.ow kC)] (fun _ => preLn ax ay x y n k nl l.length) (.exit 0) (fun _ => ((l ++ goL ax ay x y n k, false), ())) (same kLn) (((ax, ay), ()), x, y, n, (l, nl), k, ())
def muLn : denA kLn → Nat := fun v => (v.2.2.2.1 + 1 - v.2.2.2.2.2.1).toNat
def T2 : Table :=
  ext 72 (entV [sC, sC] (specP [sC, sC] [.s (.ow kC)] (fun v => fineS v.1.1 v.1.2 v.2.1.1 v.2.1.2) fun v => ((lineS v.1.1 v.1.2 v.2.1.1 v.2.1.2, false), ()))) T1
def s26 : SpecV [sC, sC] := fun v => (true, [(fineS v.1.1 v.1.2 v.2.1.1 v.2.1.2, ansV [sC, sC] v [.s (.ow kC), sI] ((lineS v.1.1 v.1.2 v.2.1.1 v.2.1.2, false), 0, ()) (same _ v)), (true, ansV [sC, sC] v [nilS, sI] ((), 4, ()) (same _ v))])
def T3 : Table :=
  ext 26 (entV [sC, sC] s26) <|
  ext 28 (entV [sC, sC, sC] (specP [sC, sC, sC] [sB] (fun v => fineS v.1.1 v.1.2 v.2.1.1 v.2.1.2 && decide (-900000000000 ≤ v.2.2.1.1 ∧ v.2.2.1.1 ≤ 900000000000 ∧ -900000000000 ≤ v.2.2.1.2 ∧ v.2.2.1.2 ≤ 900000000000)) fun v => (onS v.1.1 v.1.2 v.2.1.1 v.2.1.2 v.2.2.1.1 v.2.2.1.2, ()))) T2
/-- The law's loop over the cells. -/
def chk (ax ay bx b_y : Int) : Int → List (Int × Int) → Bool
  | _, [] => true
  | k, c :: r => onS ax ay bx b_y c.1 c.2 && (max (absS (c.1 - ax)) (absS (c.2 - ay)) == k) && chk ax ay bx b_y (k + 1) r
def inAll (l : List (Int × Int)) : Bool := l.all fun c => decide (-900000000000 ≤ c.1 ∧ c.1 ≤ 900000000000 ∧ -900000000000 ≤ c.2 ∧ c.2 ≤ 900000000000)
abbrev kLw : List Shp := [oC, oC, .s (.ro kC), sI, sI]
def preLw (ax ay bx b_y n k : Int) (l : List (Int × Int)) : Bool := fineS ax ay bx b_y && decide (n = l.length ∧ 0 ≤ k ∧ k ≤ n ∧ n ≤ 1000000) && inAll l
def isLw (ax ay bx b_y k : Int) (l : List (Int × Int)) : Bool := chk ax ay bx b_y k (l.drop k.toNat)
def cLw : SpecC kLw := cut2 kLw [.un] [sB] (fun v => preLw v.1.1.1 v.1.1.2 v.2.1.1.1 v.2.1.1.2 v.2.2.2.1 v.2.2.2.2.1 v.2.2.1.1) (fun v => isLw v.1.1.1 v.1.1.2 v.2.1.1.1 v.2.1.1.2 v.2.2.2.2.1 v.2.2.1.1) (.exit 2) .ret (fun _ => ((), ())) (fun _ => (false, ())) (same kLw) (same kLw)
def muLw : denA kLw → Nat := fun v => (v.2.2.2.1 - v.2.2.2.2.1).toNat
end Go.Proofs.YtlaaeighanknpaaSl
