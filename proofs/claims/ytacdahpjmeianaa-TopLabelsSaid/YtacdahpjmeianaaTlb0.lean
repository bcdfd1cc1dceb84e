/- What is laid here: the kinds of labels, and the plain functions on labels that the laws LabelPlaces and TopLabels reach. Definitions alone; no condition. -/
import Derived.Test.YtacdahpjmeianaaEvZc
import Derived.Test.YtacdahpjmeianaaProg
namespace Go.Proofs.YtacdahpjmeianaaLb
open Go Go.Proofs Go.Proofs.YtacdahpjmeianaaEv
abbrev I : Kd := .int .i64
abbrev kIt : Kd := .pair I (.pair I (.pair I I))
abbrev sI : Shp := .s (.v ⟨false, I⟩)
abbrev sB : Shp := .s (.v ⟨false, .bool⟩)
abbrev sIt : Shp := .s (.v ⟨true, kIt⟩)
abbrev rIt : Shp := .s (.ro kIt)
abbrev oIt : Shp := .s (.ow kIt)
abbrev iIt : Shp := .s (.io kIt)
abbrev rI : Shp := .s (.ro I)
abbrev oI : Shp := .s (.ow I)
abbrev iI : Shp := .s (.io I)
abbrev bIt : Shp := .s (.bx ⟨true, kIt⟩)
abbrev It := kIt.den
abbrev W (n : Int) : Int := IntKind.i64.wrap n
abbrev cF (f : Nat) : Shp := .fn f [.bx ⟨true, kIt⟩]
def meetW (a b : It) : Bool := decide (a.1 < W (b.1 + b.2.2.1)) && (decide (b.1 < W (a.1 + a.2.2.1)) && (decide (a.2.1 < W (b.2.1 + b.2.2.2)) && decide (b.2.1 < W (a.2.1 + a.2.2.2))))
def boxX (x : It) (s : Int) : Int := if s = 1 ∨ s = 2 ∨ s = 5 then W (x.1 - x.2.2.1) else if s = 6 ∨ s = 7 then W (x.1 - W (x.2.2.1.tdiv 2)) else W (x.1 + 1)
def boxY (x : It) (s : Int) : Int := if s = 2 ∨ s = 3 ∨ s = 7 then W (x.2.1 - x.2.2.2) else if s = 4 ∨ s = 5 then W (x.2.1 - W (x.2.2.2.tdiv 2)) else W (x.2.1 + 1)
def boxS (x : It) (s : Int) : It := (boxX x s, boxY x s, x.2.2.1, x.2.2.2)
def inW (b : It) (x y : Int) : Bool := decide (x ≥ b.1) && (decide (x < W (b.1 + b.2.2.1)) && (decide (y ≥ b.2.1) && decide (y < W (b.2.1 + b.2.2.2))))
def cutS (n lo hi : Int) : Int := W (lo + (bif decide (n.tmod (W (W (hi - lo) + 1)) < 0) then W (n.tmod (W (W (hi - lo) + 1)) + W (W (hi - lo) + 1)) else n.tmod (W (W (hi - lo) + 1))))
def T1 : Table :=
  ext 18 (entV [sIt, sIt] (specP [sIt, sIt] [sB] (fun _ => true) fun v => (meetW v.1 v.2.1, ()))) <|
  ext 76 (entV [sIt, sI] (specP [sIt, sI] [sIt] (fun _ => true) fun v => (boxS v.1 v.2.1, ()))) <|
  ext 79 (entV [sIt, sI, sI] (specP [sIt, sI, sI] [sB] (fun _ => true) fun v => (inW v.1 v.2.1 v.2.2.1, ()))) <|
  ext 41 (entV [sI, sI, sI] (specP [sI, sI, sI] [sB] (fun _ => true) fun v => (decide (v.2.1 ≤ v.1 ∧ v.1 ≤ v.2.2.1), ()))) T0
abbrev T1' : Table := ext 78 (entV [sIt, sI] (specP [sIt, sI] [sIt] (fun v => decide (0 ≤ v.2.1 ∧ v.2.1 ≤ 7)) fun v => (boxS v.1 v.2.1, ()))) T1
def oneB (x : It) : It := (x.1, x.2.1, 1, 1)
def T2 : Table :=
  ext 139 (entV [sIt, bIt] (specP [sIt, bIt] [sB] (fun _ => true) fun v => (meetW v.2.1 (oneB v.1), ()))) <|
  ext 141 (entV [sIt, bIt] (specP [sIt, bIt] [sB] (fun _ => true) fun v => (meetW v.2.1 v.1, ()))) T1'
/-- The index of the first one that fits. -/
def fiK (p : It → Bool) : List It → Int → Option Int
  | [], _ => none
  | x :: r, k => bif p x then some k else fiK p r (k + 1)
def fiV (p : It → Bool) (l : List It) (k : Int) : Option Int := fiK p (l.drop k.toNat) k
abbrev kFi (f : Nat) : List Shp := [rIt, cF f, sI, sI]
def preFi (l : List It) (n k : Int) : Bool := decide (l.length ≤ 1000 ∧ n = l.length ∧ 0 ≤ k ∧ k ≤ n)
def cFi (f : Nat) (q : It → It → Bool) : SpecC (kFi f) := cut2 (kFi f) [.un] [sI] (fun v => preFi v.1.1 v.2.2.1 v.2.2.2.1) (fun v => (fiV (q v.2.1.1) v.1.1 v.2.2.2.1).isNone) (.exit 0) .ret (fun _ => ((), ())) (fun v => ((fiV (q v.2.1.1) v.1.1 v.2.2.2.1).getD 0, ())) (same (kFi f)) (same (kFi f))
def muFi (f : Nat) : denA (kFi f) → Nat := fun v => (v.2.2.1 - v.2.2.2.1).toNat
def qC (b x : It) : Bool := meetW b (oneB x)
def qF (b x : It) : Bool := meetW b x
def anyI (p : It → Bool) (l : List It) : Int := (fiV p l 0).getD (-1)
abbrev kAn (f : Nat) : List Shp := [rIt, cF f]
def T3 : Table :=
  ext 149 (entV (kAn 139) (specP (kAn 139) [sI] (fun v => decide (v.1.1.length ≤ 1000)) fun v => (anyI (qC v.2.1.1) v.1.1, ()))) <|
  ext 150 (entV (kAn 141) (specP (kAn 141) [sI] (fun v => decide (v.1.1.length ≤ 1000)) fun v => (anyI (qF v.2.1.1) v.1.1, ()))) T2
def T4 : Table :=
  ext 138 (entV (kAn 139) (specP (kAn 139) [sB] (fun v => decide (v.1.1.length ≤ 1000)) fun v => (decide (anyI (qC v.2.1.1) v.1.1 ≥ 0), ()))) <|
  ext 140 (entV (kAn 141) (specP (kAn 141) [sB] (fun v => decide (v.1.1.length ≤ 1000)) fun v => (decide (anyI (qF v.2.1.1) v.1.1 ≥ 0), ()))) T3
def covS (b : It) (l : List It) : Bool := l.any (qC b)
def freeS (b : It) (l : List It) : Bool := !l.any (qF b)
def T5 : Table :=
  ext 119 (entV [sIt, rIt] (specP [sIt, rIt] [sB] (fun v => decide (v.2.1.1.length ≤ 1000)) fun v => (covS v.1 v.2.1.1, ()))) <|
  ext 120 (entV [sIt, rIt] (specP [sIt, rIt] [sB] (fun v => decide (v.2.1.1.length ≤ 1000)) fun v => (freeS v.1 v.2.1.1, ()))) T4
/-! ### The check -/
abbrev okN (a b c d : Int) : Prop := -1000 ≤ a ∧ a ≤ 1000 ∧ -1000 ≤ b ∧ b ≤ 1000 ∧ 1 ≤ c ∧ c ≤ 40 ∧ 1 ≤ d ∧ d ≤ 40
abbrev okIt (x : It) : Prop := okN x.1 x.2.1 x.2.2.1 x.2.2.2
def badL (l : List It) : Bool := l.any fun x => !decide (okIt x)
abbrev kCk : List Shp := [rIt, sI, sI]
def cCk : SpecC kCk := cut2 kCk [.un] [sI] (fun v => preFi v.1.1 v.2.1 v.2.2.1) (fun v => !badL (v.1.1.drop v.2.2.1.toNat)) (.exit 0) .ret (fun _ => ((), ())) (fun _ => (4, ())) (same kCk) (same kCk)
def muCk : denA kCk → Nat := fun v => (v.2.1 - v.2.2.1).toNat
def chkL (l : List It) : Int := bif decide (32 < l.length) then 2 else bif badL l then 4 else 0
end Go.Proofs.YtacdahpjmeianaaLb
