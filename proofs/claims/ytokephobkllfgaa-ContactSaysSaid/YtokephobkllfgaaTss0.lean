/- What is laid here: the kinds of flight strips, and the plain functions that the law StripSays reaches. Definitions alone; no condition. -/
import Derived.Test.YtokephobkllfgaaTin2
import Derived.Test.YtokephobkllfgaaProg
namespace Go.Proofs.YtokephobkllfgaaSs
open Go Go.Proofs Go.Proofs.YtokephobkllfgaaEv
abbrev I : Kd := .int .i64
abbrev sI : Shp := .s (.v ⟨false, I⟩)
abbrev sB : Shp := .s (.v ⟨false, .bool⟩)
abbrev sS : Shp := .s (.v ⟨false, .str⟩)
abbrev kS : Kd := .pair .str (.pair .str (.pair I (.pair I I)))
abbrev sSt : Shp := .s (.v ⟨true, kS⟩)
abbrev rS : Shp := .s (.ro kS)
abbrev nilS : Shp := .s (.con (.slice none 0 0))
abbrev Strip := ByteArray × ByteArray × Int × Int × Int
/-- The first place, counted from k, where p holds; -1 if there is none. -/
def ixP {α : Type} (p : α → Bool) : Int → List α → Int
  | _, [] => -1
  | k, x :: r => if p x then k else ixP p (k + 1) r
def isC (c : ByteArray) (x : Strip) : Bool := decide (x.1 = c)
def ixC (c : ByteArray) (l : List Strip) : Int := ixP (isC c) 0 l
def okC (k c : Int) : Bool := (decide (c ≥ 65) && decide (c ≤ 90)) || (decide (k > 0) && (decide (c ≥ 48) && decide (c ≤ 57)))
def okL : Int → List Int → Bool
  | _, [] => true
  | k, c :: r => okC k c && okL (k + 1) r
def namS (s : ByteArray) : Bool := okL 0 (bytesI s) && (decide (0 < s.size) && decide (s.size ≤ 8))
def inS (n a b : Int) : Bool := decide (n ≥ a) && decide (n ≤ b)
def cutS (n h : Int) : Int := bif decide (n.tmod (h + 1) < 0) then n.tmod (h + 1) + (h + 1) else n.tmod (h + 1)
def big : Nat := 1000000000000000000
def okS (s : Strip) : Bool := decide (s.1.size ≤ 1000000000000000000 ∧ s.2.1.size ≤ 1000000000000000000)
def chkS (s : Strip) : Int := bif !namS s.1 || !namS s.2.1 then 6 else bif !inS s.2.2.1 0 200000 || (!inS s.2.2.2.1 0 60000 || !inS s.2.2.2.2 0 3) then 4 else 0
def cntS (b : Int) (l : List Strip) : Int := ((l.filter fun x => decide (x.2.2.2.2 = b)).length : Int)
def perS (a b : Int) : Bool := bif decide (a = 0) then decide (b = 1) else bif decide (a = 1) then decide (b = 2) || decide (b = 3) else bif decide (a = 2) then decide (b = 1) || decide (b = 3) else false
def cmpI (a b : Int) : Int := bif decide (a < b) then -1 else bif decide (a > b) then 1 else 0
/-! ### named, Named, IndexFunc -/
abbrev kNm : List Shp := [.s (.ro (.int .u8)), sI, sI]
def preNm (l : List Int) (n k : Int) : Bool := decide (n = l.length ∧ 0 ≤ k ∧ k ≤ n ∧ n ≤ 1000000000000000000)
def cNm : SpecC kNm := cut2 kNm [.un] [sB] (fun v => preNm v.1.1 v.2.1 v.2.2.1) (fun v => okL v.2.2.1 (v.1.1.drop v.2.2.1.toNat)) (.exit 0) .ret (fun _ => ((), ())) (fun _ => (false, ())) (same kNm) (same kNm)
def muNm : denA kNm → Nat := fun v => (v.2.1 - v.2.2.1).toNat
abbrev kNr : List Shp := [sS, sI, sI]
def alnum (c : Int) : Bool := (decide (c ≥ 65) && decide (c ≤ 90)) || (decide (c ≥ 48) && decide (c ≤ 57))
def cNr : SpecC kNr := cut2 kNr [.un] [sB] (fun v => preNm (bytesI v.1) v.2.1 v.2.2.1) (fun v => ((bytesI v.1).drop v.2.2.1.toNat).all alnum) (.exit 0) .ret (fun _ => ((), ())) (fun _ => (false, ())) (same kNr) (same kNr)
def muNr : denA kNr → Nat := fun v => (v.2.1 - v.2.2.1).toNat
abbrev xS : Sp := .bx ⟨false, .str⟩
abbrev xT : Sp := .bx ⟨true, kS⟩
noncomputable def U0 : Table := ext 59 (entV [sI] (specP [sI] [sB] (fun _ => true) fun _ => (false, ()))) T0
noncomputable def U1 : Table :=
  ext 57 (entV [sSt, .s xS] (specP [sSt, .s xS] [sB] (fun _ => true) fun v => (isC v.2.1 v.1, ()))) <|
  ext 8 (entV [sSt, .s xT] (specP [sSt, .s xT] [sB] (fun _ => true) fun v => (isC v.2.1.1 v.1, ()))) <|
  ext 39 (entV [sS] (specP [sS] [sB] (fun v => decide (v.1.size ≤ 1000000000000000000)) fun v => (namS v.1, ()))) <|
  ext 9 (entV [sS] (specP [sS] [sB] (fun v => decide (v.1.size ≤ 1000000000000000000)) fun v => (namS v.1, ()))) <|
  ext 10 (entV [sI, sI, sI] (specP [sI, sI, sI] [sB] (fun _ => true) fun v => (inS v.1 v.2.1 v.2.2.1, ()))) <|
  ext 11 (entV [sI, sI, sI] (specP [sI, sI, sI] [sI] (fun v => decide (v.2.1 = 0 ∧ 0 ≤ v.2.2.1 ∧ v.2.2.1 ≤ 1000)) fun v => (cutS v.1 v.2.2.1, ()))) <|
  ext 42 (entV [sI, sI] (specP [sI, sI] [sB] (fun _ => true) fun v => (perS v.1 v.2.1, ()))) <|
  ext 46 (entV [sI, sI] (specP [sI, sI] [sI] (fun _ => true) fun v => (cmpI v.1 v.2.1, ()))) U0
abbrev kX1 : List Shp := [rS, .fn 57 [xS], sI, sI]
abbrev kX2 : List Shp := [rS, .fn 8 [xT], sI, sI]
def preIx (l : List Strip) (n k : Int) : Bool := decide (n = l.length ∧ 0 ≤ k ∧ k ≤ n ∧ n ≤ 1000000)
def isIx (l : List Strip) (c : ByteArray) (k : Int) : Int := ixP (isC c) k (l.drop k.toNat)
def cX1 : SpecC kX1 := cut2 kX1 [sI] [.un] (fun v => preIx v.1.1 v.2.2.1 v.2.2.2.1) (fun v => decide (0 ≤ isIx v.1.1 v.2.1.1 v.2.2.2.1)) .ret (.exit 0) (fun v => (isIx v.1.1 v.2.1.1 v.2.2.2.1, ())) (fun _ => ((), ())) (same kX1) (same kX1)
def cX2 : SpecC kX2 := cut2 kX2 [sI] [.un] (fun v => preIx v.1.1 v.2.2.1 v.2.2.2.1) (fun v => decide (0 ≤ isIx v.1.1 v.2.1.1.1 v.2.2.2.1)) .ret (.exit 0) (fun v => (isIx v.1.1 v.2.1.1.1 v.2.2.2.1, ())) (fun _ => ((), ())) (same kX2) (same kX2)
def muX1 : denA kX1 → Nat := fun v => (v.2.2.1 - v.2.2.2.1).toNat
def muX2 : denA kX2 → Nat := fun v => (v.2.2.1 - v.2.2.2.1).toNat
abbrev kF1 : List Shp := [rS, .fn 57 [xS]]
abbrev kF2 : List Shp := [rS, .fn 8 [xT]]
abbrev kG1 : List Shp := [nilS, .fn 57 [xS]]
abbrev kG2 : List Shp := [nilS, .fn 8 [xT]]
noncomputable def U2 : Table :=
  ext 7 (orE (orE (entV kF1 (specP kF1 [sI] (fun v => decide (v.1.1.length ≤ 1000000)) fun v => (ixC v.2.1.1 v.1.1, ()))) (entV kF2 (specP kF2 [sI] (fun v => decide (v.1.1.length ≤ 1000000)) fun v => (ixC v.2.1.1.1 v.1.1, ()))))
    (orE (entV kG1 (specP kG1 [sI] (fun _ => true) fun _ => (-1, ()))) (entV kG2 (specP kG2 [sI] (fun _ => true) fun _ => (-1, ()))))) <|
  ext 5 (entV [sSt] (specP [sSt] [sI] (fun v => okS v.1) fun v => (chkS v.1, ()))) U1
end Go.Proofs.YtokephobkllfgaaSs
