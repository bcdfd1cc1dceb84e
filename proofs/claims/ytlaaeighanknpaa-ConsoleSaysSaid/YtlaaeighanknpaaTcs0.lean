/- What is laid here: the kinds of console commands, and the plain functions that the law ConsoleSays reaches. Definitions alone; no condition. -/
import Derived.Test.YtlaaeighanknpaaEvZc
import Derived.Test.YtlaaeighanknpaaProg
namespace Go.Proofs.YtlaaeighanknpaaCs
open Go Go.Proofs Go.Proofs.YtlaaeighanknpaaEv
abbrev I : Kd := .int .i64
abbrev sI : Shp := .s (.v ⟨false, I⟩)
abbrev sB : Shp := .s (.v ⟨false, .bool⟩)
abbrev sS : Shp := .s (.v ⟨false, .str⟩)
abbrev kV : Kd := .pair .str (.pair .bool (.pair .bool (.pair I I)))
abbrev kCmd : Kd := .pair .str (.pair .str (.pair I .str))
abbrev kCl : Kd := .pair .str (.pair I (.pair I .str))
abbrev sV : Shp := .s (.v ⟨true, kV⟩)
abbrev sCmd : Shp := .s (.v ⟨true, kCmd⟩)
abbrev sCl : Shp := .s (.v ⟨true, kCl⟩)
abbrev Verb := ByteArray × Bool × Bool × Int × Int

def verbsL : List Verb :=
  [(⟨#[97, 99, 99, 101, 112, 116]⟩, false, false, 0, -1), (⟨#[99, 111, 110, 116, 97, 99, 116]⟩, false, true, 0, 5), (⟨#[100, 105, 114, 101, 99, 116]⟩, false, true, 0, 3),
   (⟨#[100, 114, 111, 112]⟩, false, false, 0, -1), (⟨#[104, 101, 97, 100, 105, 110, 103]⟩, true, false, 4095, 1), (⟨#[104, 101, 105, 103, 104, 116]⟩, true, false, 60000, 0),
   (⟨#[104, 111, 108, 100]⟩, false, true, 0, 4), (⟨#[108, 97, 110, 100]⟩, false, true, 0, 6), (⟨#[111, 102, 102, 101, 114]⟩, false, true, 0, -1), (⟨#[115, 112, 101, 101, 100]⟩, true, false, 400, 2)]
/-- The first place, counted from k, where p holds; -1 if there is none. -/
def ixP {α : Type} (p : α → Bool) : Int → List α → Int
  | _, [] => -1
  | k, x :: r => if p x then k else ixP p (k + 1) r
def isV (name : ByteArray) (v : Verb) : Bool := decide (v.1 = name)
def zeroV : Verb := (⟨#[]⟩, false, false, 0, 0)
def findS (name : ByteArray) : Verb × Bool :=
  match verbsL.find? (isV name) with
  | some v => (v, true)
  | none => (zeroV, false)
def okC (k c : Int) : Bool := (decide (c ≥ 65) && decide (c ≤ 90)) || (decide (k > 0) && (decide (c ≥ 48) && decide (c ≤ 57)))
def okL : Int → List Int → Bool
  | _, [] => true
  | k, c :: r => okC k c && okL (k + 1) r
def namS (s : ByteArray) : Bool := okL 0 (bytesI s) && (decide (0 < s.size) && decide (s.size ≤ 8))
def chkB (found nb fx : Bool) (most : Int) (c : ByteArray) (n : Int) (f : ByteArray) : Int :=
  bif !found then 5
  else bif !namS c || (fx && !namS f) then 6
  else bif (!fx && !decide (f = ⟨#[]⟩)) || (!nb && n != 0) then 3
  else bif decide (n < 0) || decide (n > most) then 4 else 0
def chkS (v c : ByteArray) (n : Int) (f : ByteArray) : Int := chkB (findS v).2 (findS v).1.2.1 (findS v).1.2.2.1 (findS v).1.2.2.2.1 c n f
def zeroCl : kCl.den := (⟨#[]⟩, 0, 0, ⟨#[]⟩)
def clrS (v c : ByteArray) (n : Int) (f : ByteArray) : kCl.den × Int :=
  if chkS v c n f ≠ 0 then (zeroCl, chkS v c n f) else if (findS v).1.2.2.2.2 < 0 then (zeroCl, 8) else ((c, (findS v).1.2.2.2.2, n, f), 0)

def T1 : Table :=
  ext 70 (entV [] (specP [] [.s (.ow kV)] (fun _ => true) fun _ => ((verbsL, false), ()))) <|
  ext 93 (entV [sV, .s (.bx ⟨false, .str⟩)] (specP [sV, .s (.bx ⟨false, .str⟩)] [sB] (fun _ => true) fun v => (isV v.2.1 v.1, ()))) T0
/-- The loop of IndexFunc. -/
abbrev kIx : List Shp := [.s (.ro kV), .fn 93 [.bx ⟨false, .str⟩], sI, sI]
def preIx (l : List Verb) (n k : Int) : Bool := decide (n = l.length ∧ 0 ≤ k ∧ k ≤ n ∧ n ≤ 1000000)
def isIx (l : List Verb) (name : ByteArray) (k : Int) : Int := ixP (isV name) k (l.drop k.toNat)
def cIx : SpecC kIx := cut2 kIx [sI] [.un] (fun v => preIx v.1.1 v.2.2.1 v.2.2.2.1) (fun v => decide (0 ≤ isIx v.1.1 v.2.1.1 v.2.2.2.1)) .ret (.exit 0) (fun v => (isIx v.1.1 v.2.1.1 v.2.2.2.1, ())) (fun _ => ((), ())) (same kIx) (same kIx)
def muIx : denA kIx → Nat := fun v => (v.2.2.1 - v.2.2.2.1).toNat
abbrev kIf : List Shp := [.s (.ro kV), .fn 93 [.bx ⟨false, .str⟩]]
def T2 : Table := ext 92 (entV kIf (specP kIf [sI] (fun v => decide (v.1.1.length ≤ 1000000)) fun v => (ixP (isV v.2.1.1) 0 v.1.1, ()))) T1
/-- The loop of named. -/
abbrev kNm : List Shp := [.s (.ro (.int .u8)), sI, sI]
def preNm (l : List Int) (n k : Int) : Bool := decide (n = l.length ∧ 0 ≤ k ∧ k ≤ n ∧ n ≤ 1000000000000000000)
def cNm : SpecC kNm := cut2 kNm [.un] [sB] (fun v => preNm v.1.1 v.2.1 v.2.2.1) (fun v => okL v.2.2.1 (v.1.1.drop v.2.2.1.toNat)) (.exit 0) .ret (fun _ => ((), ())) (fun _ => (false, ())) (same kNm) (same kNm)
def muNm : denA kNm → Nat := fun v => (v.2.1 - v.2.2.1).toNat
/-- The loop of Named. -/
abbrev kNr : List Shp := [sS, sI, sI]
def alnum (c : Int) : Bool := (decide (c ≥ 65) && decide (c ≤ 90)) || (decide (c ≥ 48) && decide (c ≤ 57))
def cNr : SpecC kNr := cut2 kNr [.un] [sB] (fun v => preNm (bytesI v.1) v.2.1 v.2.2.1) (fun v => ((bytesI v.1).drop v.2.2.1.toNat).all alnum) (.exit 0) .ret (fun _ => ((), ())) (fun _ => (false, ())) (same kNr) (same kNr)
def muNr : denA kNr → Nat := fun v => (v.2.1 - v.2.2.1).toNat
def T3 : Table :=
  ext 82 (entV [sS] (specP [sS] [sV, sB] (fun _ => true) fun v => ((findS v.1).1, (findS v.1).2, ()))) <|
  ext 83 (entV [sS] (specP [sS] [sB] (fun v => decide (v.1.size ≤ 1000000000000000000)) fun v => (namS v.1, ()))) <|
  ext 50 (entV [sS] (specP [sS] [sB] (fun v => decide (v.1.size ≤ 1000000000000000000)) fun v => (namS v.1, ()))) T2
def preC (c f : ByteArray) : Bool := decide (c.size ≤ 1000000000000000000 ∧ f.size ≤ 1000000000000000000)
def T4 : Table := ext 51 (entV [sCmd] (specP [sCmd] [sI] (fun v => preC v.1.2.1 v.1.2.2.2) fun v => (chkS v.1.1 v.1.2.1 v.1.2.2.1 v.1.2.2.2, ()))) T3
def T5 : Table := ext 49 (entV [sCmd] (specP [sCmd] [sCl, sI] (fun v => preC v.1.2.1 v.1.2.2.2) fun v => ((clrS v.1.1 v.1.2.1 v.1.2.2.1 v.1.2.2.2).1, (clrS v.1.1 v.1.2.1 v.1.2.2.1 v.1.2.2.2).2, ()))) T4
/-! ### The law's own table -/
abbrev eqN (v : ByteArray) (n : ByteArray) : Bool := decide (v = n)
def sw0 (v : ByteArray) (m k : Int) (nb : Bool) : Int × Int × Bool :=
  if eqN v ⟨#[104, 101, 105, 103, 104, 116]⟩ then (60000, 0, nb) else if eqN v ⟨#[104, 101, 97, 100, 105, 110, 103]⟩ then (4095, 1, nb) else if eqN v ⟨#[115, 112, 101, 101, 100]⟩ then (400, 2, nb) else (m, k, false)
def sw1 (v : ByteArray) (k : Int) (fx : Bool) : Int × Bool :=
  if eqN v ⟨#[100, 105, 114, 101, 99, 116]⟩ then (3, fx) else if eqN v ⟨#[104, 111, 108, 100]⟩ then (4, fx) else if eqN v ⟨#[99, 111, 110, 116, 97, 99, 116]⟩ then (5, fx) else if eqN v ⟨#[108, 97, 110, 100]⟩ then (6, fx)
  else if eqN v ⟨#[111, 102, 102, 101, 114]⟩ then (k, fx) else (k, false)
def wantS (v c : ByteArray) (n : Int) (f : ByteArray) (most : Int) (nb fx : Bool) (w0 : Int) : Int :=
  bif !nb && (!fx && (!eqN v ⟨#[97, 99, 99, 101, 112, 116]⟩ && !eqN v ⟨#[100, 114, 111, 112]⟩)) then 5
  else bif !namS c || (fx && !namS f) then 6
  else bif (!fx && !decide (f = ⟨#[]⟩)) || (!nb && n != 0) then 3
  else bif decide (n < 0) || decide (n > most) then 4 else w0
abbrev k0 : List Shp := [sS, sI, sI, sB]
def c0 : SpecC k0 := cut1 k0 [sI, sI, sB] (fun _ => true) .normal (fun v => ((sw0 v.1 v.2.1 v.2.2.1 v.2.2.2.1).1, (sw0 v.1 v.2.1 v.2.2.1 v.2.2.2.1).2.1, (sw0 v.1 v.2.1 v.2.2.1 v.2.2.2.1).2.2, ())) (same k0)
abbrev k1 : List Shp := [sS, sI, sB]
def c1 : SpecC k1 := cut1 k1 [sI, sB] (fun _ => true) .normal (fun v => ((sw1 v.1 v.2.1 v.2.2.1).1, (sw1 v.1 v.2.1 v.2.2.1).2, ())) (same k1)
abbrev k2 : List Shp := [.s (.bx ⟨true, kCmd⟩), sI, sB, sB, sI]
def c2 : SpecC k2 := cut1 k2 [sI] (fun v => preC v.1.2.1 v.1.2.2.2) .normal (fun v => (wantS v.1.1 v.1.2.1 v.1.2.2.1 v.1.2.2.2 v.2.1 v.2.2.1 v.2.2.2.1 v.2.2.2.2.1, ())) (same k2)
abbrev cutsL : Cuts := addCut 0 [25, 5, 6, 7] [5, 6, 7] (entC k0 c0) (addCut 1 [33, 6, 8] [6, 8] (entC k1 c1) (addCut 2 [1, 5, 7, 8, 9] [9] (entC k2 c2) noCuts))
end Go.Proofs.YtlaaeighanknpaaCs
