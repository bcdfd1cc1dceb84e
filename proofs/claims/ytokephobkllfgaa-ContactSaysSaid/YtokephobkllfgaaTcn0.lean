/- What is laid here: the kinds of radio contacts, and the plain functions that the law ContactSays reaches, with their tables and loops. Definitions alone; no condition. -/
import Derived.Test.YtokephobkllfgaaTss3
import Derived.Test.YtokephobkllfgaaEvZg
import Derived.Sort.Defs
import Derived.Shelf.SlSortCmp.Insertion
namespace Go.Proofs.YtokephobkllfgaaCn
open Go Go.Proofs Go.Proofs.YtokephobkllfgaaEv Go.Proofs.YtokephobkllfgaaSs
abbrev kT : Kd := .pair .str (.pair I I)
abbrev kL : Kd := .pair I (.pair I (.pair I .str))
abbrev T3 := ByteArray × Int × Int
abbrev L4 := Int × Int × Int × ByteArray
abbrev sT : Shp := .s (.v ⟨true, kT⟩)
abbrev xL : Sp := .bx ⟨true, kL⟩
abbrev rT : Shp := .s (.ro kT)
abbrev oT : Shp := .s (.ow kT)
abbrev iT : Shp := .s (.io kT)
abbrev rL : Shp := .s (.ro kL)
abbrev rW : Shp := .s (.ro .str)
abbrev oW : Shp := .s (.ow .str)
abbrev bR : Shp := .ob [.ro kT]
abbrev bO : Shp := .ob [.ow kT]
def zT : T3 := (⟨#[]⟩, 0, 0)
def atT (l : List T3) (k : Int) : T3 := l.getD k.toNat zT
def valF (f : Int) : Bool := decide (f ≥ 118000) && (decide (f ≤ 136975) && (f.tmod 25 == 0))
def isT (c : ByteArray) (x : T3) : Bool := decide (x.1 = c)
def ixT (c : ByteArray) (l : List T3) : Int := ixP (isT c) 0 l
/-- The number of contacts before a call in a sorted list, and whether it stands there. -/
def lowT (c : ByteArray) : List T3 → Nat
  | [] => 0
  | x :: r => bif decide (strC x.1 c < 0) then lowT c r + 1 else 0
def lowI (c : ByteArray) (l : List T3) : Int := (lowT c l : Int)
def hasT (c : ByteArray) (l : List T3) : Bool := decide (lowI c l < (l.length : Int)) && (strC (atT l (lowI c l)).1 c == 0)
def srtd (l : List T3) : Prop := l.Pairwise fun x y => strC x.1 y.1 < 0
noncomputable def C1 : Table :=
  ext 49 (entV [sS] (specP [sS] [sB] (fun v => decide (v.1.size ≤ 1000000000000000000)) fun v => (namS v.1, ()))) <|
  ext 22 (entV [sI] (specP [sI] [sB] (fun _ => true) fun v => (valF v.1, ()))) <|
  ext 24 (entV [sI] (specP [sI] [sB] (fun _ => true) fun v => (valF v.1, ()))) <|
  ext 26 (entV [sT, .s xL] (specP [sT, .s xL] [sB] (fun _ => true) fun v => (isT v.2.1.2.2.2 v.1, ()))) <|
  ext 63 (entV [sT, sS] (specP [sT, sS] [sI] (fun _ => true) fun v => (strC v.1.1 v.2.1, ()))) <|
  ext 32 (entV [sT, sT] (specP [sT, sT] [sI] (fun _ => true) fun v => (strC v.1.1 v.2.1.1, ()))) <|
  ext 56 (entV [sT, sT] (specP [sT, sT] [sI] (fun v => inS v.1.2.2 0 200000 && inS v.2.1.2.2 0 200000) fun v => (v.1.2.2 - v.2.1.2.2, ()))) U3
/-! ### IndexFunc, BinarySearchFunc -/
abbrev kXc : List Shp := [rT, .fn 26 [xL], sI, sI]
def preXc (l : List T3) (n k : Int) : Bool := decide (n = l.length ∧ 0 ≤ k ∧ k ≤ n ∧ n ≤ 1000000)
def iXc (l : List T3) (c : ByteArray) (k : Int) : Int := ixP (isT c) k (l.drop k.toNat)
def cXc : SpecC kXc := cut2 kXc [sI] [.un] (fun v => preXc v.1.1 v.2.2.1 v.2.2.2.1) (fun v => decide (0 ≤ iXc v.1.1 v.2.1.1.2.2.2 v.2.2.2.1)) .ret (.exit 0) (fun v => (iXc v.1.1 v.2.1.1.2.2.2 v.2.2.2.1, ())) (fun _ => ((), ())) (same kXc) (same kXc)
def muXc : denA kXc → Nat := fun v => (v.2.2.1 - v.2.2.2.1).toNat
abbrev kFc : List Shp := [rT, .fn 26 [xL]]
abbrev kBs : List Shp := [rT, sS, .fn 63 []]
abbrev kBl : List Shp := [rT, sS, .fn 63 [], sI, sI]
noncomputable def cBl : SpecC kBl := cut1 kBl [sI] (fun v => bp (srtd v.1.1 ∧ 0 ≤ v.2.2.2.1 ∧ v.2.2.2.1 ≤ lowI v.2.1 v.1.1 ∧ lowI v.2.1 v.1.1 ≤ v.2.2.2.2.1 ∧ v.2.2.2.2.1 ≤ (v.1.1.length : Int) ∧ v.1.1.length ≤ 1000)) (.exit 0) (fun v => (lowI v.2.1 v.1.1, ())) (same kBl)
def muBl : denA kBl → Nat := fun v => (v.2.2.2.2.1 - v.2.2.2.1).toNat
/-! ### Equal -/
def eqT (x y : T3) : Bool := decide (x.1 = y.1) && (x.2.1 == y.2.1 && (x.2.2 == y.2.2 && true))
def eqTs : List T3 → List T3 → Bool
  | [], [] => true
  | x :: r, y :: s => eqT x y && eqTs r s
  | _, _ => false
def eqWs : List ByteArray → List ByteArray → Bool
  | [], [] => true
  | x :: r, y :: s => decide (x = y) && eqWs r s
  | _, _ => false
abbrev kEt : List Shp := [rT, rT, sI, sI]
abbrev kEw : List Shp := [rW, rW, sI, sI]
def preE {α : Type} (l m : List α) (n k : Int) : Bool := decide (n = l.length ∧ m.length = l.length ∧ 0 ≤ k ∧ k ≤ n ∧ n ≤ 100)
def cEt : SpecC kEt := cut2 kEt [.un] [sB] (fun v => preE v.1.1 v.2.1.1 v.2.2.1 v.2.2.2.1) (fun v => eqTs (v.1.1.drop v.2.2.2.1.toNat) (v.2.1.1.drop v.2.2.2.1.toNat)) (.exit 0) .ret (fun _ => ((), ())) (fun _ => (false, ())) (same kEt) (same kEt)
def muEt : denA kEt → Nat := fun v => (v.2.2.1 - v.2.2.2.1).toNat
def cEw : SpecC kEw := cut2 kEw [.un] [sB] (fun v => preE v.1.1 v.2.1.1 v.2.2.1 v.2.2.2.1) (fun v => eqWs (v.1.1.drop v.2.2.2.1.toNat) (v.2.1.1.drop v.2.2.2.1.toNat)) (.exit 0) .ret (fun _ => ((), ())) (fun _ => (false, ())) (same kEw) (same kEw)
def muEw : denA kEw → Nat := fun v => (v.2.2.1 - v.2.2.2.1).toNat
/-! ### Insert, Delete, sorts -/
def insG {α : Type} (xs : List α) (i : Int) (ys : List α) : List α := xs.take i.toNat ++ (ys ++ xs.drop i.toNat)
abbrev kIc : List Shp := [oT, sI, oT]
def sp50 : SpecV kIc := fun v => (decide (0 ≤ v.2.1 ∧ v.2.1 ≤ (v.1.1.length : Int) ∧ v.1.1.length ≤ 1000 ∧ v.2.2.1.1.length = 1), [(true, (.sl 2 0 3 (v.1.1.length + 1) (v.1.1.length + 1) false false, [.dead, .row true kT v.2.2.1.1, .row true kT (insG v.1.1 v.2.1 v.2.2.1.1)]))])
abbrev kDc : List Shp := [oT, sI, sI]
def sp30 : SpecV kDc := fun v => (decide (v.2.2.1 = v.2.1 + 1 ∧ 0 ≤ v.2.1 ∧ v.2.1 < (v.1.1.length : Int) ∧ v.1.1.length ≤ 1000), [(true, (.sl 1 0 3 (v.1.1.eraseIdx v.2.1.toNat).length (v.1.1.eraseIdx v.2.1.toNat).length false v.1.2, [.dead, .row true kT (v.1.1.eraseIdx v.2.1.toNat)]))])
abbrev k31 : List Shp := [iT, .fn 32 []]
def cmpC (x y : T3) : Int := strC x.1 y.1
instance : Inhabited T3 := ⟨(⟨#[]⟩, 0, 0)⟩
noncomputable def srtC (l : List T3) : List T3 := (Go.Sort.pdq (Go.Proofs.ltOf cmpC) l.toArray 0 l.length (Go.Lib.bitLen l.length) true true).toList
def swp (L : List T3) (j : Nat) : List T3 := (L.set (j + 1) (L.getD j zT)).set j (L.getD (j + 1) zT)
def sinkT : List T3 → Nat → List T3
  | L, 0 => L
  | L, j + 1 => bif decide ((L.getD (j + 1) zT).2.2 - (L.getD j zT).2.2 < 0) then sinkT (swp L j) j else L
def isoT : Nat → Nat → List T3 → List T3
  | 0, _, L => L
  | n + 1, i, L => isoT n (i + 1) (sinkT L i)
def okT (L : List T3) : Bool := L.all fun x => inS x.2.2 0 200000
abbrev kSk : List Shp := [iT, sI, .fn 56 [], sI]
def preSk (L : List T3) (a j : Int) : Bool := decide (a = 0 ∧ 0 ≤ j ∧ j < (L.length : Int) ∧ L.length ≤ 100) && okT L
def cSk : SpecC kSk := cut1 kSk [] (fun v => preSk v.1.1 v.2.1 v.2.2.2.1) (.exit 2) (fun _ => ()) (fun v => (sinkT v.1.1 v.2.2.2.1.toNat, (), (), (), ()))
def muSk : denA kSk → Nat := fun v => v.2.2.2.1.toNat
abbrev kIo : List Shp := [iT, sI, sI, .fn 56 [], sI]
def preIo (L : List T3) (a b i : Int) : Bool := decide ((a = 0 ∨ b ≤ i) ∧ 1 ≤ i ∧ b ≤ (L.length : Int) ∧ L.length ≤ 100 ∧ i ≤ 1000) && okT L
def cIo : SpecC kIo := cut1 kIo [] (fun v => preIo v.1.1 v.2.1 v.2.2.1 v.2.2.2.2.1) (.exit 0) (fun _ => ()) (fun v => (isoT (v.2.2.1 - v.2.2.2.2.1).toNat v.2.2.2.2.1.toNat v.1.1, (), (), (), (), ()))
def muIo : denA kIo → Nat := fun v => (v.2.2.1 - v.2.2.2.2.1).toNat
abbrev k66 : List Shp := [iT, sI, sI, .fn 56 []]
def sp66 : SpecV k66 := spec1 k66 [] (fun v => decide ((v.2.1 = 0 ∨ v.2.2.1 ≤ v.2.1) ∧ 0 ≤ v.2.1 ∧ v.2.1 ≤ 100 ∧ v.2.2.1 ≤ (v.1.1.length : Int) ∧ v.1.1.length ≤ 100) && okT v.1.1) (fun _ => ()) fun v => (isoT (v.2.2.1 - (v.2.1 + 1)).toNat (v.2.1 + 1).toNat v.1.1, (), (), (), ())
noncomputable def C2 : Table :=
  ext 25 (entV kFc (specP kFc [sI] (fun v => decide (v.1.1.length ≤ 1000000)) fun v => (ixT v.2.1.1.2.2.2 v.1.1, ()))) <|
  ext 62 (entV kBs (specP kBs [sI, sB] (fun v => bp (srtd v.1.1 ∧ v.1.1.length ≤ 1000)) fun v => (lowI v.2.1 v.1.1, hasT v.2.1 v.1.1, ()))) <|
  ext 34 (entV [rT, rT] (specP [rT, rT] [sB] (fun v => decide (v.1.1.length ≤ 100 ∧ v.2.1.1.length ≤ 100)) fun v => (eqTs v.1.1 v.2.1.1, ()))) <|
  ext 36 (entV [rW, rW] (specP [rW, rW] [sB] (fun v => decide (v.1.1.length ≤ 100 ∧ v.2.1.1.length ≤ 100)) fun v => (eqWs v.1.1 v.2.1.1, ()))) <|
  ext 50 (entV kIc sp50) <| ext 30 (entV kDc sp30) <| ext 31 (entV k31 (spec1 k31 [] (fun v => decide (v.1.1.length ≤ 1000)) (fun _ => ()) fun v => (srtC v.1.1, (), ()))) <|
  ext 66 (entV k66 sp66) C1
def sp54 : SpecV [rT] := fun v => (decide (v.1.1.length ≤ 100), [(v.1.2, (.sc (.slice none 0 0), [.row false kT v.1.1])), (true, (.sl 1 0 3 v.1.1.length v.1.1.length false false, [.row false kT v.1.1, .row true kT v.1.1]))])
abbrev k77 : List Shp := [iT, sI, .fn 56 []]
abbrev kSb : List Shp := [iT, sI, .fn 56 [], sI, sI, sI]
def preSb (L : List T3) (n bs a b : Int) : Bool := decide (n = (L.length : Int) ∧ n ≤ 20 ∧ bs = 20 ∧ ((a = 0 ∧ b = 20) ∨ (b = 40))) && okT L
def cSb : SpecC kSb := cut1 kSb [sI, sI] (fun v => preSb v.1.1 v.2.1 v.2.2.2.1 v.2.2.2.2.1 v.2.2.2.2.2.1) (.exit 0) (fun v => (bif decide (v.2.2.2.2.2.1 ≤ v.2.1) then 20 else v.2.2.2.2.1, bif decide (v.2.2.2.2.2.1 ≤ v.2.1) then 40 else v.2.2.2.2.2.1, ())) fun v => (bif decide (v.2.2.2.2.2.1 ≤ v.2.1) then isoT 19 1 v.1.1 else v.1.1, (), (), (), (), (), ())
def muSb : denA kSb → Nat := fun v => (v.2.1 + 40 - v.2.2.2.2.2.1).toNat
abbrev kS2 : List Shp := [iT, sI, .fn 56 [], sI]
def cS2 : SpecC kS2 := cut1 kS2 [] (fun v => decide (v.2.1 ≤ v.2.2.2.1)) (.exit 2) (fun _ => ()) (same kS2)
def muS2 : denA kS2 → Nat := fun v => (v.2.1 - v.2.2.2.1).toNat
noncomputable def C3 : Table :=
  ext 48 (entV [bR, sS] (specP [bR, sS] [sI, sB] (fun v => bp (srtd v.1.1.1 ∧ v.1.1.1.length ≤ 1000)) fun v => (lowI v.2.1 v.1.1.1, hasT v.2.1 v.1.1.1, ()))) <|
  ext 54 (entV [rT] sp54) <|
  ext 77 (entV k77 (spec1 k77 [] (fun v => decide (v.2.1 = (v.1.1.length : Int) ∧ v.1.1.length ≤ 20) && okT v.1.1) (fun _ => ()) fun v => (isoT (v.1.1.length - 1) 1 v.1.1, (), (), ()))) C2
/-! ### The radio's calls -/
def tunE (M : List T3) (c : ByteArray) (f t : Int) : Int := bif !namS c then 6 else bif !valF f || (decide (t < 0) || decide (t > 200000)) then 4 else bif !hasT c M && (M.length : Int) == 24 then 9 else bif hasT c M && decide (t < (atT M (lowI c M)).2.2) then 12 else 0
def tunM (M : List T3) (c : ByteArray) (f t : Int) : List T3 := bif tunE M c f t == 0 then (bif hasT c M then M.set (lowI c M).toNat (c, f, t) else insG M (lowI c M) [(c, f, t)]) else M
def heaE (M : List T3) (c : ByteArray) (f t : Int) : Int := bif !hasT c M then 8 else bif f != (atT M (lowI c M)).2.1 then 11 else bif decide (t < (atT M (lowI c M)).2.2) || decide (t > 200000) then 12 else 0
def heaM (M : List T3) (c : ByteArray) (f t : Int) : List T3 := bif heaE M c f t == 0 then M.set (lowI c M).toNat ((atT M (lowI c M)).1, (atT M (lowI c M)).2.1, t) else M
def leaE (M : List T3) (c : ByteArray) : Int := bif !hasT c M then 8 else 0
def leaM (M : List T3) (c : ByteArray) : List T3 := bif hasT c M then M.eraseIdx (lowI c M).toNat else M
def preR (M : List T3) (c : ByteArray) : Prop := srtd M ∧ M.length ≤ 60 ∧ c.size ≤ 1000000000000000000
abbrev kTu : List Shp := [bO, sS, sI, sI]
abbrev kLv : List Shp := [bO, sS]
noncomputable def spTu : SpecV kTu := spec1 kTu [sI] (fun v => bp (preR v.1.1.1 v.2.1)) (fun v => (tunE v.1.1.1 v.2.1 v.2.2.1 v.2.2.2.1, ())) fun v => (((tunM v.1.1.1 v.2.1 v.2.2.1 v.2.2.2.1, bif tunE v.1.1.1 v.2.1 v.2.2.1 v.2.2.2.1 == 0 && !hasT v.2.1 v.1.1.1 then false else v.1.1.2), ()), (), (), (), ())
noncomputable def spHe : SpecV kTu := spec1 kTu [sI] (fun v => bp (preR v.1.1.1 v.2.1)) (fun v => (heaE v.1.1.1 v.2.1 v.2.2.1 v.2.2.2.1, ())) fun v => (((heaM v.1.1.1 v.2.1 v.2.2.1 v.2.2.2.1, v.1.1.2), ()), (), (), (), ())
noncomputable def spLv : SpecV kLv := spec1 kLv [sI] (fun v => bp (preR v.1.1.1 v.2.1)) (fun v => (leaE v.1.1.1 v.2.1, ())) fun v => (((leaM v.1.1.1 v.2.1, v.1.1.2), ()), (), ())
abbrev kOn : List Shp := [sI, oW, rT, sI, sI]
def preOn {α : Type} (out : List α) (l : List T3) (n k : Int) : Bool := decide (n = l.length ∧ 0 ≤ k ∧ k ≤ n ∧ n ≤ 100 ∧ (out.length : Int) ≤ k)
def onR (f : Int) : List ByteArray × Bool → List T3 → List ByteArray × Bool
  | o, [] => o
  | o, x :: r => bif x.2.1 == f then onR f (o.1 ++ [x.1], false) r else onR f o r
def cOn (e : Nat) : SpecC kOn := cut1 kOn [oW] (fun v => preOn v.2.1.1 v.2.2.1.1 v.2.2.2.1 v.2.2.2.2.1) (.exit e) (fun v => (onR v.1 v.2.1 (v.2.2.1.1.drop v.2.2.2.2.1.toNat), ())) (same kOn)
def muOn : denA kOn → Nat := fun v => (v.2.2.2.1 - v.2.2.2.2.1).toNat
def losB (T lim : Int) (x : T3) : Bool := decide (T ≥ 0) && (decide (T ≤ 200000) && (decide (lim ≥ 0) && decide (T - x.2.2 > lim)))
def losR (T lim : Int) : List T3 × Bool → List T3 → List T3 × Bool
  | o, [] => o
  | o, x :: r => bif losB T lim x then losR T lim (o.1 ++ [x], false) r else losR T lim o r
abbrev kLo : List Shp := [sI, sI, oT, rT, sI, sI]
def cLo : SpecC kLo := cut1 kLo [oT] (fun v => preOn v.2.2.1.1 v.2.2.2.1.1 v.2.2.2.2.1 v.2.2.2.2.2.1 && okT v.2.2.2.1.1) (.exit 0) (fun v => (losR v.1 v.2.1 v.2.2.1 (v.2.2.2.1.1.drop v.2.2.2.2.2.1.toNat), ())) (same kLo)
def muLo : denA kLo → Nat := fun v => (v.2.2.2.2.1 - v.2.2.2.2.2.1).toNat
noncomputable def C4 : Table :=
  ext 27 (entV kTu spTu) <| ext 28 (entV kTu spHe) <| ext 29 (entV kLv spLv) <|
  ext 35 (entV [bR] (fun v => (decide (v.1.1.1.length ≤ 100), [(v.1.1.2, (.sc (.slice none 0 0), [.fix true [slV 1 kT v.1.1], .row false kT v.1.1.1])), (true, (.sl 2 0 3 v.1.1.1.length v.1.1.1.length false false, [.fix true [slV 1 kT v.1.1], .row false kT v.1.1.1, .row true kT v.1.1.1]))]))) <|
  ext 37 (entV [bR, sI] (spec1 [bR, sI] [oW] (fun v => decide (v.1.1.1.length ≤ 100)) (fun v => (onR v.2.1 ([], true) v.1.1.1, ())) (same [bR, sI]))) <|
  ext 55 (entV [iT, .fn 56 []] (spec1 [iT, .fn 56 []] [] (fun v => decide (v.1.1.length ≤ 20) && okT v.1.1) (fun _ => ()) fun v => (isoT (v.1.1.length - 1) 1 v.1.1, (), ()))) C3
def lostR (T lim : Int) (M : List T3) : List T3 × Bool := (isoT ((losR T lim ([], true) M).1.length - 1) 1 (losR T lim ([], true) M).1, (losR T lim ([], true) M).2)
noncomputable def C5 : Table :=
  ext 38 (entV [bR, sI, sI] (spec1 [bR, sI, sI] [oT] (fun v => decide (v.1.1.1.length ≤ 20) && okT v.1.1.1) (fun v => (lostR v.2.1 v.2.2.1 v.1.1.1, ())) (same [bR, sI, sI]))) <|
  ext 23 (entV [] fun _ => (true, [(true, (.ptr 0 0 1 0, [.fix true [.sc (.slice none 0 0)]]))])) C4
end Go.Proofs.YtokephobkllfgaaCn
