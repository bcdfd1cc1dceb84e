/- What is laid here: the plain functions on plots and offsets that the law BiasMedians reaches. Definitions alone; no condition. -/
import Derived.Test.YtpndjpjpmcehbaaTsort
namespace Go.Proofs.YtpndjpjpmcehbaaBi
open Go Go.Proofs Go.Proofs.YtpndjpjpmcehbaaEv Go.Proofs.YtpndjpjpmcehbaaTk
abbrev kPl : Kd := .pair I (.pair I (.pair I (.pair I (.pair I I))))
abbrev kOf : Kd := .pair I (.pair I I)
abbrev Pl := kPl.den
abbrev Of := kOf.den
abbrev rPl : Shp := .s (.ro kPl)
abbrev sPl : Shp := .s (.v ⟨true, kPl⟩)
abbrev sOf : Shp := .s (.v ⟨true, kOf⟩)
abbrev bOf : Shp := .s (.bx ⟨true, kOf⟩)
abbrev oOf : Shp := .ob [.v ⟨true, kOf⟩]
abbrev rI : Shp := .s (.ro I)
abbrev oI : Shp := .s (.ow I)
abbrev plN (a b c d e f : Int) : Prop := 0 ≤ a ∧ a ≤ 255 ∧ 0 ≤ b ∧ b ≤ 200000 ∧ 0 ≤ c ∧ c ≤ 2000000 ∧ 0 ≤ d ∧ d ≤ 4095 ∧ 0 ≤ e ∧ e ≤ 60000 ∧ -1 ≤ f ∧ f ≤ 4095
def plX (a b c d e f : Int) : Int := bif decide (plN a b c d e f) then 0 else 4
abbrev plE (p : Pl) : Int := plX p.1 p.2.1 p.2.2.1 p.2.2.2.1 p.2.2.2.2.1 p.2.2.2.2.2
abbrev ofN (r a t : Int) : Prop := -10000 ≤ r ∧ r ≤ 10000 ∧ -2047 ≤ a ∧ a ≤ 2048 ∧ -1000 ≤ t ∧ t ≤ 1000
def ofX (r a t : Int) : Int := bif decide (ofN r a t) then 0 else 4
abbrev ofE (o : Of) : Int := ofX o.1 o.2.1 o.2.2
def normS (n : Int) : Int := n.emod 4096
def diffS (a b : Int) : Int := bif decide (normS (b - a) > 2048) then normS (b - a) - 4096 else normS (b - a)
abbrev azN (a b : Int) : Prop := 0 ≤ a ∧ a ≤ 4095 ∧ 0 ≤ b ∧ b ≤ 4095
def preAz (a b : Int) : Bool := decide (azN a b)
def zOf : Of := (0, 0, 0)
/-! ### Medians -/
def ltC (l : List Int) (x : Int) : Nat := (l.filter fun y => decide (y < x)).length
def eqC (l : List Int) (x : Int) : Nat := (l.filter fun y => decide (y = x)).length
def midP (l : List Int) (x : Int) : Bool := decide (ltC l x ≤ (l.length - 1) / 2 ∧ (l.length - 1) / 2 < ltC l x + eqC l x)
def mid (l : List Int) : Int := (l.find? (midP l)).getD 0
noncomputable def B1 : Table :=
  ext 97 (entV [sPl] (specP [sPl] [sI] (fun _ => true) fun v => (plE v.1, ()))) <|
  ext 54 (entV [sPl] (specP [sPl] [sI] (fun _ => true) fun v => (plE v.1, ()))) <|
  ext 57 (entV [sOf] (specP [sOf] [sI] (fun _ => true) fun v => (ofE v.1, ()))) <|
  ext 126 (entV [sI] (specP [sI] [sI] (fun v => decide (-4096 ≤ v.1 ∧ v.1 ≤ 4096)) fun v => (normS v.1, ()))) <|
  ext 102 (entV [iI] (spec1 [iI] [] (fun v => decide (1 ≤ v.1.1.length ∧ v.1.1.length ≤ 1000)) (fun _ => ()) fun v => (srt v.1.1, ()))) T2
abbrev k55 : List Shp := [sI, sI, sI]
def pre55 (a b d : Int) : Bool := decide (azN a b ∧ -2047 ≤ d ∧ d ≤ diffS a b)
def c55 : SpecC k55 := cut1 k55 [sI] (fun v => pre55 v.1 v.2.1 v.2.2.1) .ret (fun v => (diffS v.1 v.2.1, ())) (same k55)
def mu55 : denA k55 → Nat := fun v => (2049 - v.2.2.1).toNat
abbrev k56b : List Shp := [sI, sI, sI, rI, sI, sI]
def pre56b (l : List Int) (a b n k : Int) : Bool := decide (l.length ≤ 1000 ∧ n = l.length ∧ 0 ≤ k ∧ k ≤ n ∧ 0 ≤ a ∧ a ≤ k ∧ 0 ≤ b ∧ b ≤ k)
def c56b : SpecC k56b := cut1 k56b [sI, sI] (fun v => pre56b v.2.2.2.1.1 v.2.1 v.2.2.1 v.2.2.2.2.1 v.2.2.2.2.2.1) (.exit 2)
  (fun v => (v.2.1 + (ltC (v.2.2.2.1.1.drop v.2.2.2.2.2.1.toNat) v.1 : Nat), v.2.2.1 + (eqC (v.2.2.2.1.1.drop v.2.2.2.2.2.1.toNat) v.1 : Nat), ())) (same k56b)
def mu56b : denA k56b → Nat := fun v => (v.2.2.2.2.1 - v.2.2.2.2.2.1).toNat
abbrev k56a : List Shp := [rI, rI, sI, sI]
noncomputable def pre56a (l l2 : List Int) (n k : Int) : Bool := bp (l2 = l ∧ l.length ≤ 1000 ∧ n = l.length ∧ 0 ≤ k ∧ k ≤ n)
noncomputable def c56a : SpecC k56a := cut2 k56a [.un] [sI] (fun v => pre56a v.1.1 v.2.1.1 v.2.2.1 v.2.2.2.1) (fun v => ((v.1.1.drop v.2.2.2.1.toNat).find? (midP v.1.1)).isNone) (.exit 0) .ret (fun _ => ((), ())) (fun v => (((v.1.1.drop v.2.2.2.1.toNat).find? (midP v.1.1)).getD 0, ())) (same k56a) (same k56a)
def mu56a : denA k56a → Nat := fun v => (v.2.2.1 - v.2.2.2.1).toNat
noncomputable def B2 : Table :=
  ext 98 (entV [sI, sI] (specP [sI, sI] [sI] (fun v => preAz v.1 v.2.1) fun v => (diffS v.1 v.2.1, ()))) <|
  ext 55 (entV [sI, sI] (specP [sI, sI] [sI] (fun v => preAz v.1 v.2.1) fun v => (diffS v.1 v.2.1, ()))) <|
  ext 56 (entV [rI] (specP [rI] [sI] (fun v => decide (1 ≤ v.1.1.length ∧ v.1.1.length ≤ 1000)) fun v => (mid v.1.1, ()))) <|
  ext 99 (entV [iI] (spec1 [iI] [sI] (fun v => decide (1 ≤ v.1.1.length ∧ v.1.1.length ≤ 1000)) (fun v => (mid v.1.1, ())) fun v => (srt v.1.1, ()))) B1
/-! ### Estimate -/
def okP (l : List Pl) : Bool := l.all fun p => decide (plE p = 0)
def fR (p q : Pl) : Int := W (q.2.2.1 - p.2.2.1)
def fA (p q : Pl) : Int := diffS p.2.2.2.1 q.2.2.2.1
def fT (p q : Pl) : Int := W (q.2.1 - p.2.1)
def zipK (f : Pl → Pl → Int) (a b : List Pl) (k : Int) : List Int := List.zipWith f (a.drop k.toNat) (b.drop k.toNat)
def est (a b : List Pl) : Of := (mid (zipK fR a b 0), mid (zipK fA a b 0), mid (zipK fT a b 0))
def estE (a b : List Pl) : Int :=
  bif decide (256 < a.length) || decide (256 < b.length) then 2 else bif !(okP a && okP b) then 4 else bif decide (a.length ≠ b.length) then 3 else bif decide (b.length = 0) then 8 else ofE (est a b)
def estV (a b : List Pl) : Of := bif decide (estE a b = 0) then est a b else zOf
abbrev k53b : List Shp := [oOf, rPl, sI, sI]
noncomputable def pre53b (o : Of) (l : List Pl) (n k : Int) : Bool := bp (o = zOf ∧ n = l.length ∧ l.length ≤ 256 ∧ 0 ≤ k ∧ k ≤ n)
noncomputable def c53b : SpecC k53b := cut2 k53b [.un] [sI] (fun v => pre53b v.1.1 v.2.1.1 v.2.2.1 v.2.2.2.1) (fun v => okP (v.2.1.1.drop v.2.2.2.1.toNat)) (.exit 2) .ret (fun _ => ((), ())) (fun _ => (4, ())) (same k53b) (same k53b)
def mu53b : denA k53b → Nat := fun v => (v.2.2.1 - v.2.2.2.1).toNat
noncomputable def preZ (a b : List Pl) (x y z : List Int) (n k : Int) : Bool := bp (a.length = b.length ∧ okP a = true ∧ okP b = true ∧ n = b.length ∧ b.length ≤ 256 ∧ 0 ≤ k ∧ k ≤ n ∧ x.length ≤ k ∧ y.length ≤ k ∧ z.length ≤ k)
abbrev k53d : List Shp := [rPl, oI, oI, oI, rPl, sI, sI]
noncomputable def c53d : SpecC k53d := cut1 k53d [oI, oI, oI] (fun v => preZ v.1.1 v.2.2.2.2.1.1 v.2.1.1 v.2.2.1.1 v.2.2.2.1.1 v.2.2.2.2.2.1 v.2.2.2.2.2.2.1) (.exit 4)
  (fun v => ((v.2.1.1 ++ zipK fR v.1.1 v.2.2.2.2.1.1 v.2.2.2.2.2.2.1, v.2.1.2 && decide (v.2.2.2.2.2.1 ≤ v.2.2.2.2.2.2.1)), (v.2.2.1.1 ++ zipK fA v.1.1 v.2.2.2.2.1.1 v.2.2.2.2.2.2.1, v.2.2.1.2 && decide (v.2.2.2.2.2.1 ≤ v.2.2.2.2.2.2.1)), (v.2.2.2.1.1 ++ zipK fT v.1.1 v.2.2.2.2.1.1 v.2.2.2.2.2.2.1, v.2.2.2.1.2 && decide (v.2.2.2.2.2.1 ≤ v.2.2.2.2.2.2.1)), ())) (same k53d)
def mu53d : denA k53d → Nat := fun v => (v.2.2.2.2.2.1 - v.2.2.2.2.2.2.1).toNat
noncomputable def B3 : Table := ext 53 (entV [rPl, rPl] (specP [rPl, rPl] [sOf, sI] (fun _ => true) fun v => (estV v.1.1 v.2.1.1, estE v.1.1 v.2.1.1, ()))) B2
/-! ### The law's loops -/
def isZ (o : Of) : Bool := decide (o.1 = 0) && (decide (o.2.1 = 0) && decide (o.2.2 = 0))
def lawZ (o : Of) (e c : Int) : Bool := decide (e = c) && isZ o
abbrev kLa : List Shp := [bOf, sI, rPl, sI, sI]
def preLa (l : List Pl) (n k : Int) : Bool := decide (l.length ≤ 1000 ∧ n = l.length ∧ 0 ≤ k ∧ k ≤ n)
def cLa : SpecC kLa := cut2 kLa [.un] [sB] (fun v => preLa v.2.2.1.1 v.2.2.2.1 v.2.2.2.2.1) (fun v => okP (v.2.2.1.1.drop v.2.2.2.2.1.toNat)) (.exit 0) .ret (fun _ => ((), ())) (fun v => (lawZ v.1 v.2.1 4, ())) (same kLa) (same kLa)
def muLa : denA kLa → Nat := fun v => (v.2.2.2.1 - v.2.2.2.2.1).toNat
abbrev kLc : List Shp := [rPl, rPl, oI, oI, oI, sI, sI]
noncomputable def cLc : SpecC kLc := cut1 kLc [oI, oI, oI] (fun v => preZ v.1.1 v.2.1.1 v.2.2.1.1 v.2.2.2.1.1 v.2.2.2.2.1.1 v.2.2.2.2.2.1 v.2.2.2.2.2.2.1) (.exit 2)
  (fun v => ((v.2.2.1.1 ++ zipK fR v.1.1 v.2.1.1 v.2.2.2.2.2.2.1, v.2.2.1.2 && decide (v.2.2.2.2.2.1 ≤ v.2.2.2.2.2.2.1)), (v.2.2.2.1.1 ++ zipK fA v.1.1 v.2.1.1 v.2.2.2.2.2.2.1, v.2.2.2.1.2 && decide (v.2.2.2.2.2.1 ≤ v.2.2.2.2.2.2.1)), (v.2.2.2.2.1.1 ++ zipK fT v.1.1 v.2.1.1 v.2.2.2.2.2.2.1, v.2.2.2.2.1.2 && decide (v.2.2.2.2.2.1 ≤ v.2.2.2.2.2.2.1)), ())) (same kLc)
def muLc : denA kLc → Nat := fun v => (v.2.2.2.2.2.1 - v.2.2.2.2.2.2.1).toNat
end Go.Proofs.YtpndjpjpmcehbaaBi
