/- What is laid here: the kinds of arrivals, and the plain functions that the law ApproachSays reaches. Definitions alone; no condition. -/
import Derived.Test.YtacdahpjmeianaaEvZc
import Derived.Test.YtacdahpjmeianaaProg
namespace Go.Proofs.YtacdahpjmeianaaAs
open Go Go.Proofs Go.Proofs.YtacdahpjmeianaaEv
abbrev I : Kd := .int .i64
abbrev sI : Shp := .s (.v ⟨false, I⟩)
abbrev sB : Shp := .s (.v ⟨false, .bool⟩)
abbrev kA : Kd := .pair .str (.pair I (.pair I I))
abbrev rA : Shp := .s (.ro kA)
abbrev rI : Shp := .s (.ro I)
abbrev oI : Shp := .s (.ow I)
abbrev gA : Shp := .s (.ar I 16)
abbrev gB : Shp := .s (.ba I)
abbrev bA : Shp := .s (.bx ⟨true, kA⟩)
abbrev nilS : Shp := .s (.con (.slice none 0 0))
abbrev Item := ByteArray × Int × Int × Int

def badG (n : Int) : Bool := decide (n < 0) || decide (n > 1000)
def badA (x : Item) : Bool := decide (x.2.1 < 0) || (decide (x.2.1 > 3) || (decide (x.2.2.1 < 0) || (decide (x.2.2.1 > 200000) || (decide (x.2.2.2 < 0) || decide (x.2.2.2 > 200000)))))
def errS (l : List Item) (g : List Int) : Int := bif decide (l.length > 32) then 2 else bif g.any badG then 4 else bif l.any badA then 4 else 0
def gp (g : List Int) (a b : Int) : Int := (g[a.toNat * 4 + b.toNat]?).getD 0
def innerS (g : List Int) (w : Int) : List Int → List Item → Int → Int
  | o :: os, y :: ys, t => innerS g w os ys (max t (o + gp g y.2.1 w))
  | _, _, t => t
def timesK (g : List Int) (l : List Item) : Nat → List Int
  | 0 => []
  | i + 1 => match l[i]? with
    | some x => timesK g l i ++ [innerS g x.2.1 (timesK g l i) (l.take i) x.2.2.1]
    | none => timesK g l i
def timesS (g : List Int) (l : List Item) : List Int := timesK g l l.length
def lateK (l : List Item) (T : List Int) : Nat → List Int
  | 0 => []
  | k + 1 => bif decide ((T[k]?).getD 0 > (match l[k]? with | some x => x.2.2.2 | none => 0)) then lateK l T k ++ [(k : Int)] else lateK l T k
def lateS (g : List Int) (l : List Item) : List Int := lateK l (timesS g l) l.length
/-- The inputs without an error. -/
def Fine (l : List Item) (g : List Int) : Prop := g.length = 16 ∧ errS l g = 0

/-! ### Check -/
abbrev k56c : List Shp := [.s (.ar I 4), sI]
def pre56c (r : List Int) (k : Int) : Bool := decide (r.length = 4 ∧ 0 ≤ k ∧ k ≤ 4)
def c56c : SpecC k56c := cut2 k56c [.un] [sI] (fun v => pre56c v.1 v.2.1) (fun v => !(v.1.drop v.2.1.toNat).any badG) (.exit 2) .ret (fun _ => ((), ())) (fun _ => (4, ())) (same k56c) (same k56c)
def mu56c : denA k56c → Nat := fun v => (4 - v.2.1).toNat
abbrev k56a : List Shp := [gA, sI]
def pre56a (g : List Int) (k : Int) : Bool := decide (g.length = 16 ∧ 0 ≤ k ∧ k ≤ 4)
def c56a : SpecC k56a := cut2 k56a [.un] [sI] (fun v => pre56a v.1 v.2.1) (fun v => !(v.1.drop (v.2.1.toNat * 4)).any badG) (.exit 0) .ret (fun _ => ((), ())) (fun _ => (4, ())) (same k56a) (same k56a)
def mu56a : denA k56a → Nat := fun v => (4 - v.2.1).toNat
abbrev k56b : List Shp := [rA, sI, sI]
def pre56b (l : List Item) (n k : Int) : Bool := decide (n = l.length ∧ 0 ≤ k ∧ k ≤ n ∧ n ≤ 32)
def c56b : SpecC k56b := cut2 k56b [.un] [sI] (fun v => pre56b v.1.1 v.2.1 v.2.2.1) (fun v => !(v.1.1.drop v.2.2.1.toNat).any badA) (.exit 4) .ret (fun _ => ((), ())) (fun _ => (4, ())) (same k56b) (same k56b)
def mu56b : denA k56b → Nat := fun v => (v.2.1 - v.2.2.1).toNat
abbrev cuts56 : Cuts := addCut 0 [14, 15] [4] (entC k56a c56a) (addCut 4 [30, 31, 32] [4] (entC k56b c56b) noCuts)
abbrev kC : List Shp := [rA, gA]
def preL (g : List Int) : Bool := decide (g.length = 16)
/-! ### In, ApproachError -/
def inS (a b c : Int) : Bool := decide (b ≤ a ∧ a ≤ c)
def TIn : Table := ext 41 (entV [sI, sI, sI] (specP [sI, sI, sI] [sB] (fun _ => true) fun v => (inS v.1 v.2.1 v.2.2.1, ()))) T0
abbrev k55c : List Shp := [gB, sI, sI]
def pre55c (g : List Int) (a k : Int) : Bool := decide (g.length = 16 ∧ 0 ≤ a ∧ a < 4 ∧ 0 ≤ k ∧ k ≤ 4)
def c55c : SpecC k55c := cut2 k55c [.un] [sI] (fun v => pre55c v.1 v.2.1 v.2.2.1) (fun v => !((v.1.drop (v.2.1.toNat * 4 + v.2.2.1.toNat)).take (4 - v.2.2.1.toNat)).any badG) (.exit 2) .ret (fun _ => ((), ())) (fun _ => (4, ())) (same k55c) (same k55c)
def mu55c : denA k55c → Nat := fun v => (4 - v.2.2.1).toNat
abbrev k55a : List Shp := [gB, sI]
def c55a : SpecC k55a := cut2 k55a [.un] [sI] (fun v => pre56a v.1 v.2.1) (fun v => !(v.1.drop (v.2.1.toNat * 4)).any badG) (.exit 0) .ret (fun _ => ((), ())) (fun _ => (4, ())) (same k55a) (same k55a)
def mu55a : denA k55a → Nat := fun v => (4 - v.2.1).toNat
abbrev cuts55 : Cuts := addCut 0 [3, 12] [4] (entC k55a c55a) (addCut 4 [27, 28, 29] [4] (entC k56b c56b) noCuts)
def TC : Table :=
  ext 83 (entV kC (specP kC [sI] (fun v => preL v.2.1) fun v => (errS v.1.1 v.2.1, ()))) <|
  ext 34 (entV kC (specP kC [sI] (fun v => preL v.2.1) fun v => (errS v.1.1 v.2.1, ()))) TIn

/-! ### times -/
abbrev k85i : List Shp := [gB, rI, bA, sI, rA, sI, sI]
noncomputable def pre85i (g A : List Int) (w t : Int) (ys : List Item) (n k : Int) : Bool := bp (g.length = 16 ∧ g.any badG = false ∧ A.length = ys.length ∧ ys.any badA = false ∧ 0 ≤ w ∧ w ≤ 3 ∧ 0 ≤ t ∧ t ≤ 1000000 ∧ (∀ o ∈ A, 0 ≤ o ∧ o ≤ 900000) ∧ n = ys.length ∧ 0 ≤ k ∧ k ≤ n ∧ n ≤ 32)
noncomputable def c85i : SpecC k85i := cut1 k85i [sI] (fun v => pre85i v.1 v.2.1.1 v.2.2.1.2.1 v.2.2.2.1 v.2.2.2.2.1.1 v.2.2.2.2.2.1 v.2.2.2.2.2.2.1)
  (.exit 2) (fun v => (innerS v.1 v.2.2.1.2.1 (v.2.1.1.drop v.2.2.2.2.2.2.1.toNat) (v.2.2.2.2.1.1.drop v.2.2.2.2.2.2.1.toNat) v.2.2.2.1, ())) (same k85i)
def mu85i : denA k85i → Nat := fun v => (v.2.2.2.2.2.1 - v.2.2.2.2.2.2.1).toNat
abbrev k85 : List Shp := [rA, gB, oI, rA, sI, sI]
noncomputable def pre85 (l : List Item) (g out : List Int) (l2 : List Item) (n k : Int) : Bool := bp (Fine l g ∧ l = l2 ∧ out = timesK g l k.toNat ∧ n = l.length ∧ 0 ≤ k ∧ k ≤ n)
noncomputable def c85 : SpecC k85 := cut1 k85 [oI] (fun v => pre85 v.1.1 v.2.1 v.2.2.1.1 v.2.2.2.1.1 v.2.2.2.2.1 v.2.2.2.2.2.1)
  (.exit 0) (fun v => ((timesS v.2.1 v.1.1, v.2.2.1.2 && decide (v.2.2.2.2.2.1 = v.2.2.2.2.1)), ())) (same k85)
def mu85 : denA k85 → Nat := fun v => (v.2.2.2.2.1 - v.2.2.2.2.2.1).toNat
noncomputable def preF (l : List Item) (g : List Int) : Bool := bp (Fine l g)
noncomputable def TT : Table := ext 123 (entV kC (specP kC [oI] (fun v => preF v.1.1 v.2.1) fun v => ((timesS v.2.1 v.1.1, decide (0 = (v.1.1.length : Int))), ()))) TC
/-! ### Times, Late -/
def s53 : SpecV kC := fun v => (preL v.2.1, [(decide (errS v.1.1 v.2.1 = 0), ansV kC v [oI, sI] ((timesS v.2.1 v.1.1, decide (0 = (v.1.1.length : Int))), 0, ()) (same kC v)), (true, ansV kC v [nilS, sI] ((), errS v.1.1 v.2.1, ()) (same kC v))])
abbrev k54 : List Shp := [rA, oI, rI, sI, sI]
noncomputable def pre54 (l : List Item) (out : List Int) (no : Bool) (T : List Int) (n k : Int) : Bool := bp (l.length ≤ 32 ∧ T.length = l.length ∧ n = T.length ∧ 0 ≤ k ∧ k ≤ n ∧ out = lateK l T k.toNat ∧ no = out.isEmpty)
noncomputable def c54 : SpecC k54 := cut1 k54 [oI] (fun v => pre54 v.1.1 v.2.1.1 v.2.1.2 v.2.2.1.1 v.2.2.2.1 v.2.2.2.2.1) (.exit 0) (fun v => ((lateK v.1.1 v.2.2.1.1 v.1.1.length, (lateK v.1.1 v.2.2.1.1 v.1.1.length).isEmpty), ())) (same k54)
def mu54 : denA k54 → Nat := fun v => (v.2.2.2.1 - v.2.2.2.2.1).toNat
def s54 : SpecV kC := fun v => (preL v.2.1, [(decide (errS v.1.1 v.2.1 = 0), ansV kC v [oI, sI] ((lateS v.2.1 v.1.1, (lateS v.2.1 v.1.1).isEmpty), 0, ()) (same kC v)), (true, ansV kC v [nilS, sI] ((), errS v.1.1 v.2.1, ()) (same kC v))])
/-! ### SameInts, Equal -/
abbrev k58 : List Shp := [rI, rI, sI, sI]
def pre58 (a b : List Int) (n k : Int) : Bool := decide (a.length = b.length ∧ n = a.length ∧ 0 ≤ k ∧ k ≤ n ∧ n ≤ 1000000)
def c58 : SpecC k58 := cut2 k58 [.un] [sB] (fun v => pre58 v.1.1 v.2.1.1 v.2.2.1 v.2.2.2.1) (fun v => decide (v.1.1.drop v.2.2.2.1.toNat = v.2.1.1.drop v.2.2.2.1.toNat)) (.exit 0) .ret (fun _ => ((), ())) (fun _ => (false, ())) (same k58) (same k58)
def mu58 : denA k58 → Nat := fun v => (v.2.2.1 - v.2.2.2.1).toNat
abbrev kE : List Shp := [rI, rI]
def preE (a : List Int) : Bool := decide (a.length ≤ 1000000)
/-! ### ApproachTimes -/
abbrev ioI : Shp := .s (.io I)
abbrev k57a : List Shp := [ioI, rA, sI, sI]
def rdy (l : List Item) : List Int := l.map fun x => x.2.2.1
noncomputable def pre57a (out : List Int) (l : List Item) (n k : Int) : Bool := bp (out.length = l.length ∧ n = l.length ∧ 0 ≤ k ∧ k ≤ n ∧ n ≤ 32 ∧ out.take k.toNat = (rdy l).take k.toNat)
noncomputable def c57a : SpecC k57a := cut1 k57a [] (fun v => pre57a v.1.1 v.2.1.1 v.2.2.1 v.2.2.2.1) (.exit 0) (fun _ => ()) (fun v => (rdy v.2.1.1, (), (), (), ()))
def mu57a : denA k57a → Nat := fun v => (v.2.2.1 - v.2.2.2.1).toNat
abbrev k57d : List Shp := [rA, gB, ioI, sI, sI, sI]
def wakeAt (l : List Item) (i : Nat) : Int := match l[i]? with | some x => x.2.1 | none => 0
def rel6 (l : List Item) (g : List Int) (i k : Nat) (out : List Int) : List Int := out.set i (innerS g (wakeAt l i) ((out.take i).drop k) ((l.take i).drop k) ((out[i]?).getD 0))
noncomputable def pre57d (l : List Item) (g out : List Int) (i n k : Int) : Bool := bp (Fine l g ∧ out.length = l.length ∧ n = i ∧ 0 ≤ k ∧ k ≤ i ∧ i < l.length ∧ (∀ o ∈ out, 0 ≤ o ∧ o ≤ 900000) ∧ ∀ o ∈ out.take i.toNat, o ≤ 898000)
noncomputable def c57d : SpecC k57d := cut1 k57d [] (fun v => pre57d v.1.1 v.2.1 v.2.2.1.1 v.2.2.2.1 v.2.2.2.2.1 v.2.2.2.2.2.1) (.exit 6) (fun _ => ()) (fun v => ((), (), rel6 v.1.1 v.2.1 v.2.2.2.1.toNat v.2.2.2.2.2.1.toNat v.2.2.1.1, (), (), (), ()))
def mu57d : denA k57d → Nat := fun v => (v.2.2.2.2.1 - v.2.2.2.2.2.1).toNat
abbrev k57c : List Shp := [rA, gB, ioI, sI, sI]
noncomputable def pre57c (l : List Item) (g out : List Int) (n k : Int) : Bool := bp (Fine l g ∧ n = l.length ∧ 0 ≤ k ∧ k ≤ n ∧ (out = timesK g l k.toNat ++ (rdy l).drop k.toNat ∨ out = timesS g l))
noncomputable def c57c : SpecC k57c := cut1 k57c [] (fun v => pre57c v.1.1 v.2.1 v.2.2.1.1 v.2.2.2.1 v.2.2.2.2.1) (.exit 4) (fun _ => ()) (fun v => ((), (), timesS v.2.1 v.1.1, (), (), ()))
def mu57c : denA k57c → Nat := fun v => (v.2.2.2.1 - v.2.2.2.2.1).toNat
noncomputable def pre57b (l : List Item) (g out : List Int) (n k : Int) : Bool := bp (Fine l g ∧ n = l.length ∧ 0 ≤ k ∧ k ≤ n ∧ ((k = 0 ∧ out = rdy l) ∨ out = timesS g l))
noncomputable def c57b : SpecC k57c := cut1 k57c [] (fun v => pre57b v.1.1 v.2.1 v.2.2.1.1 v.2.2.2.1 v.2.2.2.2.1) (.exit 2) (fun _ => ()) (fun v => ((), (), timesS v.2.1 v.1.1, (), (), ()))
noncomputable def TD : Table :=
  ext 81 (entV kC s53) <| ext 82 (entV kC s54) <|
  ext 37 (entV kC (specP kC [oI] (fun v => preF v.1.1 v.2.1) fun v => ((timesS v.2.1 v.1.1, false), ()))) <|
  ext 26 (entV kE (specP kE [sB] (fun v => preE v.1.1) fun v => (decide (v.1.1 = v.2.1.1), ()))) <|
  ext 16 (entV kE (specP kE [sB] (fun v => preE v.1.1) fun v => (decide (v.1.1 = v.2.1.1), ()))) TT
noncomputable def TF : Table := ext 32 (entV [] (specP [] [sB] (fun _ => true) fun _ => (true, ()))) TD
end Go.Proofs.YtacdahpjmeianaaAs
