/- What is laid here: the search of positions, and what the reference says of them. Definitions alone; no condition. -/
import Derived.Test.YtacdahpjmeianaaTlb1
namespace Go.Proofs.YtacdahpjmeianaaLb
open Go Go.Proofs Go.Proofs.YtacdahpjmeianaaEv
def zIt : It := (0, 0, 0, 0)
def atI (l : List It) (k : Nat) : It := l.getD k zIt
def tryK (l : List It) (sp : List Int) (pl : List It) (rec : List Int → List It → Option (List Int)) : Nat → Int → Option (List Int)
  | 0, _ => none
  | n + 1, s => bif covS (boxS (atI l sp.length) s) l || !freeS (boxS (atI l sp.length) s) pl then tryK l sp pl rec n (s + 1) else
      match rec (sp ++ [s]) (pl ++ [boxS (atI l sp.length) s]) with
      | some o => some o
      | none => tryK l sp pl rec n (s + 1)
def srch (l : List It) : Nat → List Int → List It → Option (List Int)
  | 0, _, _ => none
  | d + 1, sp, pl => bif decide (sp.length = l.length) then some sp else tryK l sp pl (srch l d) 8 0
abbrev k75 : List Shp := [rIt, rI, rIt]
noncomputable def pre75 (d : Nat) (l : List It) (sp : List Int) (pl : List It) : Bool := bp (l.length ≤ 6 ∧ sp.length ≤ l.length ∧ pl.length = sp.length ∧ l.length < sp.length + d)
abbrev sNil : Shp := .s (.con (.slice none 0 0))
noncomputable def spec75 (d : Nat) : SpecV k75 := fun v => (pre75 d v.1.1 v.2.1.1 v.2.2.1.1, [
  (decide (v.2.1.1.length = v.1.1.length), (slV 1 I v.2.1, (showA 0 k75 v).2)),
  ((srch v.1.1 d v.2.1.1 v.2.2.1.1).isSome, ansV k75 v [oI] (((srch v.1.1 d v.2.1.1 v.2.2.1.1).getD [], false), ()) (same k75 v)),
  (true, ansV k75 v [sNil] ((), ()) (same k75 v))])
noncomputable def T75 (d : Nat) : Table := ext 75 (entV k75 (spec75 d)) T5
abbrev k75c : List Shp := [rIt, rI, rIt, sI, sI]
noncomputable def pre75c (d : Nat) (l : List It) (sp : List Int) (pl : List It) (k s : Int) : Bool := bp (l.length ≤ 6 ∧ sp.length < l.length ∧ pl.length = sp.length ∧ k = sp.length ∧ 0 ≤ s ∧ s ≤ 8 ∧ l.length < sp.length + 1 + d)
def tryV (d : Nat) (l : List It) (sp : List Int) (pl : List It) (s : Int) : Option (List Int) := tryK l sp pl (srch l d) (8 - s).toNat s
noncomputable def c75 (d : Nat) : SpecC k75c := cut2 k75c [.un] [oI] (fun v => pre75c d v.1.1 v.2.1.1 v.2.2.1.1 v.2.2.2.1 v.2.2.2.2.1) (fun v => (tryV d v.1.1 v.2.1.1 v.2.2.1.1 v.2.2.2.2.1).isNone) (.exit 0) .ret (fun _ => ((), ())) (fun v => (((tryV d v.1.1 v.2.1.1 v.2.2.1.1 v.2.2.2.2.1).getD [], false), ())) (same k75c) (same k75c)
def mu75 : denA k75c → Nat := fun v => (8 - v.2.2.2.2.1).toNat
def plV (l : List It) : Option (List Int) := bif decide (chkL l = 0) && (decide (l.length ≤ 6) && decide (l.length ≠ 0)) then srch l 7 [] [] else none
def plE (l : List It) : Int := bif decide (chkL l = 0) then (bif decide (l.length ≤ 6) then (bif decide (l.length = 0) then 0 else 8) else 2) else chkL l
noncomputable def T15b : Table := ext 74 (entV [rIt] (specP [rIt] [sI] (fun _ => true) fun v => (chkL v.1.1, ()))) (T75 7)
abbrev k15 : List Shp := [rIt]
def spec15 : SpecV k15 := fun v => (true, [((plV v.1.1).isSome, ansV k15 v [oI, sI] (((plV v.1.1).getD [], false), 0, ()) (same k15 v)), (true, ansV k15 v [sNil, sI] ((), plE v.1.1, ()) (same k15 v))])
noncomputable def T15 : Table := ext 15 (entV k15 spec15) T15b
/-! ### The reference: cell by cell -/
def anyC (c : It) (row : Int) : Nat → Int → Bool
  | 0, _ => false
  | d + 1, x => inW c x row || anyC c row d (x + 1)
def colV (b c : It) (row x : Int) : Bool := anyC c row (b.1 + b.2.2.1 - x).toNat x
def anyR (b c : It) : Nat → Int → Bool
  | 0, _ => false
  | d + 1, y => colV b c y b.1 || anyR b c d (y + 1)
def rowV (b c : It) (y : Int) : Bool := anyR b c (b.2.1 + b.2.2.2 - y).toNat y
abbrev bxN (a b c d : Int) : Prop := -5000 ≤ a ∧ a ≤ 5000 ∧ -5000 ≤ b ∧ b ≤ 5000 ∧ 1 ≤ c ∧ c ≤ 40 ∧ 1 ≤ d ∧ d ≤ 40
abbrev bxOk (b : It) : Prop := bxN b.1 b.2.1 b.2.2.1 b.2.2.2
abbrev k8c : List Shp := [bIt, bIt, sI, sI]
noncomputable def pre8c (b : It) (x : Int) : Bool := bp (bxOk b ∧ b.1 ≤ x)
noncomputable def c8c : SpecC k8c := cut2 k8c [.un] [sB] (fun v => pre8c v.1 v.2.2.2.1) (fun v => !colV v.1 v.2.1 v.2.2.1 v.2.2.2.1) (.exit 8) .ret (fun _ => ((), ())) (fun _ => (false, ())) (same k8c) (same k8c)
def mu8c : denA k8c → Nat := fun v => (v.1.1 + v.1.2.2.1 - v.2.2.2.1).toNat
abbrev k6c : List Shp := [bIt, bIt, sI]
noncomputable def pre6c (b : It) (y : Int) : Bool := bp (bxOk b ∧ b.2.1 ≤ y)
noncomputable def c6c : SpecC k6c := cut2 k6c [.un] [sB] (fun v => pre6c v.1 v.2.2.1) (fun v => !rowV v.1 v.2.1 v.2.2.1) (.exit 6) .ret (fun _ => ((), ())) (fun _ => (false, ())) (same k6c) (same k6c)
def mu6c : denA k6c → Nat := fun v => (v.1.2.1 + v.1.2.2.2 - v.2.2.1).toNat
def meets (b c : It) : Bool := rowV b c b.2.1
def prevK (l : List It) (sp : List Int) (b : It) : Nat → Nat → Bool
  | 0, _ => false
  | d + 1, k => (!decide (sp.getD k 0 < 0) && meets b (boxS (atI l k) (sp.getD k 0))) || prevK l sp b d (k + 1)
def prevV (l : List It) (sp : List Int) (b : It) (k : Nat) : Bool := prevK l sp b (l.length - k) k
abbrev k4c : List Shp := [rI, bIt, rIt, sI, sI]
abbrev spN (s : Int) : Prop := 0 ≤ s ∧ s ≤ 7
noncomputable def pre4c (sp : List Int) (b : It) (l : List It) (n k : Int) : Bool := bp (bxOk b ∧ l.length ≤ 100 ∧ n = l.length ∧ 0 ≤ k ∧ k ≤ n ∧ l.length ≤ sp.length ∧ (∀ s ∈ sp, spN s))
noncomputable def c4c : SpecC k4c := cut2 k4c [.un] [sB] (fun v => pre4c v.1.1 v.2.1 v.2.2.1.1 v.2.2.2.1 v.2.2.2.2.1) (fun v => !prevV v.2.2.1.1 v.1.1 v.2.1 v.2.2.2.2.1.toNat) (.exit 4) .ret (fun _ => ((), ())) (fun _ => (false, ())) (same k4c) (same k4c)
def mu4c : denA k4c → Nat := fun v => (v.2.2.2.1 - v.2.2.2.2.1).toNat
def insV (b : It) (l : List It) (k : Nat) : Bool := (l.drop k).any fun y => inW b y.1 y.2.1
abbrev k2c : List Shp := [bIt, rIt, sI, sI]
def c2c : SpecC k2c := cut2 k2c [.un] [sB] (fun v => preFi v.2.1.1 v.2.2.1 v.2.2.2.1) (fun v => !insV v.1 v.2.1.1 v.2.2.2.1.toNat) (.exit 2) .ret (fun _ => ((), ())) (fun _ => (false, ())) (same k2c) (same k2c)
def mu2c : denA k2c → Nat := fun v => (v.2.2.1 - v.2.2.2.1).toNat
def badAt (l : List It) (sp : List Int) (i : Nat) : Bool :=
  !decide (sp.getD i 0 < 0) && (insV (boxS (atI l i) (sp.getD i 0)) l 0 || prevV (l.take i) sp (boxS (atI l i) (sp.getD i 0)) 0)
def fitK (l : List It) (sp : List Int) : Nat → Nat → Bool
  | 0, _ => true
  | d + 1, i => !badAt l sp i && fitK l sp d (i + 1)
def fitV (l : List It) (sp : List Int) (i : Nat) : Bool := fitK l sp (l.length - i) i
abbrev k0c : List Shp := [rIt, rI, rIt, sI, sI]
noncomputable def okAll (l : List It) (sp : List Int) : Bool := bp (l.length ≤ 6 ∧ sp.length = l.length ∧ (∀ x ∈ l, okIt x) ∧ (∀ s ∈ sp, spN s))
noncomputable def pre0c (l : List It) (sp : List Int) (l2 : List It) (n i : Int) : Bool := bp (okAll l sp = true ∧ l2 = l ∧ n = l.length ∧ 0 ≤ i ∧ i ≤ n)
noncomputable def c0c : SpecC k0c := cut2 k0c [.un] [sB] (fun v => pre0c v.1.1 v.2.1.1 v.2.2.1.1 v.2.2.2.1 v.2.2.2.2.1) (fun v => fitV v.1.1 v.2.1.1 v.2.2.2.2.1.toNat) (.exit 0) .ret (fun _ => ((), ())) (fun _ => (false, ())) (same k0c) (same k0c)
def mu0c : denA k0c → Nat := fun v => (v.2.2.2.1 - v.2.2.2.2.1).toNat
abbrev k25 : List Shp := [rIt, rI]
noncomputable def T25 : Table := ext 25 (entV k25 (specP k25 [sB] (fun v => okAll v.1.1 v.2.1.1) fun v => (fitV v.1.1 v.2.1.1 0, ()))) T1'
end Go.Proofs.YtacdahpjmeianaaLb
