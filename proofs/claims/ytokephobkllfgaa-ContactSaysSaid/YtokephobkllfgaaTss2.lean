/- What is laid here: the readings of a board of strips, and the plain functions of its calls. Definitions alone; no condition. -/
import Derived.Test.YtokephobkllfgaaTss0
import Derived.Shelf.Small.Strs
namespace Go.Proofs.YtokephobkllfgaaSs
open Go Go.Proofs Go.Proofs.YtokephobkllfgaaEv
def eqN : List (Nat × Nat) → Bool
  | [] => true
  | (a, b) :: r => Nat.beq a b && eqN r
/-! ### Comparison -/
def strC (a b : ByteArray) : Int := Lib.compareBytes a.data.toList b.data.toList
def orS (a b : Int) : Int := bif a != 0 then a else bif b != 0 then b else 0
def cmpT (x y : Strip) : Int := orS (cmpI x.2.2.1 y.2.2.1) (strC x.1 y.1)
abbrev V45 := Int × Int × Nat × Bool × Bool
def p45 : List PV → List Blk → Option V45
  | [.sl i e sz len lo full nl], [.row false (.int .i64) [a, b]] => bif eqN [(i, 0), (e, 0), (sz, 1), (len, 2)] then some (a, b, lo, full, nl) else none
  | _, _ => none
def st45 (v : V45) : List PV × List Blk := ([.sl 0 0 1 2 v.2.2.1 v.2.2.2.1 v.2.2.2.2], [.row false I [v.1, v.2.1]])
def sp45 (v : V45) : Bool × List (Bool × PV × List Blk) := (true, [(true, (.sc (.int .i64 (orS v.1 v.2.1)), [.row false I [v.1, v.2.1]]))])
noncomputable def U3 : Table :=
  ext 45 (entF p45 sp45) <|
  ext 33 (entV [sS, sS] (specP [sS, sS] [sI] (fun _ => true) fun v => (strC v.1 v.2.1, ()))) U2
noncomputable def U4 : Table := ext 44 (entV [sSt, sSt] (specP [sSt, sSt] [sI] (fun _ => true) fun v => (cmpT v.1 v.2.1, ()))) U3
/-! ### A board: a pointer to a struct that holds a slice (or nil) -/
abbrev VS := List Strip × Nat × Nat × Bool × Bool
abbrev fixS (j : Nat) (v : VS) : Blk := .fix true [.sl j 0 5 v.2.1 v.2.2.1 v.2.2.2.1 v.2.2.2.2]
abbrev fixW (j : Nat) (v : VS) : Blk := .fix true [.sl j 0 5 v.2.1 v.2.1 false v.2.2.2.2]
abbrev fixN : Blk := .fix true [.sc (.slice none 0 0)]
abbrev rowS (L : List Strip) : Blk := .row true kS L
/-- A board's blocks behind a call. -/
abbrev bS (L : List Strip) (nl : Bool) : List Blk := [.fix true [.sl 2 0 5 L.length L.length false nl], .dead, .row true kS L]
abbrev bN : List Blk := [.fix true [.sc (.slice none 0 0)]]
abbrev pB : PV := .ptr 0 0 1 0
def okV (v : VS) : Bool := decide (v.2.1 = v.1.length ∧ v.1.length ≤ 100 ∧ v.2.1 ≤ v.2.2.1)
abbrev V40 := ByteArray × VS
def p40 : List PV → List Blk → Option V40
  | [.ptr i a b c, .sc (.string s)], [.fix true [.sl j e sz len lo full nl], .row true (.pair .str (.pair .str (.pair (.int .i64) (.pair (.int .i64) (.int .i64))))) L] =>
    bif eqN [(i, 0), (a, 0), (b, 1), (c, 0), (j, 1), (e, 0), (sz, 5)] then some (s, L, len, lo, full, nl) else none
  | _, _ => none
def st40 (v : V40) : List PV × List Blk := ([pB, .sc (.string v.1)], [fixS 1 v.2, rowS v.2.1])
def sp40 (v : V40) : Bool × List (Bool × PV × List Blk) := (okV v.2, [(true, (.sc (.int .i64 (ixC v.1 v.2.1)), bS v.2.1 v.2.2.2.2.2))])
def p40n : List PV → List Blk → Option ByteArray
  | [.ptr i a b c, .sc (.string s)], [.fix true [.sc (.slice none 0 0)]] => bif eqN [(i, 0), (a, 0), (b, 1), (c, 0)] then some s else none
  | _, _ => none
def st40n (s : ByteArray) : List PV × List Blk := ([pB, .sc (.string s)], [fixN])
def sp40n (_ : ByteArray) : Bool × List (Bool × PV × List Blk) := (true, [(true, (.sc (.int .i64 (-1)), [fixN]))])
abbrev V41 := Int × VS
def p41 : List PV → List Blk → Option V41
  | [.ptr i a b c, .sc (.int .i64 s)], [.fix true [.sl j e sz len lo full nl], .row true (.pair .str (.pair .str (.pair (.int .i64) (.pair (.int .i64) (.int .i64))))) L] =>
    bif eqN [(i, 0), (a, 0), (b, 1), (c, 0), (j, 1), (e, 0), (sz, 5)] then some (s, L, len, lo, full, nl) else none
  | _, _ => none
def st41 (v : V41) : List PV × List Blk := ([pB, .sc (.int .i64 v.1)], [fixS 1 v.2, rowS v.2.1])
def sp41 (v : V41) : Bool × List (Bool × PV × List Blk) := (okV v.2, [(true, (.sc (.int .i64 (cntS v.1 v.2.1)), bS v.2.1 v.2.2.2.2.2))])
def p41n : List PV → List Blk → Option Int
  | [.ptr i a b c, .sc (.int .i64 s)], [.fix true [.sc (.slice none 0 0)]] => bif eqN [(i, 0), (a, 0), (b, 1), (c, 0)] then some s else none
  | _, _ => none
def st41n (s : Int) : List PV × List Blk := ([pB, .sc (.int .i64 s)], [fixN])
def sp41n (_ : Int) : Bool × List (Bool × PV × List Blk) := (true, [(true, (.sc (.int .i64 0), [fixN]))])
abbrev kCt : List Shp := [sI, sI, rS, sI, sI]
def preCt (l : List Strip) (c n k : Int) : Bool := decide (n = l.length ∧ 0 ≤ k ∧ k ≤ n ∧ n ≤ 100 ∧ 0 ≤ c ∧ c ≤ k)
def cCt : SpecC kCt := cut1 kCt [sI] (fun v => preCt v.2.2.1.1 v.2.1 v.2.2.2.1 v.2.2.2.2.1) (.exit 0) (fun v => (v.2.1 + cntS v.1 (v.2.2.1.1.drop v.2.2.2.2.1.toNat), ())) (same kCt)
def muCt : denA kCt → Nat := fun v => (v.2.2.2.1 - v.2.2.2.2.1).toNat
noncomputable def U5 : Table := ext 40 (orE (entF p40 sp40) (entF p40n sp40n)) <| ext 41 (orE (entF p41 sp41) (entF p41n sp41n)) U4
/-! ### A board's calls, on its list -/
def zS : Strip := (⟨#[]⟩, ⟨#[]⟩, 0, 0, 0)
def atS (l : List Strip) (k : Int) : Strip := l.getD k.toNat zS
def setB (x : Strip) (b : Int) : Strip := (x.1, x.2.1, x.2.2.1, x.2.2.2.1, b)
def putE (l : List Strip) (s : Strip) : Int := bif chkS s != 0 then chkS s else bif decide (ixC s.1 l ≥ 0) then 7 else bif cntS s.2.2.2.2 l == 16 then 9 else 0
def movE (l : List Strip) (c : ByteArray) (b : Int) : Int := bif !inS b 0 3 then 4 else bif decide (ixC c l < 0) then 8 else bif !perS (atS l (ixC c l)).2.2.2.2 b then 11 else bif cntS b l == 16 then 9 else 0
def chgE (l : List Strip) (s : Strip) : Int := bif chkS s != 0 then chkS s else bif decide (ixC s.1 l < 0) then 8 else bif (atS l (ixC s.1 l)).2.2.2.2 == 3 || (atS l (ixC s.1 l)).2.2.2.2 != s.2.2.2.2 then 11 else 0
def remE (l : List Strip) (c : ByteArray) : Int := bif decide (ixC c l < 0) then 8 else bif (atS l (ixC c l)).2.2.2.2 != 3 then 11 else 0
abbrev V12 := Strip × VS
def p12 : List PV → List Blk → Option V12
  | [.ptr i a b c, .agg [.sc (.string s), .sc (.string f), .sc (.int .i64 t1), .sc (.int .i64 t2), .sc (.int .i64 y)]], [.fix true [.sl j e sz len lo full nl], .row true (.pair .str (.pair .str (.pair (.int .i64) (.pair (.int .i64) (.int .i64))))) L] =>
    bif eqN [(i, 0), (a, 0), (b, 1), (c, 0), (j, 1), (e, 0), (sz, 5)] then some ((s, f, t1, t2, y), L, len, lo, full, nl) else none
  | _, _ => none
abbrev agS (s : Strip) : PV := .agg [.sc (.string s.1), .sc (.string s.2.1), .sc (.int .i64 s.2.2.1), .sc (.int .i64 s.2.2.2.1), .sc (.int .i64 s.2.2.2.2)]
def st12 (v : V12) : List PV × List Blk := ([pB, agS v.1], [fixS 1 v.2, rowS v.2.1])
def p12n : List PV → List Blk → Option Strip
  | [.ptr i a b c, .agg [.sc (.string s), .sc (.string f), .sc (.int .i64 t1), .sc (.int .i64 t2), .sc (.int .i64 y)]], [.fix true [.sc (.slice none 0 0)]] => bif eqN [(i, 0), (a, 0), (b, 1), (c, 0)] then some (s, f, t1, t2, y) else none
  | _, _ => none
def st12n (s : Strip) : List PV × List Blk := ([pB, agS s], [fixN])
def sp12 (v : V12) : Bool × List (Bool × PV × List Blk) := (okV v.2 && okS v.1, [(putE v.2.1 v.1 == 0, (.sc (.int .i64 0), bS (v.2.1 ++ [v.1]) false)), (true, (.sc (.int .i64 (putE v.2.1 v.1)), bS v.2.1 v.2.2.2.2.2))])
def sp12n (s : Strip) : Bool × List (Bool × PV × List Blk) := (okS s, [(chkS s == 0, (.sc (.int .i64 0), [.fix true [.sl 1 0 5 1 1 false false], rowS [s]])), (true, (.sc (.int .i64 (chkS s)), bN))])
def sp15 (v : V12) : Bool × List (Bool × PV × List Blk) := (okV v.2 && okS v.1, [(chgE v.2.1 v.1 == 0, (.sc (.int .i64 0), bS (v.2.1.set (ixC v.1.1 v.2.1).toNat v.1) v.2.2.2.2.2)), (true, (.sc (.int .i64 (chgE v.2.1 v.1)), bS v.2.1 v.2.2.2.2.2))])
def sp15n (s : Strip) : Bool × List (Bool × PV × List Blk) := (okS s, [(true, (.sc (.int .i64 (bif chkS s != 0 then chkS s else 8)), bN))])
abbrev V13 := ByteArray × Int × VS
def p13 : List PV → List Blk → Option V13
  | [.ptr i a b c, .sc (.string s), .sc (.int .i64 y)], [.fix true [.sl j e sz len lo full nl], .row true (.pair .str (.pair .str (.pair (.int .i64) (.pair (.int .i64) (.int .i64))))) L] =>
    bif eqN [(i, 0), (a, 0), (b, 1), (c, 0), (j, 1), (e, 0), (sz, 5)] then some (s, y, L, len, lo, full, nl) else none
  | _, _ => none
def st13 (v : V13) : List PV × List Blk := ([pB, .sc (.string v.1), .sc (.int .i64 v.2.1)], [fixS 1 v.2.2, rowS v.2.2.1])
def p13n : List PV → List Blk → Option (ByteArray × Int)
  | [.ptr i a b c, .sc (.string s), .sc (.int .i64 y)], [.fix true [.sc (.slice none 0 0)]] => bif eqN [(i, 0), (a, 0), (b, 1), (c, 0)] then some (s, y) else none
  | _, _ => none
def st13n (v : ByteArray × Int) : List PV × List Blk := ([pB, .sc (.string v.1), .sc (.int .i64 v.2)], [fixN])
def sp13 (v : V13) : Bool × List (Bool × PV × List Blk) := (okV v.2.2, [(movE v.2.2.1 v.1 v.2.1 == 0, (.sc (.int .i64 0), bS (v.2.2.1.set (ixC v.1 v.2.2.1).toNat (setB (atS v.2.2.1 (ixC v.1 v.2.2.1)) v.2.1)) v.2.2.2.2.2.2)), (true, (.sc (.int .i64 (movE v.2.2.1 v.1 v.2.1)), bS v.2.2.1 v.2.2.2.2.2.2))])
def sp13n (v : ByteArray × Int) : Bool × List (Bool × PV × List Blk) := (true, [(true, (.sc (.int .i64 (bif !inS v.2 0 3 then 4 else 8)), bN))])
/-- slices.Delete of one. -/
abbrev V17 := Int × Int × VS
def p17 : List PV → List Blk → Option V17
  | [.sl j e sz len lo full nl, .sc (.int .i64 i), .sc (.int .i64 i2)], [.row true (.pair .str (.pair .str (.pair (.int .i64) (.pair (.int .i64) (.int .i64))))) L] =>
    bif eqN [(j, 0), (e, 0), (sz, 5)] then some (i, i2, L, len, lo, full, nl) else none
  | _, _ => none
def st17 (v : V17) : List PV × List Blk := ([.sl 0 0 5 v.2.2.2.1 v.2.2.2.2.1 v.2.2.2.2.2.1 v.2.2.2.2.2.2, .sc (.int .i64 v.1), .sc (.int .i64 v.2.1)], [rowS v.2.2.1])
def pre17 (i j : Int) (l : List Strip) : Bool := decide (j = i + 1 ∧ 0 ≤ i ∧ i < (l.length : Int))
def sp17 (v : V17) : Bool × List (Bool × PV × List Blk) := (okV v.2.2 && pre17 v.1 v.2.1 v.2.2.1, [(true, (.sl 1 0 5 (v.2.2.1.eraseIdx v.1.toNat).length (v.2.2.1.eraseIdx v.1.toNat).length false v.2.2.2.2.2.2, [.dead, rowS (v.2.2.1.eraseIdx v.1.toNat)]))])
noncomputable def U6 : Table :=
  ext 12 (orE (entF p12 sp12) (entF p12n sp12n)) <| ext 13 (orE (entF p13 sp13) (entF p13n sp13n)) <| ext 15 (orE (entF p12 sp15) (entF p12n sp15n)) <| ext 17 (entF p17 sp17) U5
def sp16 (v : V40) : Bool × List (Bool × PV × List Blk) := (okV v.2, [(remE v.2.1 v.1 == 0, (.sc (.int .i64 0), bS (v.2.1.eraseIdx (ixC v.1 v.2.1).toNat) v.2.2.2.2.2)), (true, (.sc (.int .i64 (remE v.2.1 v.1)), bS v.2.1 v.2.2.2.2.2))])
def sp16n (_ : ByteArray) : Bool × List (Bool × PV × List Blk) := (true, [(true, (.sc (.int .i64 8), bN))])
/-- Get. -/
def sp18 (v : V40) : Bool × List (Bool × PV × List Blk) := (okV v.2, [(decide (ixC v.1 v.2.1 < 0), (.tup [agS zS, .sc (.int .i64 8)], bS v.2.1 v.2.2.2.2.2)), (true, (.tup [agS (atS v.2.1 (ixC v.1 v.2.1)), .sc (.int .i64 0)], bS v.2.1 v.2.2.2.2.2))])
def sp18n (_ : ByteArray) : Bool × List (Bool × PV × List Blk) := (true, [(true, (.tup [agS zS, .sc (.int .i64 8)], bN))])
/-- The reference's move, on its own list. -/
abbrev V14 := Int × Int × Int × VS
def p14 : List PV → List Blk → Option V14
  | [.sl j e sz len lo full nl, .sc (.int .i64 i), .sc (.int .i64 y), .sc (.int .i64 y2)], [.row true (.pair .str (.pair .str (.pair (.int .i64) (.pair (.int .i64) (.int .i64))))) L] =>
    bif eqN [(j, 0), (e, 0), (sz, 5)] then some (i, y, y2, L, len, lo, full, nl) else none
  | _, _ => none
def st14 (v : V14) : List PV × List Blk := ([.sl 0 0 5 v.2.2.2.2.1 v.2.2.2.2.2.1 v.2.2.2.2.2.2.1 v.2.2.2.2.2.2.2, .sc (.int .i64 v.1), .sc (.int .i64 v.2.1), .sc (.int .i64 v.2.2.1)], [rowS v.2.2.2.1])
def mvdE (l : List Strip) (k b many : Int) : Int := bif !inS b 0 3 then 4 else bif decide (k < 0) then 8 else bif !perS (atS l k).2.2.2.2 b then 11 else bif many == 16 then 9 else 0
def goodS (l : List Strip) : Bool := l.all fun x => inS x.2.2.2.2 0 3
def pre14 (k : Int) (l : List Strip) : Bool := decide (k < (l.length : Int)) && goodS l
def sp14 (v : V14) : Bool × List (Bool × PV × List Blk) := (okV v.2.2.2 && pre14 v.1 v.2.2.2.1, [(mvdE v.2.2.2.1 v.1 v.2.1 v.2.2.1 == 0, (.sc (.int .i64 0), [rowS (v.2.2.2.1.set v.1.toNat (setB (atS v.2.2.2.1 v.1) v.2.1))])), (true, (.sc (.int .i64 (mvdE v.2.2.2.1 v.1 v.2.1 v.2.2.1)), [rowS v.2.2.2.1]))])
def p14n : List PV → List Blk → Option (Int × Int)
  | [.sc (.slice none 0 0), .sc (.int .i64 (-1)), .sc (.int .i64 y), .sc (.int .i64 y2)], [] => some (y, y2)
  | _, _ => none
def st14n (v : Int × Int) : List PV × List Blk := ([.sc (.slice none 0 0), .sc (.int .i64 (-1)), .sc (.int .i64 v.1), .sc (.int .i64 v.2)], [])
def sp14n (v : Int × Int) : Bool × List (Bool × PV × List Blk) := (true, [(true, (.sc (.int .i64 (bif !inS v.1 0 3 then 4 else 8)), []))])
noncomputable def U7 : Table := ext 16 (orE (entF p40 sp16) (entF p40n sp16n)) <| ext 18 (orE (entF p40 sp18) (entF p40n sp18n)) <| ext 14 (orE (entF p14 sp14) (entF p14n sp14n)) U6
end Go.Proofs.YtokephobkllfgaaSs
