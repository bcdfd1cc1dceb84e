/- What is laid here: the law's loops over a board and a list. Definitions alone; no condition. -/
import Derived.Test.YtokephobkllfgaaTss6
import Derived.Test.YtokephobkllfgaaEvZg
namespace Go.Proofs.YtokephobkllfgaaSs
open Go Go.Proofs Go.Proofs.YtokephobkllfgaaEv
abbrev kVa : List Shp := [.s xT, sI]
def cVa : SpecC kVa := cut1 kVa [sI] (fun v => okS v.1 && v.2.1 == 0) .normal (fun v => (chkS v.1, ())) (same kVa)
abbrev kMn : List Shp := [.s xT, sI, rS, sI, sI]
def cMn : SpecC kMn := cut1 kMn [sI] (fun v => preCt v.2.2.1.1 v.2.1 v.2.2.2.1 v.2.2.2.2.1) (.exit 3) (fun v => (v.2.1 + cntS v.1.2.2.2.2 (v.2.2.1.1.drop v.2.2.2.2.1.toNat), ())) (same kMn)
def muMn : denA kMn → Nat := fun v => (v.2.2.2.1 - v.2.2.2.2.1).toNat
/-! ### One call -/
abbrev Call := Int × Strip
abbrev kC : Kd := .pair (.int .i64) kS
def errE (L : List Strip) (kd : Int) (s : Strip) : Int := bif kd == 0 then putE L s else bif kd == 1 then movE L s.1 s.2.2.2.2 else bif kd == 2 then chgE L s else remE L s.1
def newL (L : List Strip) (kd : Int) (s : Strip) : List Strip :=
  bif errE L kd s == 0 then (bif kd == 0 then L ++ [s] else bif kd == 1 then L.set (ixC s.1 L).toNat (setB (atS L (ixC s.1 L)) s.2.2.2.2) else bif kd == 2 then L.set (ixC s.1 L).toNat s else L.eraseIdx (ixC s.1 L).toNat) else L
abbrev VW := List Strip × Nat × Nat × Bool
abbrev slQ (j : Nat) (v : VW) : PV := .sl j 0 5 v.2.1 v.2.2.1 v.2.2.2 false
abbrev fixQ (j : Nat) (v : VW) : Blk := .fix true [slQ j v]
abbrev slN (j : Nat) (R : List Strip) : PV := .sl j 0 5 R.length R.length false false
abbrev fixNw (j : Nat) (R : List Strip) : Blk := .fix true [slN j R]
abbrev pS (s : Strip) : List PV := [.sc (.string s.1), .sc (.string s.2.1), .sc (.int .i64 s.2.2.1), .sc (.int .i64 s.2.2.2.1), .sc (.int .i64 s.2.2.2.2)]
abbrev iV (n : Int) : PV := .sc (.int .i64 n)
abbrev nilV : PV := .sc (.slice none 0 0)
def okW (v : VW) (L : List Strip) : Prop := v.1 = L ∧ v.2.1 = L.length ∧ v.2.1 ≤ v.2.2.1
abbrev VB5 := VW × VW × Strip × Int × Int × Int × Int × Int
abbrev VA5 := Strip × Int × Int × Int × Int
def p5 : List PV → List Blk → Option (VB5 ⊕ VA5)
  | [.ptr i a b c, .sl j e sz n lo fu false, .ptr i2 a2 b2 c2, .sc (.int .i64 k), .sc (.int .i64 vd), .sc (.int .i64 mn), .sc (.int .i64 z), .sc (.int .i64 kd)],
    [.fix true [.sl j3 e3 sz3 n3 lo3 fu3 false], .row true (.pair .str (.pair .str (.pair (.int .i64) (.pair (.int .i64) (.int .i64))))) L3, .row true (.pair .str (.pair .str (.pair (.int .i64) (.pair (.int .i64) (.int .i64))))) L, .fix true [.sc (.string s1), .sc (.string s2), .sc (.int .i64 s3), .sc (.int .i64 s4), .sc (.int .i64 s5)]] =>
    bif eqN [(i, 0), (a, 0), (b, 1), (c, 0), (j, 2), (e, 0), (sz, 5), (i2, 3), (a2, 0), (b2, 1), (c2, 0), (j3, 1), (e3, 0), (sz3, 5)] then some (.inl ((L3, n3, lo3, fu3), (L, n, lo, fu), (s1, s2, s3, s4, s5), k, vd, mn, z, kd)) else none
  | [.ptr i a b c, .sc (.slice none 0 0), .ptr i2 a2 b2 c2, .sc (.int .i64 (-1)), .sc (.int .i64 vd), .sc (.int .i64 mn), .sc (.int .i64 z), .sc (.int .i64 kd)],
    [.fix true [.sc (.slice none 0 0)], .fix true [.sc (.string s1), .sc (.string s2), .sc (.int .i64 s3), .sc (.int .i64 s4), .sc (.int .i64 s5)]] =>
    bif eqN [(i, 0), (a, 0), (b, 1), (c, 0), (i2, 1), (a2, 0), (b2, 1), (c2, 0)] then some (.inr ((s1, s2, s3, s4, s5), vd, mn, z, kd)) else none
  | _, _ => none
def st5 : VB5 ⊕ VA5 → List PV × List Blk
  | .inl v => ([pB, slQ 2 v.2.1, .ptr 3 0 1 0, iV v.2.2.2.1, iV v.2.2.2.2.1, iV v.2.2.2.2.2.1, iV v.2.2.2.2.2.2.1, iV v.2.2.2.2.2.2.2], [fixQ 1 v.1, rowS v.1.1, rowS v.2.1.1, .fix true (pS v.2.2.1)])
  | .inr v => ([pB, nilV, .ptr 1 0 1 0, iV (-1), iV v.2.1, iV v.2.2.1, iV v.2.2.2.1, iV v.2.2.2.2], [fixN, .fix true (pS v.1)])
def pre5 (s : Strip) (L : List Strip) (k vd mn z kd : Int) : Prop := L.length ≤ 60 ∧ goodS L = true ∧ okS s = true ∧ k = ixC s.1 L ∧ vd = chkS s ∧ mn = cntS s.2.2.2.2 L ∧ z = 0 ∧ 0 ≤ kd ∧ kd ≤ 3
noncomputable def sp5 : VB5 ⊕ VA5 → Bool × List (Bool × Xt × List PV × List Blk)
  | .inl v => (bp (okW v.1 v.1.1 ∧ okW v.2.1 v.1.1 ∧ pre5 v.2.2.1 v.1.1 v.2.2.2.1 v.2.2.2.2.1 v.2.2.2.2.2.1 v.2.2.2.2.2.2.1 v.2.2.2.2.2.2.2), [(true, (.normal, [slN 4 (newL v.1.1 v.2.2.2.2.2.2.2 v.2.2.1), iV (errE v.1.1 v.2.2.2.2.2.2.2 v.2.2.1), iV (errE v.1.1 v.2.2.2.2.2.2.2 v.2.2.1)], [fixNw 5 (newL v.1.1 v.2.2.2.2.2.2.2 v.2.2.1), .dead, .dead, .fix true (pS v.2.2.1), rowS (newL v.1.1 v.2.2.2.2.2.2.2 v.2.2.1), rowS (newL v.1.1 v.2.2.2.2.2.2.2 v.2.2.1)]))])
  | .inr v => (bp (pre5 v.1 [] (-1) v.2.1 v.2.2.1 v.2.2.2.1 v.2.2.2.2), [(v.2.2.2.2 == 0 && chkS v.1 == 0, (.normal, [slN 2 [v.1], iV 0, iV 0], [fixNw 3 [v.1], .fix true (pS v.1), rowS [v.1], rowS [v.1]])), (true, (.normal, [nilV, iV (errE [] v.2.2.2.2 v.1), iV (errE [] v.2.2.2.2 v.1)], [fixN, .fix true (pS v.1)]))])
/-! ### The loop over the calls -/
abbrev VC := List Call × Nat × Nat × Bool × Bool
abbrev slC (j : Nat) (c : VC) : PV := .sl j 0 6 c.2.1 c.2.2.1 c.2.2.2.1 c.2.2.2.2
abbrev VBL := VW × VW × VC × Int × Int
abbrev VAL := VC × Int × Int
def pL : List PV → List Blk → Option (VBL ⊕ VAL)
  | [.ptr i a b c, .sl j e sz n lo fu false, .sl jc ec szc nc loc fuc nlc, .sc (.int .i64 m), .sc (.int .i64 k)],
    [.fix true [.sl j3 e3 sz3 n3 lo3 fu3 false], .row true (.pair .str (.pair .str (.pair (.int .i64) (.pair (.int .i64) (.int .i64))))) L3, .row true (.pair .str (.pair .str (.pair (.int .i64) (.pair (.int .i64) (.int .i64))))) L, .row false (.pair (.int .i64) (.pair .str (.pair .str (.pair (.int .i64) (.pair (.int .i64) (.int .i64)))))) C] =>
    bif eqN [(i, 0), (a, 0), (b, 1), (c, 0), (j, 2), (e, 0), (sz, 5), (j3, 1), (e3, 0), (sz3, 5), (jc, 3), (ec, 0), (szc, 6)] then some (.inl ((L3, n3, lo3, fu3), (L, n, lo, fu), (C, nc, loc, fuc, nlc), m, k)) else none
  | [.ptr i a b c, .sc (.slice none 0 0), .sl jc ec szc nc loc fuc nlc, .sc (.int .i64 m), .sc (.int .i64 k)],
    [.fix true [.sc (.slice none 0 0)], .row false (.pair (.int .i64) (.pair .str (.pair .str (.pair (.int .i64) (.pair (.int .i64) (.int .i64)))))) C] =>
    bif eqN [(i, 0), (a, 0), (b, 1), (c, 0), (jc, 1), (ec, 0), (szc, 6)] then some (.inr ((C, nc, loc, fuc, nlc), m, k)) else none
  | _, _ => none
abbrev rowC (C : List Call) : Blk := .row false kC C
def stL : VBL ⊕ VAL → List PV × List Blk
  | .inl v => ([pB, slQ 2 v.2.1, slC 3 v.2.2.1, iV v.2.2.2.1, iV v.2.2.2.2], [fixQ 1 v.1, rowS v.1.1, rowS v.2.1.1, rowC v.2.2.1.1])
  | .inr v => ([pB, nilV, slC 1 v.1, iV v.2.1, iV v.2.2], [fixN, rowC v.1.1])
def okK (C : List Call) (nc m k : Int) : Prop := m = nc ∧ nc ≤ C.length ∧ 0 ≤ k ∧ k ≤ m ∧ m ≤ 20 ∧ ∀ c ∈ C, okS c.2 = true
def invS (L : List Strip) : Prop := goodS L = true ∧ (L.map fun x => x.1).Nodup
def runS (L : List Strip) (C : List Call) : List Strip := C.foldl (fun L c => newL L (cutS c.1 3) c.2) L
def runA : List Call → Option (List Strip)
  | [] => none
  | c :: r => bif cutS c.1 3 == 0 && chkS c.2 == 0 then some (runS [c.2] r) else runA r
def restC (v : VC) (k : Int) : List Call := (v.1.take v.2.1).drop k.toNat
noncomputable def spL : VBL ⊕ VAL → Bool × List (Bool × Xt × List PV × List Blk)
  | .inl v => (bp (okW v.1 v.1.1 ∧ okW v.2.1 v.1.1 ∧ okK v.2.2.1.1 v.2.2.1.2.1 v.2.2.2.1 v.2.2.2.2 ∧ invS v.1.1 ∧ (v.1.1.length : Int) ≤ v.2.2.2.2), [(true, (.exit 0, [slN 4 (runS v.1.1 (restC v.2.2.1 v.2.2.2.2))], [fixNw 5 (runS v.1.1 (restC v.2.2.1 v.2.2.2.2)), .dead, .dead, rowC v.2.2.1.1, rowS (runS v.1.1 (restC v.2.2.1 v.2.2.2.2)), rowS (runS v.1.1 (restC v.2.2.1 v.2.2.2.2))]))])
  | .inr v => (bp (okK v.1.1 v.1.2.1 v.2.1 v.2.2), [((runA (restC v.1 v.2.2)).isSome, (.exit 0, [slN 2 ((runA (restC v.1 v.2.2)).getD [])], [fixNw 3 ((runA (restC v.1 v.2.2)).getD []), rowC v.1.1, rowS ((runA (restC v.1 v.2.2)).getD []), rowS ((runA (restC v.1 v.2.2)).getD [])])), (true, (.exit 0, [nilV], [fixN, rowC v.1.1]))])
def muL : VBL ⊕ VAL → Nat
  | .inl v => (v.2.2.2.1 - v.2.2.2.2).toNat
  | .inr v => (v.2.1 - v.2.2).toNat
/-! ### Get -/
abbrev kGt : List Shp := [sS, .s xT, sI, rS, sI, sI]
def gtB (c : ByteArray) (g : Strip) (e : Int) (x : Strip) : Bool := !(decide (x.1 = c)) || (e == 0 && eqS g x)
def cGt : SpecC kGt := cut2 kGt [.un] [sB] (fun v => preCt v.2.2.2.1.1 0 v.2.2.2.2.1 v.2.2.2.2.2.1) (fun v => (v.2.2.2.1.1.drop v.2.2.2.2.2.1.toNat).all (gtB v.1 v.2.1 v.2.2.1)) (.exit 6) .ret (fun _ => ((), ())) (fun _ => (false, ())) (same kGt) (same kGt)
def muGt : denA kGt → Nat := fun v => (v.2.2.2.2.1 - v.2.2.2.2.2.1).toNat
/-! ### New -/
noncomputable def U10 : Table := ext 6 (entV [] fun _ => (true, [(true, (.ptr 0 0 1 0, [fixN]))])) U9
end Go.Proofs.YtokephobkllfgaaSs
