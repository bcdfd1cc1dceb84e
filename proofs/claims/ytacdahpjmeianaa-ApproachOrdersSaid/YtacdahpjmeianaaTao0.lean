/- What is laid here: the search of an order of arrivals, the reference's walk through all orders, and the plain functions that the law ApproachOrders reaches. Definitions alone; no condition. -/
import Derived.Test.YtacdahpjmeianaaTas0
import Derived.Test.YtacdahpjmeianaaEvZe
namespace Go.Proofs.YtacdahpjmeianaaAs
open Go hiding Item
open Go.Proofs Go.Proofs.YtacdahpjmeianaaEv
def zA : Item := (ByteArray.empty, 0, 0, 0)
def atA (l : List Item) (i : Int) : Item := l.getD i.toNat zA
def pick (l : List Item) (o : List Int) : List Item := o.map (atA l)
/-- None is late. -/
def fitL : List Int → List Item → Bool
  | t :: ts, x :: xs => bif decide (t > x.2.2.2) then false else fitL ts xs
  | _, _ => true
def fitO (l : List Item) (g : List Int) (o : List Int) : Bool := fitL (timesS g (pick l o)) (pick l o)
def tryA (l : List Item) (g : List Int) (rec : List Int → List Int → Option (List Int)) (o A : List Int) : Nat → Int → Option (List Int)
  | 0, _ => none
  | n + 1, i => bif o.contains i || decide (innerS g (atA l i).2.1 A (pick l o) (atA l i).2.2.1 > (atA l i).2.2.2) then tryA l g rec o A n (i + 1) else
      match rec (o ++ [i]) (A ++ [innerS g (atA l i).2.1 A (pick l o) (atA l i).2.2.1]) with
      | some r => some r
      | none => tryA l g rec o A n (i + 1)
def srchA (l : List Item) (g : List Int) : Nat → List Int → List Int → Option (List Int)
  | 0, _, _ => none
  | d + 1, o, A => bif decide (o.length = l.length) then some o else tryA l g (srchA l g d) o A l.length 0
/-- All orders that begin so, the least first. -/
def extP (rec : List Int → List (List Int)) (o : List Int) : Nat → Int → List (List Int)
  | 0, _ => []
  | m + 1, i => (bif o.contains i then [] else rec (o ++ [i])) ++ extP rec o m (i + 1)
def prm (n : Nat) : Nat → List Int → List (List Int)
  | 0, _ => []
  | d + 1, o => bif decide (o.length = n) then [o] else extP (prm n d) o n 0
def permsL : Nat → List (List Int)
  | 0 => [[]]
  | 1 => [[0]]
  | 2 => [[0, 1], [1, 0]]
  | 3 => [[0, 1, 2], [0, 2, 1], [1, 0, 2], [1, 2, 0], [2, 0, 1], [2, 1, 0]]
  | 4 => [[0, 1, 2, 3], [0, 1, 3, 2], [0, 2, 1, 3], [0, 2, 3, 1], [0, 3, 1, 2], [0, 3, 2, 1], [1, 0, 2, 3], [1, 0, 3, 2], [1, 2, 0, 3], [1, 2, 3, 0], [1, 3, 0, 2], [1, 3, 2, 0], [2, 0, 1, 3], [2, 0, 3, 1], [2, 1, 0, 3], [2, 1, 3, 0], [2, 3, 0, 1], [2, 3, 1, 0], [3, 0, 1, 2], [3, 0, 2, 1], [3, 1, 0, 2], [3, 1, 2, 0], [3, 2, 0, 1], [3, 2, 1, 0]]
  | 5 => [[0, 1, 2, 3, 4], [0, 1, 2, 4, 3], [0, 1, 3, 2, 4], [0, 1, 3, 4, 2], [0, 1, 4, 2, 3], [0, 1, 4, 3, 2], [0, 2, 1, 3, 4], [0, 2, 1, 4, 3], [0, 2, 3, 1, 4], [0, 2, 3, 4, 1], [0, 2, 4, 1, 3], [0, 2, 4, 3, 1], [0, 3, 1, 2, 4], [0, 3, 1, 4, 2], [0, 3, 2, 1, 4], [0, 3, 2, 4, 1], [0, 3, 4, 1, 2], [0, 3, 4, 2, 1], [0, 4, 1, 2, 3], [0, 4, 1, 3, 2], [0, 4, 2, 1, 3], [0, 4, 2, 3, 1], [0, 4, 3, 1, 2], [0, 4, 3, 2, 1], [1, 0, 2, 3, 4], [1, 0, 2, 4, 3], [1, 0, 3, 2, 4], [1, 0, 3, 4, 2], [1, 0, 4, 2, 3], [1, 0, 4, 3, 2], [1, 2, 0, 3, 4], [1, 2, 0, 4, 3], [1, 2, 3, 0, 4], [1, 2, 3, 4, 0], [1, 2, 4, 0, 3], [1, 2, 4, 3, 0], [1, 3, 0, 2, 4], [1, 3, 0, 4, 2], [1, 3, 2, 0, 4], [1, 3, 2, 4, 0], [1, 3, 4, 0, 2], [1, 3, 4, 2, 0], [1, 4, 0, 2, 3], [1, 4, 0, 3, 2], [1, 4, 2, 0, 3], [1, 4, 2, 3, 0], [1, 4, 3, 0, 2], [1, 4, 3, 2, 0], [2, 0, 1, 3, 4], [2, 0, 1, 4, 3], [2, 0, 3, 1, 4], [2, 0, 3, 4, 1], [2, 0, 4, 1, 3], [2, 0, 4, 3, 1], [2, 1, 0, 3, 4], [2, 1, 0, 4, 3], [2, 1, 3, 0, 4], [2, 1, 3, 4, 0], [2, 1, 4, 0, 3], [2, 1, 4, 3, 0], [2, 3, 0, 1, 4], [2, 3, 0, 4, 1], [2, 3, 1, 0, 4], [2, 3, 1, 4, 0], [2, 3, 4, 0, 1], [2, 3, 4, 1, 0], [2, 4, 0, 1, 3], [2, 4, 0, 3, 1], [2, 4, 1, 0, 3], [2, 4, 1, 3, 0], [2, 4, 3, 0, 1], [2, 4, 3, 1, 0], [3, 0, 1, 2, 4], [3, 0, 1, 4, 2], [3, 0, 2, 1, 4], [3, 0, 2, 4, 1], [3, 0, 4, 1, 2], [3, 0, 4, 2, 1], [3, 1, 0, 2, 4], [3, 1, 0, 4, 2], [3, 1, 2, 0, 4], [3, 1, 2, 4, 0], [3, 1, 4, 0, 2], [3, 1, 4, 2, 0], [3, 2, 0, 1, 4], [3, 2, 0, 4, 1], [3, 2, 1, 0, 4], [3, 2, 1, 4, 0], [3, 2, 4, 0, 1], [3, 2, 4, 1, 0], [3, 4, 0, 1, 2], [3, 4, 0, 2, 1], [3, 4, 1, 0, 2], [3, 4, 1, 2, 0], [3, 4, 2, 0, 1], [3, 4, 2, 1, 0], [4, 0, 1, 2, 3], [4, 0, 1, 3, 2], [4, 0, 2, 1, 3], [4, 0, 2, 3, 1], [4, 0, 3, 1, 2], [4, 0, 3, 2, 1], [4, 1, 0, 2, 3], [4, 1, 0, 3, 2], [4, 1, 2, 0, 3], [4, 1, 2, 3, 0], [4, 1, 3, 0, 2], [4, 1, 3, 2, 0], [4, 2, 0, 1, 3], [4, 2, 0, 3, 1], [4, 2, 1, 0, 3], [4, 2, 1, 3, 0], [4, 2, 3, 0, 1], [4, 2, 3, 1, 0], [4, 3, 0, 1, 2], [4, 3, 0, 2, 1], [4, 3, 1, 0, 2], [4, 3, 1, 2, 0], [4, 3, 2, 0, 1], [4, 3, 2, 1, 0]]
  | _ => []
/-- What is left from this order on. -/
def fromO (o : List Int) : List (List Int) := (permsL o.length).dropWhile fun p => !decide (p = o)
/-! ### search -/
abbrev k84i : List Shp := [rA, rI, gB, sI, bA, sI, sB, rI, sI, sI]
def inRng (l : List Item) (o : List Int) : Prop := ∀ i ∈ o, 0 ≤ i ∧ i < (l.length : Int)
noncomputable def pre84i (l : List Item) (A g : List Int) (x : Item) (t : Int) (o : List Int) (n k : Int) : Bool := bp (g.length = 16 ∧ g.any badG = false ∧ l.any badA = false ∧ badA x = false ∧ l.length ≤ 32 ∧ A.length = o.length ∧ inRng l o ∧ (∀ a ∈ A, 0 ≤ a ∧ a ≤ 900000) ∧ 0 ≤ t ∧ t ≤ 1000000 ∧ n = o.length ∧ 0 ≤ k ∧ k ≤ n ∧ n ≤ 32)
noncomputable def c84i : SpecC k84i := cut1 k84i [sI, sB] (fun v => pre84i v.1.1 v.2.1.1 v.2.2.1 v.2.2.2.2.1 v.2.2.2.2.2.1 v.2.2.2.2.2.2.2.1.1 v.2.2.2.2.2.2.2.2.1 v.2.2.2.2.2.2.2.2.2.1) (.exit 2)
  (fun v => (innerS v.2.2.1 v.2.2.2.2.1.2.1 (v.2.1.1.drop v.2.2.2.2.2.2.2.2.2.1.toNat) (pick v.1.1 (v.2.2.2.2.2.2.2.1.1.drop v.2.2.2.2.2.2.2.2.2.1.toNat)) v.2.2.2.2.2.1, v.2.2.2.2.2.2.1 || (v.2.2.2.2.2.2.2.1.1.drop v.2.2.2.2.2.2.2.2.2.1.toNat).contains v.2.2.2.1, ())) (same k84i)
def mu84i : denA k84i → Nat := fun v => (v.2.2.2.2.2.2.2.2.1 - v.2.2.2.2.2.2.2.2.2.1).toNat
abbrev k84 : List Shp := [rA, gA, rI, rI]
noncomputable def pre84 (d : Nat) (l : List Item) (g o A : List Int) : Bool := bp (Fine l g ∧ l.length ≤ 6 ∧ inRng l o ∧ o.length ≤ l.length ∧ A = timesS g (pick l o) ∧ l.length < o.length + d)
noncomputable def spec84 (d : Nat) : SpecV k84 := fun v => (pre84 d v.1.1 v.2.1 v.2.2.1.1 v.2.2.2.1.1, [
  (decide (v.2.2.1.1.length = v.1.1.length), (slV 1 I v.2.2.1, (showA 0 k84 v).2)),
  ((srchA v.1.1 v.2.1 d v.2.2.1.1 v.2.2.2.1.1).isSome, ansV k84 v [oI] (((srchA v.1.1 v.2.1 d v.2.2.1.1 v.2.2.2.1.1).getD [], false), ()) (same k84 v)),
  (true, ansV k84 v [nilS] ((), ()) (same k84 v))])
noncomputable def T84 (d : Nat) : Table := ext 84 (entV k84 (spec84 d)) TF
abbrev k84o : List Shp := [rA, rI, rI, gB, rA, sI, sI]
noncomputable def pre84o (d : Nat) (l : List Item) (o A g : List Int) (l2 : List Item) (n i : Int) : Bool := bp (l2 = l ∧ Fine l g ∧ l.length ≤ 6 ∧ inRng l o ∧ o.length < l.length ∧ A = timesS g (pick l o) ∧ n = l.length ∧ 0 ≤ i ∧ i ≤ n ∧ l.length < o.length + 1 + d)
def tryW (d : Nat) (l : List Item) (g o A : List Int) (i : Int) : Option (List Int) := tryA l g (srchA l g d) o A (l.length - i.toNat) i
noncomputable def c84o (d : Nat) : SpecC k84o := cut2 k84o [.un] [oI] (fun v => pre84o d v.1.1 v.2.1.1 v.2.2.1.1 v.2.2.2.1 v.2.2.2.2.1.1 v.2.2.2.2.2.1 v.2.2.2.2.2.2.1) (fun v => (tryW d v.1.1 v.2.2.2.1 v.2.1.1 v.2.2.1.1 v.2.2.2.2.2.2.1).isNone) (.exit 0) .ret (fun _ => ((), ())) (fun v => (((tryW d v.1.1 v.2.2.2.1 v.2.1.1 v.2.2.1.1 v.2.2.2.2.2.2.1).getD [], false), ())) (same k84o) (same k84o)
def mu84o : denA k84o → Nat := fun v => (v.2.2.2.2.2.1 - v.2.2.2.2.2.2.1).toNat
/-! ### Order -/
def ordV (l : List Item) (g : List Int) : Option (List Int) := bif decide (errS l g = 0) && (decide (l.length ≤ 6) && decide (l.length ≠ 0)) then srchA l g 7 [] [] else none
def ordE (l : List Item) (g : List Int) : Int := bif decide (errS l g = 0) then (bif decide (l.length ≤ 6) then (bif decide (l.length = 0) then 0 else 8) else 2) else errS l g
noncomputable def spec33 : SpecV kC := fun v => (preL v.2.1, [((ordV v.1.1 v.2.1).isSome, ansV kC v [oI, sI] (((ordV v.1.1 v.2.1).getD [], false), 0, ()) (same kC v)), (true, ansV kC v [nilS, sI] ((), ordE v.1.1 v.2.1, ()) (same kC v))])
/-! ### The reference's function of one order, and all orders -/
/-- The times, kept closed. -/
theorem timesU_ex (g : List Int) (l : List Item) : ∃ x, x = timesS g l := ⟨_, rfl⟩
noncomputable def timesU (g : List Int) (l : List Item) : List Int := Classical.choose (timesU_ex g l)
theorem timesU_eq (g : List Int) (l : List Item) : timesU g l = timesS g l := Classical.choose_spec (timesU_ex g l)
abbrev k36 : List Shp := [rA, rI, sI, sI]
noncomputable def pre36 (X : List Item) (T : List Int) (n k : Int) : Bool := decide (T.length = X.length ∧ n = T.length ∧ 0 ≤ k ∧ k ≤ n ∧ n ≤ 1000)
noncomputable def c36 : SpecC k36 := cut2 k36 [.un] [sB] (fun v => pre36 v.1.1 v.2.1.1 v.2.2.1 v.2.2.2.1) (fun v => fitL (v.2.1.1.drop v.2.2.2.1.toNat) (v.1.1.drop v.2.2.2.1.toNat)) (.exit 2) .ret (fun _ => ((), ())) (fun _ => (false, ())) (same k36) (same k36)
def mu36 : denA k36 → Nat := fun v => (v.2.2.1 - v.2.2.2.1).toNat
noncomputable def TG : Table :=
  ext 33 (entV kC spec33) <|
  ext 37 (entV kC (specP kC [oI] (fun v => preF v.1.1 v.2.1) fun v => ((timesU v.2.1 v.1.1, false), ()))) <|
  ext 38 (entV [rI] (specP [rI] [oI] (fun v => !v.1.2 && decide (v.1.1.length ≤ 1000)) fun v => ((v.1.1, false), ()))) (T84 7)
/-- A slice of arrivals behind a variable, the gaps, and the variable that takes the order. -/
abbrev VL := List Item × Nat × Nat × Bool × Bool
abbrev VO := List Int × Nat × Nat × Bool × Bool
def eqN : List (Nat × Nat) → Bool
  | [] => true
  | (a, b) :: r => Nat.beq a b && eqN r
abbrev fixL (j : Nat) (v : VL) : Blk := .fix true [.sl j 0 4 v.2.1 v.2.2.1 v.2.2.2.1 v.2.2.2.2]
abbrev fixW (j : Nat) (v : VL) : Blk := .fix true [.sl j 0 4 v.2.1 v.2.1 false v.2.2.2.2]
abbrev slO (j : Nat) (v : VO) : PV := .sl j 0 1 v.2.1 v.2.2.1 v.2.2.2.1 v.2.2.2.2
abbrev fixN : Blk := .fix true [.sc (.slice none 0 0)]
abbrev fixR (j : Nat) (r : List Int) : Blk := .fix true [.sl j 0 1 r.length r.length false false]
abbrev V36 := VO × VL × List Int
def p36 : List PV → List Blk → Option V36
  | [.sl i e sz len lo full nl, .ptr i1 a1 b1 c1, .ptr i2 a2 b2 c2, .ptr i3 a3 b3 c3], [.row true (.int .i64) o, .fix true [.sl j e2 s2 n2 lo2 f2 nl2], .row false (.pair .str (.pair (.int .i64) (.pair (.int .i64) (.int .i64)))) L, .row true (.int .i64) g, .fix true [.sc (.slice none 0 0)]] =>
    bif eqN [(i, 0), (e, 0), (sz, 1), (i1, 1), (a1, 0), (b1, 1), (c1, 0), (i2, 3), (a2, 0), (b2, 1), (c2, 0), (i3, 4), (a3, 0), (b3, 1), (c3, 0), (j, 2), (e2, 0), (s2, 4)] then some ((o, len, lo, full, nl), (L, n2, lo2, f2, nl2), g) else none
  | _, _ => none
def st36 (v : V36) : List PV × List Blk := ([slO 0 v.1, .ptr 1 0 1 0, .ptr 3 0 1 0, .ptr 4 0 1 0], [.row true I v.1.1, fixL 2 v.2.1, .row false kA v.2.1.1, .row true I v.2.2, fixN])
abbrev vl (v : VL) : List Item := v.1.take v.2.1
noncomputable def okL (v : VL) (g : List Int) : Prop := v.2.1 ≤ 5 ∧ v.2.1 ≤ v.1.length ∧ Fine (vl v) g
noncomputable def sp36 (v : V36) : Bool × List (Bool × PV × List Blk) :=
  (bp (okL v.2.1 v.2.2 ∧ v.1.2.1 = v.1.1.length ∧ v.1.1.length ≤ 5 ∧ inRng (vl v.2.1) v.1.1 ∧ v.1.2.2.2.2 = false),
   [(fitO (vl v.2.1) v.2.2 v.1.1, (.sc (.bool true), [.row true I v.1.1, fixW 2 v.2.1, .row false kA v.2.1.1, .row true I v.2.2, fixR 5 v.1.1, .row true I v.1.1])),
    (true, (.sc (.bool false), [.row true I v.1.1, fixW 2 v.2.1, .row false kA v.2.1.1, .row true I v.2.2, fixN]))])
noncomputable def TH : Table := ext 36 (entF p36 sp36) TG
abbrev V35 := Int × VL × List Int
def p35 : List PV → List Blk → Option V35
  | [.sc (.int .i64 n), .fn f [.ptr i1 a1 b1 c1, .ptr i2 a2 b2 c2, .ptr i3 a3 b3 c3]], [.fix true [.sl j e2 s2 n2 lo2 f2 nl2], .row false (.pair .str (.pair (.int .i64) (.pair (.int .i64) (.int .i64)))) L, .row true (.int .i64) g, .fix true [.sc (.slice none 0 0)]] =>
    bif eqN [(f, 36), (i1, 0), (a1, 0), (b1, 1), (c1, 0), (i2, 2), (a2, 0), (b2, 1), (c2, 0), (i3, 3), (a3, 0), (b3, 1), (c3, 0), (j, 1), (e2, 0), (s2, 4)] then some (n, (L, n2, lo2, f2, nl2), g) else none
  | _, _ => none
abbrev fnC : PV := .fn 36 [.ptr 0 0 1 0, .ptr 2 0 1 0, .ptr 3 0 1 0]
def st35 (v : V35) : List PV × List Blk := ([.sc (.int .i64 v.1), fnC], [fixL 1 v.2.1, .row false kA v.2.1.1, .row true I v.2.2, fixN])
noncomputable def fst35 (v : VL) (g : List Int) : Option (List Int) := (permsL v.2.1).find? (fitO (vl v) g)
noncomputable def sp35 (v : V35) : Bool × List (Bool × PV × List Blk) :=
  (bp (okL v.2.1 v.2.2 ∧ v.1 = v.2.1.2.1),
   [((fst35 v.2.1 v.2.2).isSome, (.sc (.bool true), [fixW 1 v.2.1, .row false kA v.2.1.1, .row true I v.2.2, fixR 4 ((fst35 v.2.1 v.2.2).getD []), .row true I ((fst35 v.2.1 v.2.2).getD [])])),
    (true, (.sc (.bool false), [fixW 1 v.2.1, .row false kA v.2.1.1, .row true I v.2.2, fixN]))])
abbrev V35L := Int × VL × List Int × VO
def p35L : List PV → List Blk → Option V35L
  | [.sc (.int .i64 n), .fn f [.ptr i1 a1 b1 c1, .ptr i2 a2 b2 c2, .ptr i3 a3 b3 c3], .sl i e sz len lo full nl], [.fix true [.sl j e2 s2 n2 lo2 f2 nl2], .row false (.pair .str (.pair (.int .i64) (.pair (.int .i64) (.int .i64)))) L, .row true (.int .i64) g, .fix true [.sc (.slice none 0 0)], .row true (.int .i64) o] =>
    bif eqN [(f, 36), (i1, 0), (a1, 0), (b1, 1), (c1, 0), (i2, 2), (a2, 0), (b2, 1), (c2, 0), (i3, 3), (a3, 0), (b3, 1), (c3, 0), (j, 1), (e2, 0), (s2, 4), (i, 4), (e, 0), (sz, 1)] then some (n, (L, n2, lo2, f2, nl2), g, (o, len, lo, full, nl)) else none
  | _, _ => none
def st35L (v : V35L) : List PV × List Blk := ([.sc (.int .i64 v.1), fnC, slO 4 v.2.2.2], [fixL 1 v.2.1, .row false kA v.2.1.1, .row true I v.2.2.1, fixN, .row true I v.2.2.2.1])
noncomputable def fnd (v : VL) (g o : List Int) : Option (List Int) := (fromO o).find? (fitO (vl v) g)
noncomputable def sp35L (v : V35L) : Bool × List (Bool × Xt × List PV × List Blk) :=
  (bp (okL v.2.1 v.2.2.1 ∧ v.1 = v.2.1.2.1 ∧ v.2.2.2.2.1 = v.2.2.2.1.length ∧ v.2.2.2.1 ∈ permsL v.2.1.2.1 ∧ v.2.2.2.2.2.2.2 = false),
   [((fnd v.2.1 v.2.2.1 v.2.2.2.1).isSome, (.ret, [.sc (.bool true)], [fixW 1 v.2.1, .row false kA v.2.1.1, .row true I v.2.2.1, fixR 5 ((fnd v.2.1 v.2.2.1 v.2.2.2.1).getD []), .dead, .row true I ((fnd v.2.1 v.2.2.1 v.2.2.2.1).getD [])])),
    (true, (.ret, [.sc (.bool false)], [fixW 1 v.2.1, .row false kA v.2.1.1, .row true I v.2.2.1, fixN, .dead]))])
def mu35 (v : V35L) : Nat := (fromO v.2.2.2.1).length
noncomputable def TK : Table := ext 35 (entF p35 sp35) TH
end Go.Proofs.YtacdahpjmeianaaAs
