/- What is laid here: the law's loops over a radio and a list. Definitions alone; no condition. -/
import Derived.Test.YtokephobkllfgaaTcn2
namespace Go.Proofs.YtokephobkllfgaaCn
open Go Go.Proofs Go.Proofs.YtokephobkllfgaaEv Go.Proofs.YtokephobkllfgaaSs
def cutE (kd : Int) (l : List T3) (c : L4) : Int :=
  bif kd == 0 then (bif !namS c.2.2.2 then 6 else bif !valF c.2.1 || !inS c.2.2.1 0 200000 then 4 else bif decide (ixT c.2.2.2 l < 0) && (l.length : Int) == 24 then 9 else bif decide (ixT c.2.2.2 l ≥ 0) && decide (c.2.2.1 < (atT l (ixT c.2.2.2 l)).2.2) then 12 else 0)
  else bif kd == 1 then (bif decide (ixT c.2.2.2 l < 0) then 8 else bif (atT l (ixT c.2.2.2 l)).2.1 != c.2.1 then 11 else bif !inS c.2.2.1 (atT l (ixT c.2.2.2 l)).2.2 200000 then 12 else 0)
  else bif decide (ixT c.2.2.2 l < 0) then 8 else 0
def cutL (kd : Int) (l : List T3) (c : L4) : List T3 :=
  bif cutE kd l c == 0 then
    (bif kd == 0 then (bif decide (ixT c.2.2.2 l ≥ 0) then l.set (ixT c.2.2.2 l).toNat (c.2.2.2, c.2.1, c.2.2.1) else l ++ [(c.2.2.2, c.2.1, c.2.2.1)])
     else bif kd == 1 then l.set (ixT c.2.2.2 l).toNat ((atT l (ixT c.2.2.2 l)).1, (atT l (ixT c.2.2.2 l)).2.1, c.2.2.1)
     else l.eraseIdx (ixT c.2.2.2 l).toNat) else l
def cutN (kd : Int) (l : List T3) (ln : Bool) (c : L4) : Bool := bif cutE kd l c == 0 && (kd == 0 && !decide (ixT c.2.2.2 l ≥ 0)) then false else ln
def radE (kd : Int) (M : List T3) (c : L4) : Int := bif kd == 0 then tunE M c.2.2.2 c.2.1 c.2.2.1 else bif kd == 1 then heaE M c.2.2.2 c.2.1 c.2.2.1 else leaE M c.2.2.2
def radM (kd : Int) (M : List T3) (c : L4) : List T3 := bif kd == 0 then tunM M c.2.2.2 c.2.1 c.2.2.1 else bif kd == 1 then heaM M c.2.2.2 c.2.1 c.2.2.1 else leaM M c.2.2.2
def radN (kd : Int) (M : List T3) (mn : Bool) (c : L4) : Bool := bif kd == 0 then (bif tunE M c.2.2.2 c.2.1 c.2.2.1 == 0 && !hasT c.2.2.2 M then false else mn) else mn
abbrev kSw : List Shp := [bO, oT, .fn 24 [], .s xL, sI, sI, sI]
noncomputable def cSw : SpecC kSw := cut1 kSw [oT, sI, sI] (fun v => bp (preR v.1.1.1 v.2.2.2.1.2.2.2 ∧ v.2.1.1.length ≤ 60 ∧ v.2.2.2.2.1 = ixT v.2.2.2.1.2.2.2 v.2.1.1 ∧ v.2.2.2.2.2.1 = 0 ∧ 0 ≤ v.2.2.2.2.2.2.1 ∧ v.2.2.2.2.2.2.1 ≤ 2)) .normal
  (fun v => ((cutL v.2.2.2.2.2.2.1 v.2.1.1 v.2.2.2.1, cutN v.2.2.2.2.2.2.1 v.2.1.1 v.2.1.2 v.2.2.2.1), radE v.2.2.2.2.2.2.1 v.1.1.1 v.2.2.2.1, cutE v.2.2.2.2.2.2.1 v.2.1.1 v.2.2.2.1, ()))
  (fun v => (((radM v.2.2.2.2.2.2.1 v.1.1.1 v.2.2.2.1, radN v.2.2.2.2.2.2.1 v.1.1.1 v.1.1.2 v.2.2.2.1), ()), (), (), (), (), (), (), ()))
/-! ### The loop over the calls -/
abbrev SM := (List T3 × Bool) × (List T3 × Bool)
def stepC (s : SM) (c : L4) : SM := ((radM (cutS c.1 2) s.1.1 c, radN (cutS c.1 2) s.1.1 s.1.2 c), (cutL (cutS c.1 2) s.2.1 c, cutN (cutS c.1 2) s.2.1 s.2.2 c))
def runC (s : SM) (C : List L4) : SM := C.foldl stepC s
def relT (M l : List T3) : Prop := M.Perm l ∧ srtd M ∧ okT M = true
def okKc (C : List L4) (m k : Int) : Prop := m ≤ (C.length : Int) ∧ 0 ≤ k ∧ k ≤ m ∧ m ≤ 20 ∧ ∀ c ∈ C, c.2.2.2.size ≤ 1000000000000000000
abbrev kLw : List Shp := [bO, oT, .fn 24 [], rL, sI, sI]
def restL (C : List L4) (m k : Int) : List L4 := (C.take m.toNat).drop k.toNat
noncomputable def cLw : SpecC kLw := cut1 kLw [oT] (fun v => bp (relT v.1.1.1 v.2.1.1 ∧ (v.1.1.1.length : Int) ≤ v.2.2.2.2.2.1 ∧ v.2.2.2.2.1 = (v.2.2.2.1.1.length : Int) ∧ okKc v.2.2.2.1.1 v.2.2.2.2.1 v.2.2.2.2.2.1)) (.exit 0)
  (fun v => ((runC (v.1.1, v.2.1) (restL v.2.2.2.1.1 v.2.2.2.2.1 v.2.2.2.2.2.1)).2, ()))
  (fun v => (((runC (v.1.1, v.2.1) (restL v.2.2.2.1.1 v.2.2.2.2.1 v.2.2.2.2.2.1)).1, ()), (), (), (), (), (), ()))
def muLw : denA kLw → Nat := fun v => (v.2.2.2.2.1 - v.2.2.2.2.2.1).toNat
/-- The same loop, its end given. -/
noncomputable def cLwK (s : SM) : SpecC kLw := cut1 kLw [oT] (fun v => bp ((cLw v).1 = true ∧ runC (v.1.1, v.2.1) (restL v.2.2.2.1.1 v.2.2.2.2.1 v.2.2.2.2.2.1) = s)) (.exit 0) (fun _ => (s.2, ())) (fun _ => ((s.1, ()), (), (), (), (), (), ()))
/-! ### Lost -/
abbrev kI9 : List Shp := [oT, sI, rT, sI, sI]
def atR (t : Int) : List T3 × Bool → List T3 → List T3 × Bool
  | o, [] => o
  | o, x :: r => bif x.2.2 == t then atR t (o.1 ++ [x], false) r else atR t o r
def preAtr (out l : List T3) (n k : Int) : Bool := decide (n = (l.length : Int) ∧ 0 ≤ k ∧ k ≤ n ∧ n ≤ 100 ∧ (out.length : Int) ≤ 1000000000 + k)
def cI9 : SpecC kI9 := cut1 kI9 [oT] (fun v => preAtr v.1.1 v.2.2.1.1 v.2.2.2.1 v.2.2.2.2.1) (.exit 9) (fun v => (atR v.2.1 v.1 (v.2.2.1.1.drop v.2.2.2.2.1.toNat), ())) (same kI9)
def muI9 : denA kI9 → Nat := fun v => (v.2.2.2.1 - v.2.2.2.2.1).toNat
def laR (T lim : Int) (l : List T3) : Nat → Int → List T3 × Bool → List T3 × Bool
  | 0, _, o => o
  | n + 1, t, o => bif decide (T - t ≤ lim) || (o.1.length : Int) == (l.length : Int) then o else laR T lim l n (t + 1) (atR t o l)
abbrev kI7 : List Shp := [sI, sI, rT, oT, sI, sI]
def preI7 (T lim : Int) (l out : List T3) (n t : Int) : Bool := decide (0 ≤ T ∧ T ≤ 200000 ∧ 0 ≤ lim ∧ n = T + 1 ∧ 0 ≤ t ∧ t ≤ n ∧ l.length ≤ 100 ∧ (out.length : Int) ≤ 100 * t)
def cI7 : SpecC kI7 := cut1 kI7 [oT] (fun v => preI7 v.1 v.2.1 v.2.2.1.1 v.2.2.2.1.1 v.2.2.2.2.1 v.2.2.2.2.2.1) (.exit 7) (fun v => (laR v.1 v.2.1 v.2.2.1.1 (v.2.2.2.2.1 - v.2.2.2.2.2.1).toNat v.2.2.2.2.2.1 v.2.2.2.1, ())) (same kI7)
def muI7 : denA kI7 → Nat := fun v => (v.2.2.2.2.1 - v.2.2.2.2.2.1).toNat
end Go.Proofs.YtokephobkllfgaaCn
