/- What is laid here: the kinds of a beginning track's history, and the plain functions that the law BeginRuns reaches. Definitions alone; no condition. -/
import Derived.Test.YtpndjpjpmcehbaaEvZc
import Derived.Test.YtpndjpjpmcehbaaProg
namespace Go.Proofs.YtpndjpjpmcehbaaBr
open Go Go.Proofs Go.Proofs.YtpndjpjpmcehbaaEv
abbrev I : Kd := .int .i64
abbrev U : Kd := .int .u64
abbrev sI : Shp := .s (.v ⟨false, I⟩)
abbrev sU : Shp := .s (.v ⟨false, U⟩)
abbrev sB : Shp := .s (.v ⟨false, .bool⟩)
abbrev rB : Shp := .s (.ro .bool)
abbrev oB : Shp := .s (.ow .bool)
abbrev kBg : Kd := .pair I I
abbrev sBg : Shp := .s (.v ⟨true, kBg⟩)
abbrev bI : Shp := .s (.bx ⟨false, I⟩)
abbrev oBg : Shp := .ob [.v ⟨true, kBg⟩]
abbrev cntF : Shp := .fn 80 [.bx ⟨false, I⟩]
/-! ### Counting bits -/
def w (x : Int) : Int := IntKind.u64.wrap x
def an (x c : Int) : Int := w (↑(BitVec.ofInt IntKind.u64.bits x &&& BitVec.ofInt IntKind.u64.bits c).toNat)
def sh (x : Int) (k : Int) : Int := x.fdiv (2 ^ min (Int.toNat k) IntKind.u64.bits)
def pa (x : Int) : Int := w (an (sh x 1) 6148914691236517205 + an x 6148914691236517205)
def pb (x : Int) : Int := w (an (sh x 2) 3689348814741910323 + an x 3689348814741910323)
def pc (x : Int) : Int := an (w (sh x 4 + x)) 1085102592571150095
def pd (k x : Int) : Int := w (x + sh x k)
def pe (x : Int) : Int := IntKind.i64.wrap (↑(BitVec.ofInt IntKind.i64.bits (IntKind.i64.wrap x) &&& BitVec.ofInt IntKind.i64.bits 127).toNat)
def pop64 (x : Int) : Int := pe (pd 32 (pd 16 (pd 8 (pc (pb (pa x))))))
def popN (x : Nat) : Nat :=
  let a := ((x >>> 1) &&& 6148914691236517205) + (x &&& 6148914691236517205)
  let b := ((a >>> 2) &&& 3689348814741910323) + (a &&& 3689348814741910323)
  let c := ((b >>> 4) + b) &&& 1085102592571150095
  let d := c + (c >>> 8)
  let e := d + (d >>> 16)
  (e + (e >>> 32)) &&& 127
def preP (x : Int) : Bool := decide (0 ≤ x ∧ x < 65536)
/-! ### A history told by the latest first -/
def cnt (l : List Bool) : Nat := (l.filter id).length
/-- Those that hit among the last n. -/
def last (l : List Bool) (n : Nat) : Nat := cnt (l.drop (l.length - n))
def soonK (c : Nat → Nat) (need : Int) : Nat → Nat → Bool
  | 0, _ => false
  | d + 1, j => (decide (((c j : Nat) : Int) > 0) && decide (((c j : Nat) : Int) + j ≥ need)) || soonK c need d (j + 1)
def whatL (l : List Bool) (need : Int) (f : Nat) : Int :=
  bif decide (((last l f : Nat) : Int) ≥ need) then 1 else bif decide (l.length < f) then 0 else bif soonK (fun j => last l (f - j)) need (f - 1) 1 then 0 else 2
def runK (l : List Bool) (need : Int) (f : Nat) : Nat → Nat → Option (Int × Int)
  | 0, _ => none
  | d + 1, k => bif decide (whatL (l.take (k + 1)) need f = 0) then runK l need f d (k + 1) else some ((k : Int) + 1, whatL (l.take (k + 1)) need f)
def ruleS (need f : Int) : Int := bif decide (f < 1) || (decide (f > 16) || (decide (need < 1) || decide (need > f))) then 4 else 0
def runS (l : List Bool) (need f : Int) : Int × Int × Int :=
  bif decide (ruleS need f = 0) then (match runK l need f.toNat l.length 0 with | some (n, x) => (n, x, 0) | none => (0, 0, 0)) else (0, 0, 4)
/-! ### Numbers -/
def cN (x : Nat) (f j : Nat) : Nat := popN (x % 2 ^ (f - j))
def soonN (x : Nat) (need : Int) (f d j : Nat) : Bool := soonK (cN x f) need d j
def T1 : Table := ext 140 (entV [sU] (specP [sU] [sI] (fun v => preP v.1) fun v => ((popN v.1.toNat : Nat), ()))) T0
def T2 : Table := ext 117 (entV [sU] (specP [sU] [sI] (fun v => preP v.1) fun v => ((popN v.1.toNat : Nat), ()))) T1
abbrev k118c : List Shp := [sU, sI, sI, sI]
def pre118 (x need f k : Int) : Bool := decide (0 ≤ x ∧ x < 65536 ∧ 1 ≤ f ∧ f ≤ 16 ∧ 1 ≤ need ∧ need ≤ 16 ∧ 1 ≤ k ∧ k ≤ f)
def c118 : SpecC k118c := cut2 k118c [.un] [sB] (fun v => pre118 v.1 v.2.1 v.2.2.1 v.2.2.2.1) (fun v => !soonN v.1.toNat v.2.1 v.2.2.1.toNat (v.2.2.1 - v.2.2.2.1).toNat v.2.2.2.1.toNat) (.exit 0) .ret (fun _ => ((), ())) (fun _ => (true, ())) (same k118c) (same k118c)
def mu118 : denA k118c → Nat := fun v => (v.2.2.1 - v.2.2.2.1).toNat
abbrev k118 : List Shp := [sU, sI, sI]
def T3 : Table :=
  ext 118 (entV k118 (specP k118 [sB] (fun v => pre118 v.1 v.2.1 v.2.2.1 1) fun v => (soonN v.1.toNat v.2.1 v.2.2.1.toNat (v.2.2.1.toNat - 1) 1, ()))) <|
  ext 116 (entV [sBg] (specP [sBg] [sI] (fun v => decide (0 ≤ v.1.2 ∧ v.1.2 ≤ 16 ∧ 0 ≤ v.1.1 ∧ v.1.1 < 2 ^ v.1.2.toNat)) fun _ => (0, ()))) <|
  ext 35 (entV [sI, sI] (specP [sI, sI] [sI] (fun _ => true) fun v => (ruleS v.1 v.2.1, ()))) T2
/-- One step. -/
def nx (x : Int) (h : Bool) : Int := 2 * x + (bif h then 1 else 0)
def whatN (x s need f : Int) : Int :=
  bif decide (((popN (x.toNat % 2 ^ f.toNat) : Nat) : Int) ≥ need) then 1 else bif decide (s < f) then 0 else bif soonN (x.toNat % 2 ^ f.toNat) need f.toNat (f.toNat - 1) 1 then 0 else 2
abbrev k79 : List Shp := [sBg, sB, sI, sI]
def pre79 (x s need f : Int) : Bool := decide (0 ≤ s ∧ s ≤ 15 ∧ 0 ≤ x ∧ x < 2 ^ s.toNat ∧ ruleS need f = 0)
def T4 : Table :=
  ext 79 (entV k79 (specP k79 [sBg, sI, sI] (fun v => pre79 v.1.1 v.1.2 v.2.2.1 v.2.2.2.1) fun v => ((nx v.1.1 v.2.1, v.1.2 + 1), whatN (nx v.1.1 v.2.1) (v.1.2 + 1) v.2.2.1 v.2.2.2.1, 0, ()))) T3
def bitsL (l : List Bool) : Int := l.foldl nx 0
abbrev k34c : List Shp := [sI, sI, oBg, rB, sI, sI]
def pre34 (need f : Int) (x s : Int) (l : List Bool) (n k : Int) : Bool := decide (ruleS need f = 0 ∧ l.length ≤ 16 ∧ n = l.length ∧ 0 ≤ k ∧ k ≤ n ∧ s = k ∧ x = bitsL (l.take k.toNat))
def outK (l : List Bool) (need f k : Int) : Option (Int × Int) := runK l need f.toNat (l.length - k.toNat) k.toNat
def c34 : SpecC k34c := cut2 k34c [.un, .un, .un] [sI, sI, sI] (fun v => pre34 v.1 v.2.1 v.2.2.1.1.1 v.2.2.1.1.2 v.2.2.2.1.1 v.2.2.2.2.1 v.2.2.2.2.2.1)
  (fun v => (outK v.2.2.2.1.1 v.1 v.2.1 v.2.2.2.2.2.1).isNone) (.exit 0) .ret (fun _ => ((), (), (), ()))
  (fun v => (((outK v.2.2.2.1.1 v.1 v.2.1 v.2.2.2.2.2.1).getD (0, 0)).1, ((outK v.2.2.2.1.1 v.1 v.2.1 v.2.2.2.2.2.1).getD (0, 0)).2, 0, ()))
  (fun v => ((), (), ((bitsL v.2.2.2.1.1, (v.2.2.2.1.1.length : Int)), ()), (), (), (), ())) (fun v => ((), (), ((bitsL (v.2.2.2.1.1.take (((outK v.2.2.2.1.1 v.1 v.2.1 v.2.2.2.2.2.1).getD (0, 0)).1 - 1).toNat), ((outK v.2.2.2.1.1 v.1 v.2.1 v.2.2.2.2.2.1).getD (0, 0)).1 - 1), ()), (), (), (), ()))
def mu34 : denA k34c → Nat := fun v => (v.2.2.2.2.1 - v.2.2.2.2.2.1).toNat
abbrev k34 : List Shp := [rB, sI, sI]
def preN (l : List Bool) : Bool := decide (l.length ≤ 16)
/-! ### Confirms -/
abbrev k80c : List Shp := [rB, bI, sI, rB, sI, sI]
def pre80 (l : List Bool) (f n : Int) (l2 : List Bool) (m k : Int) : Bool := decide (l = l2 ∧ m = l.length ∧ 0 ≤ k ∧ k ≤ m ∧ m ≤ 1000 ∧ 0 ≤ n ∧ n ≤ 1000 + k ∧ 1 ≤ f ∧ f ≤ 16)
def c80 : SpecC k80c := cut1 k80c [sI] (fun v => pre80 v.1.1 v.2.1 v.2.2.1 v.2.2.2.1.1 v.2.2.2.2.1 v.2.2.2.2.2.1) (.exit 0) (fun v => (v.2.2.1 + (cnt (v.1.1.drop (max v.2.2.2.2.2.1.toNat (v.1.1.length - v.2.1.toNat))) : Nat), ())) (same k80c)
def mu80 : denA k80c → Nat := fun v => (v.2.2.2.2.1 - v.2.2.2.2.2.1).toNat
abbrev k80 : List Shp := [rB, bI]
def pre80f (l : List Bool) (f : Int) : Bool := decide (l.length ≤ 1000 ∧ 1 ≤ f ∧ f ≤ 16)
def T5 : Table := ext 80 (entV k80 (specP k80 [sI] (fun v => pre80f v.1.1 v.2.1) fun v => ((last v.1.1 v.2.1.toNat : Nat), ()))) T0
abbrev k36b : List Shp := [rB, sI, sI]
def pre36b (l : List Bool) (n i : Int) : Bool := decide (l.length ≤ 1000 ∧ 0 ≤ n ∧ n ≤ 1000 + i ∧ 0 ≤ i ∧ i ≤ 1000)
def c36b : SpecC k36b := cut1 k36b [sI] (fun v => pre36b v.1.1 v.2.1 v.2.2.1) (.exit 2) (fun v => (v.2.1 + (cnt (v.1.1.drop v.2.2.1.toNat) : Nat), ())) (same k36b)
def mu36b : denA k36b → Nat := fun v => (v.1.1.length - v.2.2.1).toNat
abbrev k36a : List Shp := [rB, sI, bI, cntF, oB, sI, sI]
def pre36a (l : List Bool) (need f g : Int) (more : List Bool) (n k : Int) : Bool := decide (f = g ∧ l.length ≤ 16 ∧ 1 ≤ f ∧ f ≤ l.length ∧ 1 ≤ need ∧ need ≤ 16 ∧ n = f - 1 ∧ 0 ≤ k ∧ k ≤ n ∧ more = l ++ List.replicate k.toNat true)
def c36a : SpecC k36a := cut2 k36a [.un] [sI] (fun v => pre36a v.1.1 v.2.1 v.2.2.1 v.2.2.2.1.1 v.2.2.2.2.1.1 v.2.2.2.2.2.1 v.2.2.2.2.2.2.1)
  (fun v => !soonK (fun j => last v.1.1 (v.2.2.1.toNat - j)) v.2.1 (v.2.2.2.2.2.1 - v.2.2.2.2.2.2.1).toNat (v.2.2.2.2.2.2.1.toNat + 1)) (.exit 0) .ret (fun _ => ((), ())) (fun _ => (0, ())) (same k36a) (same k36a)
def mu36a : denA k36a → Nat := fun v => (v.2.2.2.2.2.1 - v.2.2.2.2.2.2.1).toNat
abbrev k36 : List Shp := [rB, sI, sI]
def pre36 (l : List Bool) (need f : Int) : Bool := decide (l.length ≤ 16 ∧ ruleS need f = 0)
def TF : Table :=
  ext 34 (entV k34 (specP k34 [sI, sI, sI] (fun v => preN v.1.1) fun v => ((runS v.1.1 v.2.1 v.2.2.1).1, (runS v.1.1 v.2.1 v.2.2.1).2.1, (runS v.1.1 v.2.1 v.2.2.1).2.2, ()))) <|
  ext 36 (entV k36 (specP k36 [sI] (fun v => pre36 v.1.1 v.2.1 v.2.2.1) fun v => (whatL v.1.1 v.2.1 v.2.2.1.toNat, ()))) <|
  ext 28 (entV [sI, sI, sI] (specP [sI, sI, sI] [sB] (fun _ => true) fun v => (decide (v.2.1 ≤ v.1 ∧ v.1 ≤ v.2.2.1), ()))) <|
  ext 35 (entV [sI, sI] (specP [sI, sI] [sI] (fun _ => true) fun v => (ruleS v.1 v.2.1, ()))) T0
/-! ### The law -/
abbrev k6 : List Shp := [rB, sI, sI, sI, sI, sI, sI]
def pre6 (l : List Bool) (need f n x e k : Int) : Bool := decide (l.length ≤ 16 ∧ ruleS need f = 0 ∧ e = 0 ∧ 1 ≤ k ∧ k ≤ l.length + 1 ∧ (n, x) = (outK l need f (k - 1)).getD (0, 0))
def c6 : SpecC k6 := cut2 k6 [.un] [sB] (fun v => pre6 v.1.1 v.2.1 v.2.2.1 v.2.2.2.1 v.2.2.2.2.1 v.2.2.2.2.2.1 v.2.2.2.2.2.2.1) (fun v => (outK v.1.1 v.2.1 v.2.2.1 (v.2.2.2.2.2.2.1 - 1)).isNone) (.exit 0) .ret (fun _ => ((), ())) (fun _ => (true, ())) (same k6) (same k6)
def mu6 : denA k6 → Nat := fun v => (v.1.1.length + 1 - v.2.2.2.2.2.2.1).toNat
end Go.Proofs.YtpndjpjpmcehbaaBr
