/- What is laid here: a plain evaluator of the code's operations over values whose memory is told by lists (no world in it): it says what a function computes, cut by cut. Definitions alone; no condition. -/
import Derived.Orders
import Derived.Tactics
import Derived.KernelRfl
import Derived.Laws.FloatArith
namespace Go.Proofs.YtokephobkllfgaaDoorEv
open Go

/-- The kinds of what lies in a row: whole numbers, bools, strings, and pairs of these (a struct is its fields' pair). -/
inductive Kd where
  | int (k : IntKind)
  | bool
  | str
  | flt (k : FloatKind)
  | pair (a b : Kd)
  deriving DecidableEq
@[reducible] def Kd.den : Kd → Type
  | .int _ => Int
  | .bool => Bool
  | .str => ByteArray
  | .flt _ => Nat
  | .pair a b => a.den × b.den
def Kd.sz : Kd → Nat
  | .pair a b => a.sz + b.sz
  | _ => 1
def Kd.vals : (k : Kd) → k.den → List Value
  | .int k, n => [.int k n]
  | .bool, b => [.bool b]
  | .str, s => [.string s]
  | .flt k, n => [.float k n]
  | .pair a b, x => a.vals x.1 ++ b.vals x.2
def Kd.parse : (k : Kd) → List Value → Option (k.den × List Value)
  | .int k, .int k' n :: r => if k = k' then some (n, r) else none
  | .bool, .bool b :: r => some (b, r)
  | .str, .string s :: r => some (s, r)
  | .flt k, .float k' n :: r => if k = k' then some (n, r) else none
  | .pair a b, vs =>
    match a.parse vs with
    | some (x, r) => (match b.parse r with
      | some (y, r) => some ((x, y), r)
      | none => none)
    | none => none
  | _, _ => none
def Kd.parseAll (k : Kd) : Nat → List Value → Option (List k.den)
  | 0, [] => some []
  | n + 1, vs =>
    match k.parse vs with
    | some (x, r) => (match k.parseAll n r with
      | some xs => some (x :: xs)
      | none => none)
    | none => none
  | _, _ => none

/-- A value: an address is a block's number and a place in it. -/
inductive PV where
  | sc (v : Value)
  | ptr (i e sz j : Nat)
  | sl (i e sz len lo : Nat) (full nl : Bool)
  | fn (f : Nat) (caps : List PV)
  | agg (cs : List PV)
  | arr (k : Kd) (n : Nat) (xs : List k.den)
  | tup (cs : List PV)
  | undef

inductive Blk where
  | dead
  | fix (own : Bool) (cs : List PV)
  | row (own : Bool) (k : Kd) (xs : List k.den)
  /-- Cells, then N elements of a kind, then cells. -/
  | mix (own : Bool) (pre : List PV) (k : Kd) (N : Nat) (xs : List k.den) (post : List PV)

/-- The package-level tables that the program reads: where they lie, what they hold. -/
def gTab : List (Nat × IntKind × List Int) := [(1, .u64, [1, 10, 100, 1000, 10000, 100000, 1000000, 10000000, 100000000, 1000000000, 10000000000, 100000000000, 1000000000000, 10000000000000, 100000000000000, 1000000000000000, 10000000000000000, 100000000000000000, 1000000000000000000, 10000000000000000000]), (6, .u8, [0, 1, 28, 2, 29, 14, 24, 3, 30, 22, 20, 15, 25, 17, 4, 8, 31, 27, 13, 23, 21, 19, 16, 7, 26, 12, 18, 6, 11, 5, 10, 9]), (7, .u8, [0, 1, 56, 2, 57, 49, 28, 3, 61, 58, 42, 50, 38, 29, 17, 4, 62, 47, 59, 36, 45, 43, 51, 22, 53, 39, 33, 30, 24, 18, 12, 5, 63, 55, 48, 27, 60, 41, 37, 16, 46, 35, 44, 21, 52, 32, 23, 11, 54, 26, 40, 15, 34, 20, 31, 10, 25, 14, 19, 9, 13, 8, 7, 6])]

structure St where
  env : List (Nat × PV)
  heap : List Blk

/-- What an operation has read (block numbers), changed, and made. -/
structure Chg where
  rd : List Nat
  up : List (Nat × Blk)
  nw : List Blk

def bindO {α R : Type} (o : Option α) (K : α → Option R) : Option R :=
  match o with
  | some x => K x
  | none => none
def guardB {R : Type} (b : Bool) (x : Option R) : Option R := bif b then x else none

def look : List (Nat × PV) → Nat → PV
  | [], _ => .undef
  | (s, p) :: r, t => bif Nat.beq s t then p else look r t
def ofV : Value → PV
  | .agg cs => .agg (cs.toList.map .sc)
  | .tuple _ => .undef
  | v => .sc v
def opd (env : List (Nat × PV)) : Operand → PV
  | .tmp t => look env t
  | .const v => ofV v
  | .global g => .sc (.pointer (some ⟨g, 0, none⟩))
  | .func f => .fn f []
def getB : List Blk → Nat → Option Blk
  | [], _ => none
  | B :: _, 0 => some B
  | _ :: r, n + 1 => getB r n
def setB : List Blk → Nat → Blk → List Blk
  | [], _, _ => []
  | _ :: r, 0, B => B :: r
  | A :: r, n + 1, B => A :: setB r n B
def setBs : List Blk → List (Nat × Blk) → List Blk
  | H, [] => H
  | H, (i, B) :: r => setBs (setB H i B) r
def Chg.apply (c : Chg) (H : List Blk) : List Blk := setBs H c.up ++ c.nw

/-- A value's cells, as a variable holds them. -/
def scs (vs : List Value) : List PV := vs.map .sc
def one1 : PV → Bool
  | .sc v => v.oneCell'
  | .ptr _ _ _ _ => true
  | .sl _ _ _ _ _ _ _ => true
  | .fn _ _ => true
  | _ => false
def cells1 : PV → Option (List PV)
  | .sc v => bif v.oneCell' then some [.sc v] else none
  | .ptr i e sz j => some [.ptr i e sz j]
  | .sl i e sz len lo full nl => some [.sl i e sz len lo full nl]
  | .fn f caps => some [.fn f caps]
  | .agg cs => bif cs.all one1 then some cs else none
  | .arr k _ xs => some (scs (xs.flatMap k.vals))
  | _ => none
def unsc : List PV → Option (List Value)
  | [] => some []
  | .sc v :: r => (match unsc r with
    | some vs => some (v :: vs)
    | none => none)
  | _ => none

/-! ### Types -/
section types
variable (P : Program)
def sizeT (t : TypeId) : Option Nat := (P.info? t).map (·.size)
def aggT (t : TypeId) : Bool :=
  match P.underlying t with
  | some (.struct _) => true
  | some (.array _ _) => true
  | _ => false
def structT (t : TypeId) : Bool :=
  match P.underlying t with
  | some (.struct _) => true
  | _ => false
def kdOf : Nat → TypeId → Option Kd
  | 0, _ => none
  | d + 1, t =>
    match P.underlying t with
    | some (.int k) => some (.int k)
    | some .bool => some .bool
    | some .string => some .str
    | some (.float k) => some (.flt k)
    | some (.struct fs) => fields fs.toList (kdOf d)
    | _ => none
where
  fields : List Field → (TypeId → Option Kd) → Option Kd
    | [], _ => none
    | [f], g => g f.type
    | f :: r, g =>
      match g f.type, fields r g with
      | some a, some b => some (.pair a b)
      | _, _ => none
def baseKd : Nat → TypeId → Option Kd
  | 0, _ => none
  | d + 1, t =>
    match P.underlying t with
    | some (.array _ e) => baseKd d e
    | _ => kdOf P 8 t
/-- An array type's base kind. -/
def rowKd (t : TypeId) : Option Kd :=
  match P.underlying t with
  | some (.array _ e) => baseKd P 8 e
  | _ => none
def oneOf : List PV → Option PV
  | [c] => some c
  | _ => none
/-- A value of type t out of its cells. -/
def ofCells (t : TypeId) (cs : List PV) : Option PV :=
  match P.underlying t with
  | some (.struct _) => some (.agg cs)
  | some (.array _ _) =>
    (match rowKd P t with
     | some k => (match unsc cs with
       | some vs => (match k.parseAll (cs.length / k.sz) vs with
         | some xs => some (.arr k (cs.length / k.sz) xs)
         | none => none)
       | none => none)
     | none => some (.agg cs))
  | some _ => oneOf cs
  | none => none
def zeroCells (t : TypeId) : Option (List PV) :=
  match (P.info? t).bind (·.zero) with
  | some v => cells1 (ofV v)
  | none => none
def zeroPV (t : TypeId) : Option PV :=
  match zeroCells P t with
  | some cs => ofCells P t cs
  | none => none
end types
def blkOf (own : Bool) : PV → Option Blk
  | .arr k _ xs => some (.row own k xs)
  | p => (match cells1 p with
    | some cs => some (.fix own cs)
    | none => none)
/-- Of a struct that holds a long array of structs: where it lies, its kind, how many. -/
def mixOf (P : Program) (t : TypeId) : Option (Nat × Kd × Nat) :=
  match P.underlying t with
  | some (.struct fs) => first fs.toList
  | _ => none
where
  first : List Field → Option (Nat × Kd × Nat)
    | [] => none
    | f :: r =>
      match P.underlying f.type with
      | some (.array n el) =>
        (match kdOf P 8 el with
         | some (.pair a b) => bif Nat.ble 9 n then some (f.offset, .pair a b, n) else first r
         | _ => first r)
      | _ => first r
def mixB (own : Bool) (o : Nat) (k : Kd) (N : Nat) : PV → Option Blk
  | .agg cs =>
    bif cs.all one1 && Nat.ble (o + N * k.sz) cs.length then
      (match unsc ((cs.drop o).take (N * k.sz)) with
       | some vs => (match k.parseAll N vs with
         | some xs => some (.mix own (cs.take o) k N xs (cs.drop (o + N * k.sz)))
         | none => none)
       | none => none)
    else none
  | _ => none
def blkOfT (P : Program) (t : TypeId) (own : Bool) (p : PV) : Option Blk :=
  match mixOf P t with
  | some (o, k, N) => mixB own o k N p
  | none => blkOf own p
/-- The first address in a block. -/
def ptrTo (i : Nat) : Blk → PV
  | .row _ k _ => .ptr i 0 k.sz 0
  | _ => .ptr i 0 1 0

def splice {α : Type} (xs : List α) (j : Nat) (ys : List α) : List α := xs.take j ++ (ys ++ xs.drop (j + ys.length))

section ops
variable (P : Program) {R : Type}

def evLoad (H : List Blk) (t : TypeId) (a : PV) (K : PV → Chg → Option R) : Option R :=
  match a with
  | .ptr i e sz j =>
    (match getB H i with
     | some (.fix _ cs) =>
       (match sizeT P t with
        | some n => guardB (Nat.beq ((cs.drop (e * sz + j)).take n).length n) (bindO (ofCells P t ((cs.drop (e * sz + j)).take n)) fun p => K p ⟨[i], [], []⟩)
        | none => none)
     | some (.mix _ pre k N xs post) =>
       (match sizeT P t with
        | some n =>
          bif Nat.beq sz 1 then
            guardB (Nat.beq e 0) <|
            bif Nat.ble (j + n) pre.length then
              guardB (Nat.beq ((pre.drop j).take n).length n) (bindO (ofCells P t ((pre.drop j).take n)) fun p => K p ⟨[i], [], []⟩)
            else bif Nat.ble (pre.length + N * k.sz) j then
              guardB (decide (xs.length = N)) (guardB (Nat.beq ((post.drop (j - (pre.length + N * k.sz))).take n).length n) (bindO (ofCells P t ((post.drop (j - (pre.length + N * k.sz))).take n)) fun p => K p ⟨[i], [], []⟩))
            else
              (match rowKd P t with
               | some k' => guardB (decide (k' = k) && Nat.beq j pre.length && Nat.beq n (N * k.sz)) (guardB (decide (xs.length = N)) (K (.arr k N xs) ⟨[i], [], []⟩))
               | none => none)
          else
            guardB (Nat.beq sz k.sz && Nat.ble pre.length j) (bindO xs[e]? fun x =>
              guardB (Nat.beq (((k.vals x).drop (j - pre.length)).take n).length n) (bindO (ofCells P t (scs (((k.vals x).drop (j - pre.length)).take n))) fun p => K p ⟨[i], [], []⟩))
        | none => none)
     | some (.row _ k xs) =>
       (match sizeT P t with
        | some n =>
          (match rowKd P t with
           | some k' => guardB (decide (k' = k) && Nat.beq sz k.sz && Nat.beq j 0 && Nat.beq (n / k.sz * k.sz) n) (guardB (decide (e + n / k.sz ≤ xs.length)) (K (.arr k (n / k.sz) ((xs.drop e).take (n / k.sz))) ⟨[i], [], []⟩))
           | none => guardB (Nat.beq sz k.sz) (bindO xs[e]? fun x =>
              guardB (Nat.beq (((k.vals x).drop j).take n).length n) (bindO (ofCells P t (scs (((k.vals x).drop j).take n))) fun p => K p ⟨[i], [], []⟩)))
        | none => none)
     | _ => none)
  | _ => none

def evStore (H : List Blk) (t : TypeId) (a v : PV) (K : Chg → Option R) : Option R :=
  match a with
  | .ptr i e sz j =>
    (match getB H i with
     | some (.fix true cs) =>
       (match sizeT P t, cells1 v with
        | some n, some vs => guardB (Nat.beq vs.length n && Nat.ble (e * sz + j + n) cs.length) (K ⟨[i], [(i, .fix true (splice cs (e * sz + j) vs))], []⟩)
        | _, _ => none)
     | some (.mix true pre k N xs post) =>
       (match sizeT P t, cells1 v with
        | some n, some vs =>
          bif Nat.beq sz 1 then
            guardB (Nat.beq e 0 && Nat.beq vs.length n) <|
            bif Nat.ble (j + n) pre.length then K ⟨[i], [(i, .mix true (splice pre j vs) k N xs post)], []⟩
            else guardB (Nat.ble (pre.length + N * k.sz) j && Nat.ble (j - (pre.length + N * k.sz) + n) post.length) (guardB (decide (xs.length = N)) (K ⟨[i], [(i, .mix true pre k N xs (splice post (j - (pre.length + N * k.sz)) vs))], []⟩))
          else
            (match unsc vs with
             | some us => guardB (Nat.beq sz k.sz && Nat.ble pre.length j && Nat.beq us.length n && Nat.ble (j - pre.length + n) k.sz) (bindO xs[e]? fun x =>
                 match k.parse (splice (k.vals x) (j - pre.length) us) with
                 | some (y, _) => K ⟨[i], [(i, .mix true pre k N (xs.set e y) post)], []⟩
                 | none => none)
             | none => none)
        | _, _ => none)
     | some (.row true k xs) =>
       (match sizeT P t with
        | some n =>
          (match v with
           | .arr k' m ys =>
             if h : k' = k then
               guardB (Nat.beq sz k.sz && Nat.beq j 0 && Nat.beq (m * k.sz) n) (guardB (decide (e + m ≤ xs.length)) (K ⟨[i], [(i, .row true k (splice xs e (h ▸ ys)))], []⟩))
             else none
           | v =>
             (match cells1 v with
              | some cs =>
                (match unsc cs with
                 | some vs => guardB (Nat.beq sz k.sz && Nat.beq vs.length n && Nat.ble (j + n) k.sz) (bindO xs[e]? fun x =>
                     match k.parse (splice (k.vals x) j vs) with
                     | some (y, _) => K ⟨[i], [(i, .row true k (xs.set e y))], []⟩
                     | none => none)
                 | none => none)
              | none => none))
        | none => none)
     | _ => none)
  | _ => none

def evAlloc (t : TypeId) (n : Nat) (p : Option PV) (K : PV → Chg → Option R) : Option R :=
  match p with
  | some p => (match blkOfT P t true p with
    | some B => K (ptrTo n B) ⟨[], [], [B]⟩
    | none => none)
  | none => none

def evField (t : TypeId) (x : PV) (f : Nat) : Option PV :=
  match P.underlying t, x with
  | some (.struct fs), .agg cs =>
    (match fs[f]? with
     | some fd => (match sizeT P fd.type with
       | some n => bif Nat.beq ((cs.drop fd.offset).take n).length n then ofCells P fd.type ((cs.drop fd.offset).take n) else none
       | none => none)
     | none => none)
  | _, _ => none
def evFieldAddr (t : TypeId) (x : PV) (f : Nat) : Option PV :=
  match P.underlying t, x with
  | some (.struct fs), .ptr i e sz j =>
    (match fs[f]? with
     | some fd => (match sizeT P fd.type with
       | some (_ + 1) => some (.ptr i e sz (j + fd.offset))
       | _ => none)
     | none => none)
  | _, _ => none
def evIndexAddr (t : TypeId) (x ix : PV) (K : PV → Option R) : Option R :=
  match P.underlying t, x, ix with
  | some (.array n el), .ptr i e sz j, .sc (.int _ q) =>
    (match sizeT P el with
     | some s =>
       bif Nat.beq sz 1 && (Nat.beq e 0 && (!Nat.beq s 1 && structT P el)) then guardB (decide (0 ≤ q) && decide (q < (n : Int))) (K (.ptr i q.toNat s j))
       else guardB (Nat.beq (s / sz * sz) s) (guardB (decide (0 ≤ q) && decide (q < (n : Int))) (K (.ptr i (e + q.toNat * (s / sz)) sz j)))
     | none => none)
  | some (.slice el), .sl i e sz len _ _ _, .sc (.int _ q) =>
    (match sizeT P el with
     | some s => guardB (Nat.beq s sz) (guardB (decide (0 ≤ q) && decide (q < (len : Int))) (K (.ptr i (e + q.toNat) sz 0)))
     | none => none)
  | _, _, _ => none
/-- One element as a value of type t. -/
def elemPV (t : TypeId) (k : Kd) (x : k.den) : Option PV := ofCells P t (scs (k.vals x))
def evIndex (t : TypeId) (x ix : PV) (K : PV → Option R) : Option R :=
  match P.underlying t, x, ix with
  | some (.array n el), .arr k m xs, .sc (.int _ q) =>
    (match sizeT P el with
     | some s =>
       (match rowKd P el with
        | some k' => guardB (decide (k' = k) && Nat.beq (s / k.sz * k.sz) s && Nat.beq (n * (s / k.sz)) m) (guardB (decide (0 ≤ q) && decide (q < (n : Int))) (K (.arr k (s / k.sz) ((xs.drop (q.toNat * (s / k.sz))).take (s / k.sz)))))
        | none => guardB (Nat.beq s k.sz && Nat.beq n m) (guardB (decide (0 ≤ q) && decide (q < (n : Int))) (bindO xs[q.toNat]? fun x => bindO (elemPV P el k x) K)))
     | none => none)
  | some (.array n el), .agg cs, .sc (.int _ q) =>
    (match sizeT P el with
     | some s => guardB (decide (0 ≤ q) && decide (q < (n : Int))) (guardB (Nat.beq ((cs.drop (q.toNat * s)).take s).length s) (bindO (ofCells P el ((cs.drop (q.toNat * s)).take s)) K))
     | none => none)
  | some .string, .sc (.string s), .sc (.int _ q) => guardB (decide (0 ≤ q)) (bindO s[q.toNat]? fun b => K (.sc (.int .u8 b.toNat)))
  | _, _, _ => none

def placeAll (zero : List PV) (place : Nat → Option (Nat × Nat)) : List (Nat × PV) → Option (List PV)
  | [] => some zero
  | (i, v) :: r =>
    match place i, cells1 v with
    | some (off, size), some cs => bif Nat.beq cs.length size && Nat.ble (off + size) zero.length then placeAll (splice zero off cs) place r else none
    | _, _ => none
def placeF (fs : Array Field) (i : Nat) : Option (Nat × Nat) :=
  match fs[i]? with
  | some f => (match sizeT P f.type with
    | some n => some (f.offset, n)
    | none => none)
  | none => none
def evBuild (t : TypeId) (parts : List (Nat × PV)) : Option PV :=
  match zeroCells P t, P.underlying t with
  | some z, some (.struct fs) =>
    bif !(fs.toList.all fun f => (sizeT P f.type).isSome) then none else
    (match placeAll z (placeF P fs) parts with
     | some cs => some (.agg cs)
     | none => none)
  | some z, some (.array _ el) =>
    (match sizeT P el with
     | some s => (match placeAll z (fun i => some (i * s, s)) parts with
       | some cs => ofCells P t cs
       | none => none)
     | none => none)
  | _, _ => none
def repCells (z : List PV) : Nat → List PV
  | 0 => []
  | n + 1 => z ++ repCells z n
def evBuildSlice (n : Nat) (t : TypeId) (len : Nat) (parts : List (Nat × PV)) (K : PV → Chg → Option R) : Option R :=
  match P.underlying t with
  | some (.slice el) =>
    (match sizeT P el, zeroCells P el with
     | some s, some z =>
       (match placeAll (repCells z len) (fun i => some (i * s, s)) parts with
        | some cs => guardB (Nat.ble (len * s) 16777216 && Nat.ble len 9223372036854775807 && Nat.beq z.length s)
          (match kdOf P 8 el with
           | some k =>
             (match unsc cs with
              | some vs => (match k.parseAll len vs with
                | some xs => guardB (Nat.beq k.sz s) (K (.sl n 0 s len len true false) ⟨[], [], [.row true k xs]⟩)
                | none => none)
              | none => none)
           | none => K (.sl n 0 s len len true false) ⟨[], [], [.fix true cs]⟩)
        | none => none)
     | _, _ => none)
  | _ => none

/-! ### Operators -/
def evArith (op : BinOp) (k : IntKind) (a b : Int) (K : PV → Option R) : Option R :=
  match op with
  | .add => K (.sc (.int k (k.wrap (a + b))))
  | .sub => K (.sc (.int k (k.wrap (a - b))))
  | .mul => K (.sc (.int k (k.wrap (a * b))))
  | .quo => guardB (!decide (b = 0)) (K (.sc (.int k (k.wrap (a.tdiv b)))))
  | .rem => guardB (!decide (b = 0)) (K (.sc (.int k (a.tmod b))))
  | .and => K (.sc (.int k (k.wrap (BitVec.ofInt k.bits a &&& BitVec.ofInt k.bits b).toNat)))
  | .or => K (.sc (.int k (k.wrap (BitVec.ofInt k.bits a ||| BitVec.ofInt k.bits b).toNat)))
  | .xor => K (.sc (.int k (k.wrap (BitVec.ofInt k.bits a ^^^ BitVec.ofInt k.bits b).toNat)))
  | .andNot => K (.sc (.int k (k.wrap (BitVec.ofInt k.bits a &&& ~~~BitVec.ofInt k.bits b).toNat)))
  | .eql => K (.sc (.bool (a == b)))
  | .neq => K (.sc (.bool (a != b)))
  | .lss => K (.sc (.bool (decide (a < b))))
  | .leq => K (.sc (.bool (decide (a ≤ b))))
  | .gtr => K (.sc (.bool (decide (a > b))))
  | .geq => K (.sc (.bool (decide (a ≥ b))))
  | _ => none
def evStrOp (op : BinOp) (x y : ByteArray) (K : PV → Option R) : Option R :=
  match op with
  | .add => guardB (Nat.ble (x.size + y.size) 9223372036854775807) (K (.sc (.string (x ++ y))))
  | .eql => K (.sc (.bool (decide (x = y))))
  | .neq => K (.sc (.bool !(decide (x = y))))
  | .lss => K (.sc (.bool (Op.bytesLess x.data.toList y.data.toList)))
  | .leq => K (.sc (.bool (Op.bytesLess x.data.toList y.data.toList || decide (x = y))))
  | .gtr => K (.sc (.bool !(Op.bytesLess x.data.toList y.data.toList || decide (x = y))))
  | .geq => K (.sc (.bool !Op.bytesLess x.data.toList y.data.toList))
  | _ => none
/-- Two values of a type without addresses, field by field. -/
def eqCells (P : Program) : Nat → TypeId → List Value → List Value → Option Bool
  | 0, _, _, _ => none
  | d + 1, t, xs, ys =>
    match P.underlying t with
    | some (.int k) => (match xs, ys with
      | [.int i a], [.int j b] => bif decide (i = k) && decide (j = k) then some (a == b) else none
      | _, _ => none)
    | some .bool => (match xs, ys with
      | [.bool a], [.bool b] => some (a == b)
      | _, _ => none)
    | some .string => (match xs, ys with
      | [.string a], [.string b] => some (decide (a = b))
      | _, _ => none)
    | some (.struct fs) => bif P.stoodInHeld t then none else flds fs.toList xs ys (fun t' n a b => bif Nat.beq a.length n && Nat.beq b.length n && Nat.beq (match sizeT P t' with | some m => m | none => 0) n then eqCells P d t' a b else none)
    | _ => none
where
  flds : List Field → List Value → List Value → (TypeId → Nat → List Value → List Value → Option Bool) → Option Bool
    | [], _, _, _ => some true
    | f :: r, xs, ys, g =>
      bif decide (f.name = "_") then flds r xs ys g else
      match sizeT P f.type with
      | some n => (match g f.type n ((xs.drop f.offset).take n) ((ys.drop f.offset).take n), flds r xs ys g with
        | some a, some b => some (a && b)
        | _, _ => none)
      | none => none
def evEq (t : TypeId) (x y : PV) : Option Bool :=
  match x, y with
  | .sc (.bool a), .sc (.bool b) => (match P.underlying t with
    | some .bool => some (a == b)
    | _ => none)
  | .agg xs, .agg ys =>
    bif P.eqGuardType P.depth t then none else
    (match unsc xs, unsc ys with
     | some us, some vs => (match P.underlying t with
       | some (.struct _) => eqCells P 10 t us vs
       | _ => none)
     | _, _ => none)
  | .sc (.pointer none), .sc (.pointer none) => (match P.underlying t with
    | some (.pointer _) => some true
    | _ => none)
  | .ptr _ _ _ _, .sc (.pointer none) => (match P.underlying t with
    | some (.pointer _) => some false
    | _ => none)
  | .sc (.pointer none), .ptr _ _ _ _ => (match P.underlying t with
    | some (.pointer _) => some false
    | _ => none)
  | .sc (.slice none _ _), .sc (.slice none _ _) => (match P.underlying t with
    | some (.slice _) => some true
    | _ => none)
  | .sl _ _ _ _ _ _ nl, .sc (.slice none _ _) => (match P.underlying t with
    | some (.slice _) => some nl
    | _ => none)
  | _, _ => none
/-- Comparison of floats. -/
def fltCmp (op : BinOp) (k : FloatKind) (a b : Nat) : Option Bool :=
  match op with
  | .eql => some (k.format.order a b == some .eq)
  | .neq => some (k.format.order a b != some .eq)
  | .lss => some (k.format.order a b == some .lt)
  | .leq => some (k.format.order a b == some .lt || k.format.order a b == some .eq)
  | .gtr => some (k.format.order a b == some .gt)
  | .geq => some (k.format.order a b == some .gt || k.format.order a b == some .eq)
  | _ => none
def evFlt (op : BinOp) (k : FloatKind) (a b : Nat) (K : PV → Option R) : Option R :=
  match op with
  | .add => bindO (floatBits .add k a b) fun r => K (.sc (.float k r))
  | .sub => bindO (floatBits .sub k a b) fun r => K (.sc (.float k r))
  | .mul => bindO (floatBits .mul k a b) fun r => K (.sc (.float k r))
  | .quo => bindO (floatBits .quo k a b) fun r => K (.sc (.float k r))
  | op => bindO (fltCmp op k a b) fun c => K (.sc (.bool c))
def evBin (op : BinOp) (t : TypeId) (x y : PV) (K : PV → Option R) : Option R :=
  match x, y with
  | .sc (.float k a), .sc (.float k' b) => guardB (decide (k = k')) (evFlt op k a b K)
  | .sc (.int k a), .sc (.int k' b) =>
    (match op with
     | .shl => guardB (decide (0 ≤ b)) (K (.sc (.int k (k.wrap (a * 2 ^ min b.toNat k.bits)))))
     | .shr => guardB (decide (0 ≤ b)) (K (.sc (.int k (a.fdiv (2 ^ min b.toNat k.bits)))))
     | op => guardB (decide (k = k')) (evArith op k a b K))
  | .sc (.string a), .sc (.string b) => evStrOp op a b K
  | x, y =>
    (match op with
     | .eql => bindO (evEq P t x y) fun b => K (.sc (.bool b))
     | .neq => bindO (evEq P t x y) fun b => K (.sc (.bool (!b)))
     | _ => none)
def evUn (op : UnOp) (x : PV) (K : PV → Option R) : Option R :=
  match op, x with
  | .neg, .sc (.int k n) => K (.sc (.int k (k.wrap (0 - n))))
  | .not, .sc (.bool b) => K (.sc (.bool (!b)))
  | .neg, .sc (.float k b) => K (.sc (.float k (Op.negFloat k b)))
  | _, _ => none
def evConvert (src dst : TypeId) (x : PV) (K : PV → Option R) : Option R :=
  match P.underlying src, P.underlying dst, x with
  | some (.int _), some (.int k), .sc (.int _ n) => K (.sc (.int k (k.wrap n)))
  | some .string, some .string, .sc (.string s) => K (.sc (.string s))
  | some (.int _), some (.float k), .sc (.int _ n) => K (.sc (.float k (k.nearest n)))
  | some (.float _), some (.int k), .sc (.float s b) => bindO (floatToIntVal s b k) fun n => K (.sc (.int k n))
  | _, _, _ => none
def evPick (c a b : PV) (K : PV → Option R) : Option R :=
  match c, a, b with
  | .sc (.bool c), .sc (.bool x), .sc (.bool y) => K (.sc (.bool (bif c then x else y)))
  | .sc (.bool c), a, b => bif c then K a else K b
  | _, _, _ => none
def numO (d : Int) (o : Option PV) (K : Int → Option R) : Option R :=
  match o with
  | none => K d
  | some (.sc (.int _ q)) => K q
  | some _ => none
def evSlice (t : TypeId) (x : PV) (low high max : Option PV) (K : PV → Option R) : Option R :=
  match P.underlying t, x with
  | some (.slice el), .sl i e sz len lo full nl =>
    guardB (match sizeT P el with
      | some s => Nat.beq s sz
      | none => false) <|
    numO 0 low fun l => numO len high fun h =>
      (match max with
       | none => guardB (decide (0 ≤ l) && decide (l ≤ h) && decide (h ≤ (lo : Int))) (K (.sl i (e + l.toNat) sz (h.toNat - l.toNat) (lo - l.toNat) (full && decide (h = (len : Int))) nl))
       | some (.sc (.int _ m)) => guardB (high.isSome && decide (0 ≤ l) && decide (l ≤ h) && decide (h ≤ m) && decide (m ≤ (lo : Int))) (K (.sl i (e + l.toNat) sz (h.toNat - l.toNat) (m.toNat - l.toNat) (decide (h = m)) nl))
       | some _ => none)
  | some (.slice el), .sc (.slice none 0 0) =>
    guardB (sizeT P el).isSome <|
    numO 0 low fun l => numO 0 high fun h =>
      (match max with
       | none => guardB (decide (l = 0) && decide (h = 0)) (K (.sc (.slice none 0 0)))
       | some (.sc (.int _ m)) => guardB (high.isSome && decide (l = 0) && decide (h = 0) && decide (m = 0)) (K (.sc (.slice none 0 0)))
       | some _ => none)
  | some .string, .sc (.string s) =>
    numO 0 low fun l => numO s.size high fun h =>
      (match max with
       | none => guardB (decide (0 ≤ l) && decide (l ≤ h) && decide (h ≤ (s.size : Int))) (K (.sc (.string (s.extract l.toNat h.toNat))))
       | some _ => none)
  | _, _ => none
def evMakeSlice (n : Nat) (t : TypeId) (len cap : PV) (K : PV → Chg → Option R) : Option R :=
  match P.underlying t, len, cap with
  | some (.slice el), .sc (.int .i64 l), .sc (.int .i64 c) =>
    (match P.info? el, kdOf P 8 el, (zeroCells P el).bind unsc with
     | some i, some k, some z =>
       (match k.parse z with
        | some (z0, []) => guardB (Nat.beq k.sz i.size) (guardB (decide (0 ≤ l) && decide (l ≤ c) && decide (c * i.bytes ≤ 140737488355328) && decide (c ≤ 9223372036854775807))
          (K (.sl n 0 k.sz l.toNat l.toNat (decide (l = c)) false) ⟨[], [], [.row true k (List.replicate l.toNat z0)]⟩))
        | _ => none)
     | _, _, _ => none)
  | _, _, _ => none
def evLen (t : TypeId) (x : PV) : Option PV :=
  match P.underlying t, x with
  | some .string, .sc (.string s) => some (.sc (.int .i64 s.size))
  | some (.array n _), _ => some (.sc (.int .i64 n))
  | some (.slice _), .sl _ _ _ len _ _ _ => some (.sc (.int .i64 len))
  | some (.slice _), .sc (.slice none l _) => some (.sc (.int .i64 l))
  | _, _ => none
/-- The elements that a slice shows. -/
def rowOf (H : List Blk) (x : PV) (s : Nat) : Option (Bool × Bool × (k : Kd) × List k.den) :=
  match x with
  | .sl i e sz len _ _ _ =>
    (match getB H i with
     | some (.row own k xs) => bif Nat.beq sz k.sz && Nat.beq s sz then some (decide (e + len ≤ xs.length), own, ⟨k, (xs.drop e).take len⟩) else none
     | _ => none)
  | _ => none
/-- append: the slice that was there is no more, or was full. -/
def evAppend (n : Nat) (H : List Blk) (t : TypeId) (s x : PV) (K : PV → Chg → Option R) : Option R :=
  match P.underlying t with
  | some (.slice el) =>
    (match P.info? el with
     | some inf =>
       guardB (match zeroCells P el with
         | some z => Nat.beq z.length inf.size
         | none => false) <|
       (match s, x with
        | .sl i e sz len lo full nl, .sl j e2 sz2 len2 lo2 full2 nl2 =>
          (match rowOf H (.sl i e sz len lo full nl) inf.size, rowOf H (.sl j e2 sz2 len2 lo2 full2 nl2) inf.size with
           | some (in1, own, ⟨k, xs⟩), some (in2, _, ⟨k', ys⟩) =>
             if h : k' = k then
               guardB (in1 && in2 && decide ((len + len2) * inf.bytes ≤ 140737488355328) && decide (len + len2 ≤ 4611686018427387904))
                 (bif full && decide (1 ≤ len2) then K (.sl n 0 sz (len + len2) (len + len2) false false) ⟨[i, j], [], [.row true k (xs ++ (h ▸ ys))]⟩
                  else bif own then K (.sl n 0 sz (len + len2) (len + len2) false (Nat.beq len2 0 && nl)) ⟨[i, j], [(i, .dead)], [.row true k (xs ++ (h ▸ ys))]⟩
                  else none)
             else none
           | _, _ => none)
        | .sc (.slice none 0 0), .sl j e2 sz2 len2 lo2 full2 nl2 =>
          (match rowOf H (.sl j e2 sz2 len2 lo2 full2 nl2) inf.size with
           | some (in2, _, ⟨k, ys⟩) =>
             guardB (in2 && decide (len2 * inf.bytes ≤ 140737488355328) && decide (len2 ≤ 4611686018427387904))
               (K (.sl n 0 sz2 len2 len2 false (Nat.beq len2 0)) ⟨[j], [], [.row true k ys]⟩)
           | none =>
             (match getB H j with
              | some (.fix _ cs) =>
                guardB (Nat.beq e2 0 && Nat.beq sz2 1 && Nat.beq len2 cs.length && Nat.ble 1 len2 && !nl2 && Nat.beq inf.size 1 && decide (len2 * inf.bytes ≤ 140737488355328) && decide (len2 ≤ 4611686018427387904))
                  (K (.sl n 0 1 len2 len2 false false) ⟨[j], [], [.fix true cs]⟩)
              | _ => none))
        | _, _ => none)
     | none => none)
  | _ => none
/-- clear: a slice's elements become zero. -/
def evClear (H : List Blk) (t : TypeId) (x : PV) (K : PV → Chg → Option R) : Option R :=
  match P.underlying t, x with
  | some (.slice el), .sl i e sz len _ _ _ =>
    (match getB H i with
     | some (.row true k xs) =>
       (match P.info? el, (zeroCells P el).bind unsc with
        | some inf, some z =>
          (match k.parse z with
           | some (z0, []) => guardB (Nat.beq sz k.sz && Nat.beq inf.size k.sz) (guardB (decide (e + len ≤ xs.length)) (K (.tup []) ⟨[i], [(i, .row true k (splice xs e (List.replicate len z0)))], []⟩))
           | _ => none)
        | _, _ => none)
     | _ => none)
  | _, _ => none
/-- append of a part of a block of one's own to a part of it: in place, there is room. -/
def selfApp (H : List Blk) (s x : PV) : Bool :=
  match s, x with
  | .sl i _ _ _ _ _ _, .sl j _ _ _ _ _ _ => Nat.beq i j && (match getB H i with
    | some (.row true _ _) => true
    | _ => false)
  | _, _ => false
def evAppendSelf (H : List Blk) (t : TypeId) (s x : PV) (K : PV → Chg → Option R) : Option R :=
  match P.underlying t, s, x with
  | some (.slice el), .sl i e sz len lo _ nl, .sl j e2 sz2 len2 _ _ _ =>
    (match P.info? el, getB H i with
     | some inf, some (.row true k zs) => guardB (Nat.beq i j && Nat.beq sz k.sz && Nat.beq sz2 k.sz && Nat.beq inf.size k.sz) (guardB (decide (e + len + len2 ≤ zs.length) && decide (e2 + len2 ≤ zs.length) && decide (len + len2 ≤ lo)) (K (.sl i e sz (len + len2) lo false nl) ⟨[i], [(i, .row true k (splice zs (e + len) ((zs.drop e2).take len2)))], []⟩))
     | _, _ => none)
  | _, _, _ => none
end ops
end Go.Proofs.YtokephobkllfgaaDoorEv
