/- What is laid here: the evaluator's single operation, its regions (also those whose order is drawn) and its code, over a table of what calls and marked blocks answer. Definitions alone; no condition. -/
import Derived.Test.YtokephobkllfgaaDoorEvA
import Derived.Laws.BytesArg
namespace Go.Proofs.YtokephobkllfgaaDoorEv
open Go

/-! ### Blocks that a value reaches, and values under other block numbers -/
mutual
def refsP : PV → List Nat
  | .ptr i _ _ _ => [i]
  | .sl i _ _ _ _ _ _ => [i]
  | .fn _ caps => refsL caps
  | .agg cs => refsL cs
  | .tup cs => refsL cs
  | _ => []
def refsL : List PV → List Nat
  | [] => []
  | p :: r => refsP p ++ refsL r
end
def refsB : Blk → List Nat
  | .fix _ cs => refsL cs
  | .mix _ pre _ _ _ post => refsL pre ++ refsL post
  | _ => []
def memN (i : Nat) : List Nat → Bool
  | [] => false
  | j :: r => bif Nat.beq i j then true else memN i r
def reach : Nat → List Blk → List Nat → List Nat → List Nat
  | 0, _, _, seen => seen
  | _ + 1, _, [], seen => seen
  | n + 1, H, i :: r, seen =>
    bif memN i seen then reach n H r seen else
    match getB H i with
    | some (.fix _ cs) => reach n H (refsL cs ++ r) (seen ++ [i])
    | some (.row _ _ _) => reach n H r (seen ++ [i])
    | some (.mix _ pre _ _ _ post) => reach n H (refsL pre ++ (refsL post ++ r)) (seen ++ [i])
    | _ => reach n H r seen
def idx : List Nat → Nat → Option Nat
  | [], _ => none
  | j :: r, i => bif Nat.beq j i then some 0 else (match idx r i with
    | some k => some (k + 1)
    | none => none)
mutual
def renP (g : Nat → Option Nat) : PV → PV
  | .ptr i e sz j => (match g i with
    | some k => .ptr k e sz j
    | none => .undef)
  | .sl i e sz len lo full nl => (match g i with
    | some k => .sl k e sz len lo full nl
    | none => .undef)
  | .fn f caps => .fn f (renL g caps)
  | .agg cs => .agg (renL g cs)
  | .tup cs => .tup (renL g cs)
  | p => p
def renL (g : Nat → Option Nat) : List PV → List PV
  | [] => []
  | p :: r => renP g p :: renL g r
end
def renB (g : Nat → Option Nat) : Blk → Blk
  | .fix own cs => .fix own (renL g cs)
  | .mix own pre k N xs post => .mix own (renL g pre) k N xs (renL g post)
  | B => B
def maskB (q : Bool) : Blk → Blk
  | .fix own cs => .fix (bif q then false else own) cs
  | .row own k xs => .row (bif q then false else own) k xs
  | .mix own pre k N xs post => .mix (bif q then false else own) pre k N xs post
  | .dead => .dead
def nth : List Nat → Nat → Option Nat
  | [], _ => none
  | i :: _, 0 => some i
  | _ :: r, k + 1 => nth r k
def sub (a b : Nat) : Nat := a - b
/-- The block numbers of the caller, behind a call that was given the blocks 'ids', where the next free number is n. -/
def backN (ids : List Nat) (n : Nat) (c : Nat) : Option Nat :=
  match nth ids c with
  | some i => some i
  | none => some (n + sub c ids.length)
def blkAt (H : List Blk) (i : Nat) : Blk :=
  match getB H i with
  | some B => B
  | none => .dead
def localH (q : Bool) (H : List Blk) (ids : List Nat) : List Blk := ids.map fun i => maskB q (renB (idx ids) (blkAt H i))
def zipUp (g : Nat → Option Nat) : List Nat → List Blk → Option (List (Nat × Blk) × List Blk)
  | [], H => some ([], H.map (renB g))
  | i :: r, B :: H =>
    (match zipUp g r H with
     | some (up, nw) => some ((i, renB g B) :: up, nw)
     | none => none)
  | _ :: _, [] => none

def nodupB : List Nat → Bool
  | [] => true
  | i :: r => !memN i r && nodupB r
def allLt (n : Nat) : List Nat → Bool
  | [] => true
  | i :: r => Nat.blt i n && allLt n r
/-- What a call answers: under what condition, its value, the memory behind it. -/
abbrev Table := Nat → List PV → List Blk → Option (Bool × List (Bool × PV × List Blk))
/-- The first of several answers whose condition holds. -/
def evAlts {α R : Type} : List (Bool × α) → (α → Option R) → Option R
  | [], _ => none
  | (b, x) :: r, K => bif b then K x else evAlts r K
def pickA {α : Type} : List (Bool × α) → Option α
  | [] => none
  | (b, x) :: r => bif b then some x else pickA r

section
variable (P : Program) {R : Type}
def evCall (T : Table) (q : Bool) (n : Nat) (H : List Blk) (f : Nat) (xs : List PV) (K : PV → Chg → Option R) : Option R :=
  let ids := reach 64 H (refsL xs) []
  guardB (nodupB ids && allLt n ids) <|
  bindO (T f (renL (idx ids) xs) (localH q H ids)) fun r =>
    guardB r.1 <| evAlts r.2 fun r =>
    match zipUp (backN ids n) ids r.2 with
    | some (up, nw) => K (renP (backN ids n) r.1) ⟨ids, bif q then [] else up, nw⟩
    | none => none
def evMax2 (big : Bool) : PV → PV → Option PV
  | .sc (.int k x), .sc (.int _ y) => some (.sc (.int k (bif big then max x y else min x y)))
  | _, _ => none
def evMaxN (big : Bool) : PV → List PV → Option PV
  | p, [] => some p
  | p, q :: r => (match evMax2 big p q with
    | some x => evMaxN big x r
    | none => none)
def evExtract (x : PV) (i : Nat) : Option PV :=
  match x with
  | .tup cs => cs[i]?
  | _ => none
def evNil (x : PV) : Option PV :=
  match x with
  | .ptr i e sz j => some (.ptr i e sz j)
  | .fn f caps => some (.fn f caps)
  | _ => none
/-- The bytes of a string, as a row of them. -/
def bytesI (s : ByteArray) : List Int := s.data.toList.map fun b => (b.toNat : Int)
/-- Conversions, those between strings and rows of bytes among them. -/
def evConv (n : Nat) (H : List Blk) (s d : TypeId) (x : PV) (K : PV → Chg → Option R) : Option R :=
  match P.underlying s, P.underlying d, x with
  | some .string, some (.slice e), .sc (.string b) =>
    (match P.underlying e with
     | some (.int .u8) => guardB (decide (b.size ≤ 9223372036854775807)) (K (.sl n 0 1 b.size b.size false false) ⟨[], [], [.row false (.int .u8) (bytesI b)]⟩)
     | _ => none)
  | some (.slice e), some .string, .sl i e0 sz len lo full nl =>
    (match P.underlying e with
     | some (.int .u8) =>
       (match rowOf H (.sl i e0 sz len lo full nl) 1 with
        | some (in1, _, ⟨.int .u8, xs⟩) => guardB in1 (K (.sc (.string (strOfNums xs))) ⟨[i], [], []⟩)
        | _ => none)
     | _ => none)
  | some (.slice e), some .string, .sc (.slice none 0 0) =>
    (match P.underlying e with
     | some (.int .u8) => K (.sc (.string ByteArray.empty)) ⟨[], [], []⟩
     | _ => none)
  | some (.slice e), some (.slice _), .sl i e0 sz len lo full nl =>
    (match P.underlying e with
     | some (.int .u8) =>
       (match getB H i with
        | some (.row true k xs) => guardB (Nat.beq s d && !nl && !Nat.beq i n && Nat.ble 1 len) (K (.sl n e0 sz len lo full nl) ⟨[i], [(i, .dead)], [.row false k xs]⟩)
        | _ => none)
     | _ => none)
  | _, _, x => evConvert P s d x fun p => K p ⟨[], [], []⟩
def gLook : List (Nat × IntKind × List Int) → Nat → Option (IntKind × List Int)
  | [], _ => none
  | (g, x) :: r, k => bif Nat.beq g k then some x else gLook r k
/-- A place in a package-level table. -/
def gPlace : PV → Option (Nat × Nat)
  | .sc (.pointer (some ⟨g, off, none⟩)) => some (g, off)
  | _ => none
def gBack (K : PV → Option R) (g : Nat) : PV → Option R
  | .ptr i e sz j => bif Nat.beq i 0 then K (.sc (.pointer (some ⟨g, e * sz + j, none⟩))) else none
  | _ => none
def evIndexAddrG (t : TypeId) (x ix : PV) (K : PV → Option R) : Option R :=
  match gPlace x with
  | some (g, off) => (match ix with
    | .sc v => evIndexAddr P t (.ptr 0 off 1 0) (.sc v) (gBack K g)
    | _ => none)
  | none => evIndexAddr P t x ix K
def evFieldAddrG (t : TypeId) (x : PV) (f : Nat) (K : PV → Option R) : Option R :=
  match gPlace x with
  | some (g, off) => bindO (evFieldAddr P t (.ptr 0 off 1 0) f) (gBack K g)
  | none => bindO (evFieldAddr P t x f) K
def scOnly (K : PV → Chg → Option R) (p : PV) (_ : Chg) : Option R :=
  match p with
  | .sc v => K (.sc v) ⟨[], [], []⟩
  | _ => none
def evLoadG (H : List Blk) (t : TypeId) (a : PV) (K : PV → Chg → Option R) : Option R :=
  match gPlace a with
  | some (g, off) => bindO (gLook gTab g) fun x => evLoad P [.row false (.int x.1) x.2] t (.ptr 0 off 1 0) (scOnly K)
  | none => evLoad P H t a K
def evOp (T : Table) (q : Bool) (n : Nat) (H : List Blk) (rho : Operand → PV) (op : Op) (K : PV → Chg → Option R) : Option R :=
  let one (p : PV) : Option R := K p ⟨[], [], []⟩
  match op with
  | .move x => one (rho x)
  | .assign x => one (rho x)
  | .pick c a b => evPick (rho c) (rho a) (rho b) one
  | .alloc t => evAlloc P t n (zeroPV P t) K
  | .box t x => evAlloc P t n (some (rho x)) K
  | .load t a => evLoadG P H t (rho a) K
  | .store t a x => evStore P H t (rho a) (rho x) fun c => K (.sc undef) c
  | .nilCheck x => bindO (evNil (rho x)) one
  | .binOp b t x y _ => evBin P b t (rho x) (rho y) one
  | .unOp u _ x => evUn u (rho x) one
  | .convert s d x => evConv P n H s d (rho x) K
  | .makeFunc (.func f) first caps => bif first.isEmpty then one (.fn f (caps.toList.map rho)) else none
  | .makeSlice t l c => evMakeSlice P n t (rho l) (rho c) K
  | .slice t x lo hi mx => evSlice P t (rho x) (lo.map rho) (hi.map rho) (mx.map rho) one
  | .fieldAddr t x f => evFieldAddrG P t (rho x) f one
  | .field t x f => bindO (evField P t (rho x) f) one
  | .indexAddr t x i => evIndexAddrG P t (rho x) (rho i) one
  | .index t x i => evIndex P t (rho x) (rho i) one
  | .extract x i => bindO (evExtract (rho x) i) one
  | .build t ps => bindO (evBuild P t (ps.toList.map fun x => (x.1, rho x.2))) one
  | .buildSlice t len ps => evBuildSlice P n t len (ps.toList.map fun x => (x.1, rho x.2)) K
  | .call c =>
    (match c.callee with
     | .value f => (match rho f with
       | .fn g caps => evCall T q n H g (c.args.toList.map rho ++ caps) K
       | _ => none)
     | .builtin .len => (match c.argTypes.toList, c.args.toList with
       | [t], [x] => bindO (evLen P t (rho x)) one
       | _, _ => none)
     | .builtin .append => (match c.argTypes.toList, c.args.toList with
       | [t, t2], [s, x] => bif (match P.underlying t2 with
           | some (.slice _) => true
           | _ => false) then (bif selfApp H (rho s) (rho x) then evAppendSelf P H t (rho s) (rho x) K else evAppend P n H t (rho s) (rho x) K) else none
       | _, _ => none)
     | .builtin .clear => (match c.argTypes.toList, c.args.toList with
       | [t], [x] => evClear P H t (rho x) K
       | _, _ => none)
     | .builtin .max => (match c.args.toList with
       | x :: r => bindO (evMaxN true (rho x) (r.map rho)) one
       | _ => none)
     | .builtin .min => (match c.args.toList with
       | x :: r => bindO (evMaxN false (rho x) (r.map rho)) one
       | _ => none)
     | _ => none)
  | _ => none

/-! ### Regions -/
structure Rec where
  pre : Nat
  rd : List Nat
  up : List Nat
  o : Oper
def ups (n : Nat) (c : Chg) : List Nat := c.up.map (·.1) ++ news n c.nw
where
  news : Nat → List Blk → List Nat
    | _, [] => []
    | n, _ :: r => n :: news (n + 1) r
def apartL : List Nat → List Nat → Bool
  | [], _ => true
  | i :: r, l => !memN i l && apartL r l
/-- No operation before this one that may come after it touches what it touches. -/
def free1 (ops : Array Oper) (o : Oper) (pre : Nat) (rd up : List Nat) : Nat → List Rec → Bool
  | _, [] => true
  | j, x :: r => (bif pre.testBit j then true else x.o.apart ops o && apartL up x.rd && apartL up x.up && apartL x.up rd) && free1 ops o pre rd up (j + 1) r
def maskAt : List Rec → Nat → Nat
  | [], _ => 0
  | x :: _, 0 => x.pre
  | _ :: r, j + 1 => maskAt r j
def preOf (rs : List Rec) : List Edge → Nat
  | [] => 0
  | e :: r => bif Region.binds .any e then (2 ^ e.on ||| maskAt rs e.on) ||| preOf rs r else preOf rs r
def edgesLt (i : Nat) : List Edge → Bool
  | [] => true
  | e :: r => (!Region.binds .any e || Nat.blt e.on i) && edgesLt i r
def putE (N : Nat) (env : List (Nat × PV)) (dst : Option Nat) (p : PV) : Option (List (Nat × PV)) :=
  match dst with
  | some d => bif Nat.blt d N then some ((d, p) :: env) else none
  | none => some env
/-- One operation with its guard. -/
def evGuard (ops : List Oper) (o : Oper) (env : List (Nat × PV)) (run skip : List (Nat × PV) → Option R) : Option R :=
  match o.guard with
  | none => run env
  | some (j, want) =>
    (match (ops[j]?).bind (·.dst) with
     | some t =>
       (match look env t with
        | .sc (.bool b) => bif b then (bif want then run ((t, .sc (.bool true)) :: env) else skip ((t, .sc (.bool true)) :: env)) else (bif want then skip ((t, .sc (.bool false)) :: env) else run ((t, .sc (.bool false)) :: env))
        | .sc (.tuple _) => skip env
        | _ => none)
     | none => none)
def evOps (T : Table) (N : Nat) (ops : List Oper) : List Oper → St → (St → Option R) → Option R
  | [], st, K => K st
  | o :: r, st, K =>
    evGuard ops o st.env
      (fun env => evOp P T false st.heap.length st.heap (opd env) o.op fun p c =>
        bindO (putE N env o.dst p) fun env => evOps T N ops r ⟨env, c.apply st.heap⟩ K)
      (fun env => bindO (putE N env o.dst (.sc undef)) fun env => evOps T N ops r ⟨env, st.heap⟩ K)
/-- Whether a call is told with nothing of its own (else it is given its own blocks). -/
def callQ (T : Table) (H : List Blk) (f : PV) (xs : List PV) : Bool :=
  match f with
  | .fn g caps => (T g (renL (idx (reach 64 H (refsL (xs ++ caps)) [])) (xs ++ caps)) (localH true H (reach 64 H (refsL (xs ++ caps)) []))).isSome
  | _ => true
/-- A region whose order is drawn: in the text's order, and a check that no other order would answer otherwise. -/
def evDraw (T : Table) (N : Nat) (ops : List Oper) : Nat → List Rec → List Oper → St → (St → Option R) → Option R
  | _, _, [], st, K => K st
  | i, rs, o :: r, st, K =>
    guardB (edgesLt i o.after.toList) <|
    evGuard ops o st.env
      (fun env => evOp P T (match o.op with
          | .store _ _ _ => false
          | .call c => (match c.callee with
            | .builtin .append => false
            | .builtin .clear => false
            | .value f => callQ T st.heap (opd env f) (c.args.toList.map (opd env))
            | _ => true)
          | _ => true) st.heap.length st.heap (opd env) o.op fun p c =>
        guardB (free1 ops.toArray o (preOf rs o.after.toList) c.rd (ups st.heap.length c) 0 rs)
          (bindO (putE N env o.dst p) fun env => evDraw T N ops (i + 1) (rs ++ [⟨preOf rs o.after.toList, c.rd, ups st.heap.length c, o⟩]) r ⟨env, c.apply st.heap⟩ K))
      (fun env => guardB (free1 ops.toArray o (preOf rs o.after.toList) [] [] 0 rs)
        (bindO (putE N env o.dst (.sc undef)) fun env => evDraw T N ops (i + 1) (rs ++ [⟨preOf rs o.after.toList, [], [], o⟩]) r ⟨env, st.heap⟩ K))

/-! ### Code -/
inductive Xt where
  | normal
  | exit (id : Nat)
  | ret
  deriving DecidableEq

/-- What a marked block of code answers: the slots that it reads, in what blocks; and how it ends, what it leaves in which slots. -/
abbrev CutEnt := List PV → List Blk → Option (Bool × List (Bool × Xt × List PV × List Blk))
abbrev Cuts := Nat → Option (List Nat × List Nat × CutEnt)

def looks (env : List (Nat × PV)) : List Nat → List PV
  | [] => []
  | t :: r => look env t :: looks env r
def zipE : List Nat → List PV → List (Nat × PV) → Option (List (Nat × PV))
  | [], [], env => some env
  | t :: r, p :: ps, env => (match zipE r ps env with
    | some e => some ((t, p) :: e)
    | none => none)
  | _, _, _ => none
def dstsOps : List Oper → List Nat
  | [] => []
  | o :: r => (match o.dst with
    | some d => d :: dstsOps r
    | none => dstsOps r)
/-- The slots that a piece of code writes. -/
def dsts : Code → List Nat
  | .region _ ops _ => dstsOps ops.toList
  | .seq a b => dsts a ++ dsts b
  | .cond _ a b => dsts a ++ dsts b
  | .block _ b => dsts b
  | .loop b => dsts b
  | .scope b => dsts b
  | _ => []
def undefs : List Nat → List (Nat × PV) → List (Nat × PV)
  | [], env => env
  | t :: r, env => (t, .undef) :: undefs r env

def evCut (ins outs ds : List Nat) (ent : CutEnt) (st : St) (K : Xt → St → Option R) : Option R :=
  let xs := looks st.env ins
  let ids := reach 64 st.heap (refsL xs) []
  guardB (nodupB ids && allLt st.heap.length ids) <|
  bindO (ent (renL (idx ids) xs) (localH false st.heap ids)) fun r =>
    guardB r.1 <| evAlts r.2 fun r =>
    match zipUp (backN ids st.heap.length) ids r.2.2 with
    | some (up, nw) => bindO (zipE outs (renL (backN ids st.heap.length) r.2.1) (undefs ds st.env)) fun env => K r.1 ⟨env, setBs st.heap up ++ nw⟩
    | none => none

/-- The code's way, with K behind it. Loops are met only inside marked blocks, or told round by round (fuel). -/
def evCode (T : Table) (cuts : Cuts) (N : Nat) : Code → St → (Xt → St → Option R) → Option R
  | .skip, st, K => K .normal st
  | .region _ ops d, st, K => bif d then evDraw P T N ops.toList 0 [] ops.toList st (K .normal) else evOps P T N ops.toList ops.toList st (K .normal)
  | .seq a b, st, K => evCode T cuts N a st fun x st' => match x with
    | .normal => evCode T cuts N b st' K
    | x => K x st'
  | .cond c a b, st, K =>
    (match opd st.env c with
     | .sc (.bool t) =>
       (match c with
        | .tmp s => bif t then evCode T cuts N a ⟨(s, .sc (.bool true)) :: st.env, st.heap⟩ K else evCode T cuts N b ⟨(s, .sc (.bool false)) :: st.env, st.heap⟩ K
        | _ => bif t then evCode T cuts N a st K else evCode T cuts N b st K)
     | _ => none)
  | .block id c, st, K =>
    (match cuts id with
     | some (ins, outs, ent) => evCut ins outs (dsts c) ent st fun x st' => match x with
       | .exit i => bif Nat.beq i id then K .normal st' else K (.exit i) st'
       | x => K x st'
     | none => evCode T cuts N c st fun x st' => match x with
       | .exit i => bif Nat.beq i id then K .normal st' else K (.exit i) st'
       | x => K x st')
  | .loop c, st, K => rounds (evCode T cuts N c) 20 st K
  | .exit id, st, K => K (.exit id) st
  | .ret, st, K => K .ret st
  | .label _, st, K => K .normal st
  | _, _, _ => none
where
  rounds (body : St → (Xt → St → Option R) → Option R) : Nat → St → (Xt → St → Option R) → Option R
    | 0, _, _ => none
    | k + 1, st, K => body st fun x st' => match x with
      | .normal => rounds body k st' K
      | x => K x st'
/-- The same, where the code is a loop's: one round, and what the loop answers behind it. -/
def evResults (rs : List ResultVar) (st : St) (K : List PV → Option R) : Option R :=
  match rs with
  | [] => K []
  | .tmp t :: r => evResults r st fun ps => K (look st.env t :: ps)
  | .cell a t :: r => evLoad P st.heap t (look st.env a) fun p _ => evResults r st fun ps => K (p :: ps)
end
/-- What is left of the memory behind a call: the blocks that it was given, and those that its answer reaches. -/
def tidy (m : Nat) (r : PV) (H : List Blk) : Option (PV × List Blk) :=
  let keep := List.range m
  let ids := reach 64 H (refsP r ++ (H.take m).flatMap refsB) []
  let more := keep ++ ids.filter fun i => !Nat.blt i m
  guardB (nodupB more && allLt H.length more && Nat.ble m H.length) (some (renP (idx more) r, more.map fun i => renB (idx more) (blkAt H i)))
def envOf : Nat → List PV → List (Nat × PV)
  | _, [] => []
  | k, p :: r => (k, p) :: envOf (k + 1) r
def packR : List PV → PV
  | [p] => p
  | ps => .tup ps
/-- A function's body, with a table of what it calls. -/
def evFunc (P : Program) (T : Table) (cuts : Cuts) (f : Func) (xs : List PV) (H : List Blk) : Option (PV × List Blk) :=
  match f.body with
  | some c => evCode P T cuts f.ntmps c ⟨envOf 0 xs, H⟩ fun x st =>
      match x with
      | .exit _ => none
      | _ => evResults P f.results.toList st fun ps => tidy H.length (packR ps) st.heap
  | none => none
end Go.Proofs.YtokephobkllfgaaDoorEv
