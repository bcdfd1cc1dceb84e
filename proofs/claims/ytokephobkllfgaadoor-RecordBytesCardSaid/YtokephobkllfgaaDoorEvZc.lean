/- What is laid here: a function's contract out of its shapes, its condition and what it answers as plain values. No condition but that the contracts of what is called hold. -/
import Derived.Test.YtokephobkllfgaaDoorEvZb
import Derived.Handy
namespace Go.Proofs.YtokephobkllfgaaDoorEv
open Go

/-- What becomes of what was changed in place: slices, structs behind pointers. -/
@[reducible] def Shp.post : Shp → Type
  | .s (.io k) => List k.den
  | .s (.ia k) => List k.den
  | .ob cs => denS cs
  | .om a k _ b => a.den × List k.den × b.den
  | _ => Unit
@[reducible] def postD : List Shp → Type
  | [] => Unit
  | s :: r => s.post × postD r
def sameShp : (s : Shp) → s.den → s.post
  | .s (.v _), _ => ()
  | .s (.ro _), _ => ()
  | .s (.ow _), _ => ()
  | .s (.io _), x => x.1
  | .s (.con _), _ => ()
  | .s (.bx _), _ => ()
  | .s (.ar _ _), _ => ()
  | .s (.ba _), _ => ()
  | .s (.ia _), x => x
  | .fn _ _, _ => ()
  | .ag _, _ => ()
  | .ob _, x => x
  | .un, _ => ()
  | .ss _, _ => ()
  | .om _ _ _ _, x => x
def same : (ks : List Shp) → denA ks → postD ks
  | [], _ => ()
  | s :: r, v => (sameShp s v.1, same r v.2)
def nbSp : Sp → Nat
  | .v _ => 0
  | .con _ => 0
  | .ar _ _ => 0
  | _ => 1
def nbS : List Sp → Nat
  | [] => 0
  | s :: r => nbSp s + nbS r
def nbShp : Shp → Nat
  | .s x => nbSp x
  | .fn _ cs => nbS cs
  | .ag cs => nbS cs
  | .ob cs => nbS cs + 1
  | .un => 0
  | .ss cs => nbS cs + 1
  | .om _ _ _ _ => 1
/-- The blocks that are used up. -/
def killS : Nat → List Sp → List Nat
  | _, [] => []
  | n, .v _ :: r => killS n r
  | n, .con _ :: r => killS n r
  | n, .ar _ _ :: r => killS n r
  | n, .ba _ :: r => killS (n + 1) r
  | n, .ia _ :: r => killS (n + 1) r
  | n, .ow _ :: r => n :: killS (n + 1) r
  | n, .ro _ :: r => killS (n + 1) r
  | n, .io _ :: r => killS (n + 1) r
  | n, .bx _ :: r => killS (n + 1) r
def killShp (n : Nat) : Shp → List Nat
  | .s x => killS n [x]
  | .fn _ cs => killS n cs
  | .ag cs => killS n cs
  | .ob cs => killS (n + 1) cs
  | .un => []
  | .ss cs => killS (n + 1) cs
  | .om _ _ _ _ => []
def killA : Nat → List Shp → List Nat
  | _, [] => []
  | n, s :: r => killShp n s ++ killA (n + nbShp s) r
def usedB : List Blk → List Blk
  | [] => []
  | .row true _ _ :: r => .dead :: usedB r
  | B :: r => B :: usedB r
def postCell (n n' : Nat) : (s : Sp) → s.den → s.den → List PV × List Blk × List Blk
  | .v s, _, y => (scs (s.kd.vals y), [], [])
  | .ro k, x, _ => ([slV n k x], [.row false k x.1], [])
  | .ow k, _, y => ([slV n' k y], [.dead], [.row true k y.1])
  | .io k, _, y => ([slV n k y], [.row true k y.1], [])
  | .con v, _, _ => ([.sc v], [], [])
  | .bx s, x, _ => ([.ptr n 0 1 0], [.fix false (scs (s.kd.vals x))], [])
  | .ar k _, _, y => (scs (y.flatMap k.vals), [], [])
  | .ba k, x, _ => ([.ptr n 0 k.sz 0], [.row false k x], [])
  | .ia k, _, y => ([.ptr n 0 k.sz 0], [.row true k y], [])
def postCells : (n n' : Nat) → (cs : List Sp) → denS cs → denS cs → List PV × List Blk × List Blk
  | _, _, [], _, _ => ([], [], [])
  | n, n', s :: r, x, y =>
    ((postCell n n' s x.1 y.1).1 ++ (postCells (n + (postCell n n' s x.1 y.1).2.1.length) (n' + (postCell n n' s x.1 y.1).2.2.length) r x.2 y.2).1,
     (postCell n n' s x.1 y.1).2.1 ++ (postCells (n + (postCell n n' s x.1 y.1).2.1.length) (n' + (postCell n n' s x.1 y.1).2.2.length) r x.2 y.2).2.1,
     (postCell n n' s x.1 y.1).2.2 ++ (postCells (n + (postCell n n' s x.1 y.1).2.1.length) (n' + (postCell n n' s x.1 y.1).2.2.length) r x.2 y.2).2.2)
def postShp (n n' : Nat) : (s : Shp) → s.den → s.post → List Blk × List Blk
  | .s (.v _), _, _ => ([], [])
  | .s (.ro k), x, _ => ([.row false k x.1], [])
  | .s (.ow _), _, _ => ([.dead], [])
  | .s (.io k), _, y => ([.row true k y], [])
  | .s (.con _), _, _ => ([], [])
  | .s (.bx s), x, _ => ([.fix false (scs (s.kd.vals x))], [])
  | .s (.ar _ _), _, _ => ([], [])
  | .s (.ba k), x, _ => ([.row false k x], [])
  | .s (.ia k), _, y => ([.row true k y], [])
  | .fn _ cs, x, _ => (usedB (showS n cs x).2, [])
  | .ag cs, x, _ => (usedB (showC n cs x).2, [])
  | .ob cs, x, y => (.fix true (postCells (n + 1) n' cs x y).1 :: (postCells (n + 1) n' cs x y).2.1, (postCells (n + 1) n' cs x y).2.2)
  | .un, _, _ => ([], [])
  | .ss cs, x, _ => (.fix false (showC (n + 1) cs x).1 :: usedB (showC (n + 1) cs x).2, [])
  | .om a k N b, _, y => ([.mix true (scs (a.kd.vals y.1)) k N y.2.1 (scs (b.kd.vals y.2.2))], [])
def postA : (n n' : Nat) → (ks : List Shp) → denA ks → postD ks → List Blk × List Blk
  | _, _, [], _, _ => ([], [])
  | n, n', s :: r, x, y =>
    ((postShp n n' s x.1 y.1).1 ++ (postA (n + (postShp n n' s x.1 y.1).1.length) (n' + (postShp n n' s x.1 y.1).2.length) r x.2 y.2).1,
     (postShp n n' s x.1 y.1).2 ++ (postA (n + (postShp n n' s x.1 y.1).1.length) (n' + (postShp n n' s x.1 y.1).2.length) r x.2 y.2).2)
/-- What a contract leaves: its values, and the memory. -/
def ansL (ks : List Shp) (v : denA ks) (rs : List Shp) (x : denA rs) (po : postD ks) : List PV × List Blk :=
  ((showA (showA 0 ks v).2.length rs x).1,
   (postA 0 ((showA 0 ks v).2.length + (showA (showA 0 ks v).2.length rs x).2.length) ks v po).1 ++ ((showA (showA 0 ks v).2.length rs x).2 ++ (postA 0 ((showA 0 ks v).2.length + (showA (showA 0 ks v).2.length rs x).2.length) ks v po).2))
def ansV (ks : List Shp) (v : denA ks) (rs : List Shp) (x : denA rs) (po : postD ks) : PV × List Blk := (packR (ansL ks v rs x po).1, (ansL ks v rs x po).2)
def ansC (ks : List Shp) (v : denA ks) (e : Xt) (rs : List Shp) (x : denA rs) (po : postD ks) : Xt × List PV × List Blk := (e, ansL ks v rs x po)
/-- A function that answers in one form. -/
def spec1 (ks rs : List Shp) (pre : denA ks → Bool) (res : denA ks → denA rs) (po : denA ks → postD ks) : SpecV ks := fun v => (pre v, [(true, ansV ks v rs (res v) (po v))])
/-- One that leaves all memory as it was. -/
def specP (ks rs : List Shp) (pre : denA ks → Bool) (res : denA ks → denA rs) : SpecV ks := spec1 ks rs pre res (same ks)
def cut1 (ks rs : List Shp) (pre : denA ks → Bool) (e : Xt) (res : denA ks → denA rs) (po : denA ks → postD ks) : SpecC ks := fun v => (pre v, [(true, ansC ks v e rs (res v) (po v))])
def cut2 (ks rs rs' : List Shp) (pre : denA ks → Bool) (is : denA ks → Bool) (e e' : Xt) (res : denA ks → denA rs) (res' : denA ks → denA rs') (po po' : denA ks → postD ks) : SpecC ks :=
  fun v => (pre v, [(is v, ansC ks v e rs (res v) (po v)), (true, ansC ks v e' rs' (res' v) (po' v))])

theorem showA_len : ∀ {ks : List Shp} {n : Nat} (v : denA ks), (showA n ks v).1.length = ks.length
  | [], _, _ => rfl
  | _ :: _, _, v => congrArg (· + 1) (showA_len v.2)
theorem liftV {P : Program} {T : Table} (hT : TableOK P T) (hm : P.follows .mixedOrders = true) {cuts : Cuts} {f : Nat} {fn : Func} {c : Code} (hf : P.funcs[f]? = some fn) (hb : fn.body = some c) (hC : CutsOK P fn.ntmps cuts c) {ks : List Shp} {spec : SpecV ks} {kill : List Nat}
    (hn : ks.length ≤ fn.ntmps) (h : ∀ v, (spec v).1 = true → evFuncV P T cuts fn kill (showA 0 ks v).1 (showA 0 ks v).2 = pickA (spec v).2) (v : denA ks) : SpecOK P f ks spec v := by
  intro hpre r H' hpick
  exact evFuncV_sound hT hm hf hb hC ((h v hpre).trans hpick) (by rw [showA_len]; exact hn)
theorem loop_cutW {P : Program} {T : Table} (hT : TableOK P T) (hm : P.follows .mixedOrders = true) {cuts : Cuts} {N : Nat} {c : Code} {ins outs kill : List Nat} {ks : List Shp} {spec : SpecC ks} (mu : denA ks → Nat) (hl : isLoop c = true) (hC : CutsOK P N cuts (loopOf c))
    (h : ∀ v, (spec v).1 = true → evRound P T cuts N (loopOf c) ks mu kill ins outs spec v = pickA (spec v).2) : CutOK P N c ins outs (entC ks spec) := by
  rw [loopOf_eq hl]; exact loop_cutV hT hm mu hC h
/-- Any condition as a Bool. -/
noncomputable def bp (p : Prop) : Bool := @decide p (Classical.propDecidable p)
theorem bp_true {p : Prop} : bp p = true ↔ p := by unfold bp; exact @decide_eq_true_iff p (Classical.propDecidable p)
theorem bp_mk {p : Prop} (h : p) : bp p = true := bp_true.2 h
def bodyF (f : Func) : Code :=
  match f.body with
  | some c => c
  | none => .skip
end Go.Proofs.YtokephobkllfgaaDoorEv
