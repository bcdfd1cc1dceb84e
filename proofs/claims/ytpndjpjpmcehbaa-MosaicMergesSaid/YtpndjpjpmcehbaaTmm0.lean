/- What is laid here: the plain functions on plots that the law MosaicMerges reaches. Definitions alone; no condition. -/
import Derived.Test.YtpndjpjpmcehbaaTfz0
import Derived.Test.YtpndjpjpmcehbaaEvZe
namespace Go.Proofs.YtpndjpjpmcehbaaMm
open Go Go.Proofs Go.Proofs.YtpndjpjpmcehbaaEv Go.Proofs.YtpndjpjpmcehbaaTk Go.Proofs.YtpndjpjpmcehbaaFz
abbrev kPl : Kd := .pair I (.pair I (.pair I (.pair I (.pair I I))))
abbrev Pl := kPl.den
abbrev sPl : Shp := .s (.v ⟨true, kPl⟩)
abbrev rPl : Shp := .s (.ro kPl)
abbrev oPl : Shp := .s (.ow kPl)
abbrev iPl : Shp := .s (.io kPl)
abbrev bPl : Shp := .s (.bx ⟨true, kPl⟩)
abbrev plN (r t d a h c : Int) : Prop := 0 ≤ r ∧ r ≤ 255 ∧ 0 ≤ t ∧ t ≤ 200000 ∧ 0 ≤ d ∧ d ≤ 2000000 ∧ 0 ≤ a ∧ a ≤ 4095 ∧ 0 ≤ h ∧ h ≤ 60000 ∧ -1 ≤ c ∧ c ≤ 4095
def plV (r t d a h c : Int) : Int := bif decide (plN r t d a h c) then 0 else 4
abbrev plE (p : Pl) : Int := plV p.1 p.2.1 p.2.2.1 p.2.2.2.1 p.2.2.2.2.1 p.2.2.2.2.2
abbrev tmP (p : Pl) : Int := p.2.1
def cmpP (a b : Pl) : Int := orL [cmpI a.2.1 b.2.1, cmpI a.1 b.1, cmpI a.2.2.1 b.2.2.1, cmpI a.2.2.2.1 b.2.2.2.1, cmpI a.2.2.2.2.1 b.2.2.2.2.1, cmpI a.2.2.2.2.2 b.2.2.2.2.2]
def befP (a b : Pl) : Bool := decide (cmpP a b < 0)
noncomputable def eqP (a b : Pl) : Bool := bp (a = b)
def srtP (l : List Pl) : List Pl := l.mergeSort fun x y => !decide (cmpP y x < 0)
def zPl : Pl := (0, 0, 0, 0, 0, 0)
noncomputable def M1 : Table :=
  ext 97 (entV [sPl] (specP [sPl] [sI] (fun _ => true) fun v => (plE v.1, ()))) <|
  ext 54 (entV [sPl] (specP [sPl] [sI] (fun _ => true) fun v => (plE v.1, ()))) <|
  ext 104 (entV [sPl, sPl] (specP [sPl, sPl] [sI] (fun _ => true) fun v => (cmpP v.1 v.2.1, ()))) <|
  ext 106 (entV [sPl, sPl] (specP [sPl, sPl] [sB] (fun _ => true) fun v => (befP v.1 v.2.1, ()))) Z2
/-! ### Compact -/
abbrev CV := List Pl × Nat × Nat × Bool × Bool × Nat × Nat × Nat × Bool × Bool × Int × Int
def pIn : List PV → List Blk → Option CV
  | [.sl i e0 sz n lo full nl, .sc (.int .i64 k), .sl j e sz2 n2 lo2 full2 nl2, .sc (.int .i64 k2)], [.row true (.pair (.int .i64) (.pair (.int .i64) (.pair (.int .i64) (.pair (.int .i64) (.pair (.int .i64) (.int .i64)))))) xs] =>
    bif Nat.beq i 0 && Nat.beq e0 0 && Nat.beq sz 6 && Nat.beq j 0 && Nat.beq sz2 6 then some (xs, n, lo, full, nl, e, n2, lo2, full2, nl2, k, k2) else none
  | _, _ => none
def stIn (v : CV) : List PV × List Blk :=
  ([.sl 0 0 6 v.2.1 v.2.2.1 v.2.2.2.1 v.2.2.2.2.1, .sc (.int .i64 v.2.2.2.2.2.2.2.2.2.2.1), .sl 0 v.2.2.2.2.2.1 6 v.2.2.2.2.2.2.1 v.2.2.2.2.2.2.2.1 v.2.2.2.2.2.2.2.2.1 v.2.2.2.2.2.2.2.2.2.1, .sc (.int .i64 v.2.2.2.2.2.2.2.2.2.2.2)], [.row true kPl v.1])
noncomputable def inn : Nat → List Pl → Nat → Nat → List Pl × Nat
  | 0, L, k, _ => (L, k)
  | f + 1, L, k, q => bif eqP (L.getD q zPl) (L.getD (q - 1) zPl) then inn f L k (q + 1) else inn f (L.set k (L.getD q zPl)) (k + 1) (q + 1)
def preIn (L : List Pl) (n e n2 : Nat) (k k2 : Int) : Bool := decide (n = L.length ∧ L.length ≤ 2000 ∧ e + n2 = L.length ∧ 1 ≤ k2 ∧ k2 ≤ n2 ∧ (e : Int) ≤ k ∧ k < e + k2)
noncomputable def innV (L : List Pl) (e n2 : Nat) (k k2 : Int) : List Pl × Nat := inn (n2 - k2.toNat) L k.toNat (e + k2.toNat)
noncomputable def cIn (v : CV) : Bool × List (Bool × Xt × List PV × List Blk) :=
  (preIn v.1 v.2.1 v.2.2.2.2.2.1 v.2.2.2.2.2.2.1 v.2.2.2.2.2.2.2.2.2.2.1 v.2.2.2.2.2.2.2.2.2.2.2,
   [(true, .exit 2, [.sc (.int .i64 ((innV v.1 v.2.2.2.2.2.1 v.2.2.2.2.2.2.1 v.2.2.2.2.2.2.2.2.2.2.1 v.2.2.2.2.2.2.2.2.2.2.2).2 : Nat))], [.row true kPl (innV v.1 v.2.2.2.2.2.1 v.2.2.2.2.2.2.1 v.2.2.2.2.2.2.2.2.2.2.1 v.2.2.2.2.2.2.2.2.2.2.2).1])])
def muIn (v : CV) : Nat := v.2.2.2.2.2.2.1 - v.2.2.2.2.2.2.2.2.2.2.2.toNat
noncomputable def outC : Nat → List Pl → Nat → Option (List Pl × Nat)
  | 0, _, _ => none
  | f + 1, l, k => bif eqP (l.getD k zPl) (l.getD (k - 1) zPl) then some (inn (l.length - k - 1) l k (k + 1)) else outC f l (k + 1)
noncomputable def outV (l : List Pl) (k : Int) : Option (List Pl × Nat) := outC (l.length - k.toNat) l k.toNat
abbrev k105 : List Shp := [iPl, sI]
def pre105 (l : List Pl) (k : Int) : Bool := decide (l.length ≤ 2000 ∧ 1 ≤ k ∧ k ≤ l.length)
noncomputable def outL (l : List Pl) (k : Int) : List Pl × Nat := (outV l k).getD ([], 0)
noncomputable def c105 : SpecC k105 := fun v => (pre105 v.1.1 v.2.1, [((outV v.1.1 v.2.1).isNone, ansC k105 v (.exit 0) [.un] ((), ()) (same k105 v)),
  (true, (.ret, [.sl 1 0 6 (outL v.1.1 v.2.1).2 (outL v.1.1 v.2.1).2 false v.1.2], [.dead, .row true kPl (splice (outL v.1.1 v.2.1).1 (outL v.1.1 v.2.1).2 (List.replicate (v.1.1.length - (outL v.1.1 v.2.1).2) zPl))]))])
def mu105 : denA k105 → Nat := fun v => v.1.1.length - v.2.1.toNat
noncomputable def ded : Pl → List Pl → List Pl
  | _, [] => []
  | p, x :: r => bif eqP x p then ded x r else x :: ded x r
noncomputable def cpt : List Pl → List Pl
  | [] => []
  | x :: r => x :: ded x r
/-! ### Insert -/
abbrev kIns : List Shp := [rPl, bPl, sI]
def insK (l : List Pl) (p : Pl) (k : Int) : Int := k + ((l.drop k.toNat).takeWhile (befP · p)).length
def preIns (l : List Pl) (k : Int) : Bool := decide (l.length ≤ 2000 ∧ 0 ≤ k ∧ k ≤ l.length)
def cIns : SpecC kIns := cut1 kIns [sI] (fun v => preIns v.1.1 v.2.2.1) (.exit 0) (fun v => (insK v.1.1 v.2.1 v.2.2.1, ())) (same kIns)
def muIns : denA kIns → Nat := fun v => v.1.1.length - v.2.2.1.toNat
abbrev WS := List Pl × Bool
noncomputable def hasP (l : List Pl) (p : Pl) : Bool := decide (insK l p 0 < l.length) && eqP (l.getD (insK l p 0).toNat zPl) p
noncomputable def insS (w : WS) (p : Pl) : WS := bif hasP w.1 p then w else (w.1.take (insK w.1 p 0).toNat ++ p :: w.1.drop (insK w.1 p 0).toNat, false)
/-! ### Equal lists -/
abbrev kSm : List Shp := [rPl, rPl, sI, sI]
def preSm (l l2 : List Pl) (n k : Int) : Bool := decide (l.length ≤ 2000 ∧ l.length = l2.length ∧ n = l.length ∧ 0 ≤ k ∧ k ≤ n)
noncomputable def cSm : SpecC kSm := cut2 kSm [.un] [sB] (fun v => preSm v.1.1 v.2.1.1 v.2.2.1 v.2.2.2.1) (fun v => bp (v.1.1.drop v.2.2.2.1.toNat = v.2.1.1.drop v.2.2.2.1.toNat)) (.exit 0) .ret (fun _ => ((), ())) (fun _ => (false, ())) (same kSm) (same kSm)
def muSm : denA kSm → Nat := fun v => (v.2.2.1 - v.2.2.2.1).toNat
abbrev k103 : List Shp := [iPl, .fn 104 []]
noncomputable def M2 : Table :=
  ext 103 (entV k103 (spec1 k103 [] (fun v => decide (v.1.1.length ≤ 2000)) (fun _ => ()) fun v => (srtP v.1.1, (), ()))) <|
  ext 105 (entV [oPl] (spec1 [oPl] [oPl] (fun v => decide (v.1.1.length ≤ 2000)) (fun v => ((cpt v.1.1, v.1.2), ())) fun _ => ((), ()))) <|
  ext 63 (entV [oPl, sPl] (spec1 [oPl, sPl] [oPl] (fun v => decide (v.1.1.length ≤ 1000)) (fun v => (insS v.1 v.2.1, ())) fun _ => ((), (), ()))) <|
  ext 64 (entV [rPl, rPl] (specP [rPl, rPl] [sB] (fun v => decide (v.1.1.length ≤ 2000)) fun v => (bp (v.1.1 = v.2.1.1), ()))) M1
/-! ### Merge -/
def chkL : Int → List Pl → Int
  | _, [] => 0
  | pv, x :: r => bif decide (plE x = 0) then (bif decide (pv > tmP x) then 12 else chkL (tmP x) r) else 4
def prv (l : List Pl) (k : Int) : Int := bif decide (k ≤ 0) then -1 else tmP (l.getD (k - 1).toNat zPl)
def chkV (l : List Pl) (k : Int) : Int := chkL (prv l k) (l.drop k.toNat)
abbrev kCh : List Shp := [rPl, rPl, sI, sI]
noncomputable def preCh (l l2 : List Pl) (n k : Int) : Bool := bp (l = l2) && decide (l.length ≤ 1000 ∧ n = l.length ∧ 0 ≤ k ∧ k ≤ n)
noncomputable def cCh : SpecC kCh := cut2 kCh [.un, .un] [sNil, sI] (fun v => preCh v.1.1 v.2.1.1 v.2.2.1 v.2.2.2.1) (fun v => decide (chkV v.1.1 v.2.2.2.1 = 0)) (.exit 2) .ret (fun _ => ((), (), ())) (fun v => ((), chkV v.1.1 v.2.2.2.1, ())) (same kCh) (same kCh)
def muCh : denA kCh → Nat := fun v => (v.2.2.1 - v.2.2.2.1).toNat
def mgE : List WS → Int
  | [] => 0
  | w :: r => bif decide (256 < w.1.length) then 2 else bif decide (chkV w.1 0 = 0) then mgE r else chkV w.1 0
def catP : List WS → List Pl
  | [] => []
  | w :: r => w.1 ++ catP r
noncomputable def mgL (fs : List WS) : List Pl := cpt (srtP (catP fs))
def flg : List WS → Bool
  | [] => true
  | w :: r => Nat.beq w.1.length 0 && flg r
noncomputable def specM (ks : List Shp) (fs : denA ks → List WS) : SpecV ks := fun v =>
  (true, [(decide (mgE (fs v) = 0), ansV ks v [oPl, sI] ((mgL (fs v), flg (fs v)), 0, ()) (same ks v)), (true, ansV ks v [sNil, sI] ((), mgE (fs v), ()) (same ks v))])
abbrev ks1 : List Shp := [.ss [.ro kPl]]
abbrev ks2 : List Shp := [.ss [.ro kPl, .ro kPl]]
abbrev ks3 : List Shp := [.ss [.ro kPl, .ro kPl, .ro kPl]]
abbrev ks4 : List Shp := [.ss [.ro kPl, .ro kPl, .ro kPl, .ro kPl]]
abbrev fs1 : denA ks1 → List WS := fun v => [v.1.1]
abbrev fs2 : denA ks2 → List WS := fun v => [v.1.1, v.1.2.1]
abbrev fs3 : denA ks3 → List WS := fun v => [v.1.1, v.1.2.1, v.1.2.2.1]
abbrev fs4 : denA ks4 → List WS := fun v => [v.1.1, v.1.2.1, v.1.2.2.1, v.1.2.2.2.1]
/-- No feed, or more than four: of these nothing is read. -/
def p62 : List PV → List Blk → Option (Nat × Nat × Bool × Bool)
  | [.sl i e sz n lo full nl], [.row false (.int .i64) []] => bif Nat.beq i 0 && Nat.beq e 0 && Nat.beq sz 1 then some (n, lo, full, nl) else none
  | _, _ => none
def st62 (v : Nat × Nat × Bool × Bool) : List PV × List Blk := ([.sl 0 0 1 v.1 v.2.1 v.2.2.1 v.2.2.2], [.row false I []])
def c62 (v : Nat × Nat × Bool × Bool) : Bool × List (Bool × PV × List Blk) :=
  (decide (v.1 = 0 ∨ 4 < v.1), [(decide (v.1 = 0), (.tup [.sl 1 0 6 0 0 false true, .sc (.int .i64 0)], [.row false I [], .row true kPl []])), (true, (.tup [.sc (.slice none 0 0), .sc (.int .i64 2)], [.row false I []]))])
noncomputable def M3 : Table :=
  ext 62 (orE (entF p62 c62) (orE (entV ks2 (specM ks2 fs2)) (orE (entV ks1 (specM ks1 fs1)) (orE (entV ks3 (specM ks3 fs3)) (entV ks4 (specM ks4 fs4)))))) M2
/-! ### The law -/
def lawR (out : List Pl) (e c : Int) : Bool := decide (e = c) && decide ((out.length : Int) = 0)
noncomputable def scan : Int → List Pl → WS → Int × WS
  | _, [], w => (0, w)
  | pv, x :: r, w => bif decide (plE x = 0) then (bif decide (pv > tmP x) then (12, w) else scan (tmP x) r (insS w x)) else (4, w)
noncomputable def scanV (l : List Pl) (k : Int) (w : WS) : Int × WS := scan (prv l k) (l.drop k.toNat) w
abbrev kLw : List Shp := [rPl, sI, oPl, rPl, rPl, sI, sI]
noncomputable def preLw (w : WS) (l l2 : List Pl) (n k : Int) : Bool := bp (l = l2) && decide (l.length ≤ 60 ∧ n = l.length ∧ 0 ≤ k ∧ k ≤ n ∧ w.1.length + n ≤ 300 + k)
noncomputable def cLw : SpecC kLw := cut2 kLw [.un, oPl] [sB, oPl] (fun v => preLw v.2.2.1 v.2.2.2.1.1 v.2.2.2.2.1.1 v.2.2.2.2.2.1 v.2.2.2.2.2.2.1)
  (fun v => decide ((scanV v.2.2.2.1.1 v.2.2.2.2.2.2.1 v.2.2.1).1 = 0)) (.exit 2) .ret (fun v => ((), (scanV v.2.2.2.1.1 v.2.2.2.2.2.2.1 v.2.2.1).2, ()))
  (fun v => (lawR v.1.1 v.2.1 (scanV v.2.2.2.1.1 v.2.2.2.2.2.2.1 v.2.2.1).1, (scanV v.2.2.2.1.1 v.2.2.2.2.2.2.1 v.2.2.1).2, ())) (same kLw) (same kLw)
def muLw : denA kLw → Nat := fun v => (v.2.2.2.2.2.1 - v.2.2.2.2.2.2.1).toNat
end Go.Proofs.YtpndjpjpmcehbaaMm
