/- What is laid here: the plain functions that the law AlertFirst reaches. Definitions alone; no condition. -/
import Derived.Test.YtpndjpjpmcehbaaTk2
namespace Go.Proofs.YtpndjpjpmcehbaaTk
open Go Go.Proofs Go.Proofs.YtpndjpjpmcehbaaEv
abbrev kPr : Kd := .pair kFT (.pair kFT (.pair I (.pair I I)))
abbrev sPr : Shp := .s (.v ⟨true, kPr⟩)
abbrev bFT : Shp := .s (.bx ⟨true, kFT⟩)
abbrev bP : Shp := .s (.bx ⟨true, kP⟩)
abbrev bI : Shp := .s (.bx ⟨false, I⟩)
abbrev oI : Shp := .ob [.v ⟨false, I⟩]
abbrev FT := kFT.den
def X (p : FT) : Int := p.1.2.2.2.1.1
def Y (p : FT) : Int := p.1.2.2.2.1.2
def H (p : FT) : Int := p.1.2.2.2.2.2.1
def R (p : FT) : Int := p.1.2.2.2.2.2.2.2.1
def sq (x y x' y' : Int) : Int := W (W (W (x - x') * W (x - x')) + W (W (y - y') * W (y - y')))
def apS (a b : Int) : Int := max (W (a - b)) (W (b - a))
def apR (a b : Int) : Int := bif decide (a < b) then W (b - a) else W (a - b)
def farS (p q : FT) : Int := sq (X p) (Y p) (X q) (Y q)
def closeB (p q : FT) (s0 s1 d1 d2 : Int) : Bool := decide (farS p q < (s0 + R p + R q) * (s0 + R p + R q)) && decide (apS (H p) (H q) < W (W (s1 + d1) + d2))
def sureB (p q : FT) (s0 s1 d1 d2 : Int) : Bool := decide (0 < s0 - R p - R q) && (decide (farS p q < (s0 - R p - R q) * (s0 - R p - R q)) && decide (apS (H p) (H q) < W (W (s1 - d1) - d2)))
noncomputable def okB (p q : FT) (s0 s1 : Int) : Bool := bp (checkE p = 0 ∧ checkE q = 0 ∧ 0 ≤ s0 ∧ s0 ≤ 1000000 ∧ 0 ≤ s1 ∧ s1 ≤ 60000)
def T6 (P : FT → Int → Int → FT × Int) : Table :=
  ext 30 (entV [sFT, sI, sI] (specP [sFT, sI, sI] [sFT, sI] (fun _ => true) fun v => ((P v.1 v.2.1 v.2.2.1).1, (P v.1 v.2.1 v.2.2.1).2, ()))) <|
  ext 31 (entV [sFT, sI, sI] (specP [sFT, sI, sI] [sFT, sI] (fun _ => true) fun v => ((P v.1 v.2.1 v.2.2.1).1, (P v.1 v.2.1 v.2.2.1).2, ()))) <|
  ext 119 (entV [sP, sP] (specP [sP, sP] [sI] (fun _ => true) fun v => (sq v.1.1 v.1.2 v.2.1.1 v.2.1.2, ()))) <|
  ext 49 (entV [sP, sP] (specP [sP, sP] [sI] (fun _ => true) fun v => (sq v.1.1 v.1.2 v.2.1.1 v.2.1.2, ()))) <|
  ext 120 (entV [sI, sI] (specP [sI, sI] [sI] (fun _ => true) fun v => (apS v.1 v.2.1, ()))) <|
  ext 50 (entV [sI, sI] (specP [sI, sI] [sI] (fun _ => true) fun v => (apR v.1 v.2.1, ()))) T5
def chkS (a b : FT) (s0 s1 sec acc cl : Int) : Int :=
  bif decide (checkE a = 0) then (bif decide (checkE b = 0) then (bif decide (s0 < 0) || (decide (s0 > 1000000) || (decide (s1 < 0) || (decide (s1 > 60000) || (decide (sec < 0) || (decide (sec > 300) || (decide (acc < 0) || (decide (acc > 20) || (decide (cl < 0) || decide (cl > 200))))))))) then 4 else 0) else checkE b) else checkE a
def errB (P : FT → Int → Int → FT × Int) (a b : FT) (t acc : Int) : Bool := !(decide ((P a t acc).2 = 0) && decide ((P b t acc).2 = 0))
def gr (cl t u : Int) : Int := W (100 + W (cl * W (t - u)))
def atS (P : FT → Int → Int → FT × Int) (a b : FT) (t acc cl : Int) : kPr.den :=
  ((P a t acc).1, (P b t acc).1, bif errB P a b t acc then 0 else gr cl t (timeOf a), bif errB P a b t acc then 0 else gr cl t (timeOf b), bif errB P a b t acc then 8 else 0)
noncomputable def T7 (P : FT → Int → Int → FT × Int) : Table :=
  ext 86 (entV [sPr, sP] (specP [sPr, sP] [sB] (fun v => okB v.1.1 v.1.2.1 v.2.1.1 v.2.1.2) fun v => (sureB v.1.1 v.1.2.1 v.2.1.1 v.2.1.2 v.1.2.2.1 v.1.2.2.2.1, ()))) <|
  ext 87 (entV [sPr, sP] (specP [sPr, sP] [sB] (fun v => okB v.1.1 v.1.2.1 v.2.1.1 v.2.1.2) fun v => (closeB v.1.1 v.1.2.1 v.2.1.1 v.2.1.2 v.1.2.2.1 v.1.2.2.2.1, ()))) <|
  ext 43 (entV [sFT, sFT, sP, sI, sI] (specP [sFT, sFT, sP, sI, sI] [sB, sB] (fun v => okB v.1 v.2.1 v.2.2.1.1 v.2.2.1.2) fun v => (closeB v.1 v.2.1 v.2.2.1.1 v.2.2.1.2 v.2.2.2.1 v.2.2.2.2.1, sureB v.1 v.2.1 v.2.2.1.1 v.2.2.1.2 v.2.2.2.1 v.2.2.2.2.1, ()))) <|
  ext 84 (entV [sFT, sFT, sP, sI, sI, sI] (specP [sFT, sFT, sP, sI, sI, sI] [sI] (fun _ => true) fun v => (chkS v.1 v.2.1 v.2.2.1.1 v.2.2.1.2 v.2.2.2.1 v.2.2.2.2.1 v.2.2.2.2.2.1, ()))) <|
  ext 85 (entV [sFT, sFT, sI, sI, sI] (specP [sFT, sFT, sI, sI, sI] [sPr] (fun _ => true) fun v => (atS P v.1 v.2.1 v.2.2.1 v.2.2.2.1 v.2.2.2.2.1, ()))) (T6 P)
def tst (P : FT → Int → Int → FT × Int) (w : Bool) (a b : FT) (s0 s1 t acc cl : Int) : Bool :=
  bif w then sureB (P a t acc).1 (P b t acc).1 s0 s1 (gr cl t (timeOf a)) (gr cl t (timeOf b)) else closeB (P a t acc).1 (P b t acc).1 s0 s1 (gr cl t (timeOf a)) (gr cl t (timeOf b))
def goK (P : FT → Int → Int → FT × Int) (w : Bool) (a b : FT) (s0 s1 acc cl fr : Int) : Nat → Int → Option (Int × Int)
  | 0, _ => none
  | d + 1, k => bif errB P a b (W (fr + k)) acc then some (0, 12) else bif tst P w a b s0 s1 (W (fr + k)) acc cl then some (k, 0) else goK P w a b s0 s1 acc cl fr d (k + 1)
abbrev kL : List Shp := [sI, sI, sI, bFT, bFT, bP, sI, sI]
noncomputable def preL (a b : FT) (s0 s1 sec k : Int) : Bool := bp (checkE a = 0 ∧ checkE b = 0 ∧ 0 ≤ s0 ∧ s0 ≤ 1000000 ∧ 0 ≤ s1 ∧ s1 ≤ 60000 ∧ 0 ≤ k ∧ k ≤ sec + 1 ∧ sec ≤ 300)
def goV (P : FT → Int → Int → FT × Int) (w : Bool) (sec acc cl : Int) (a b : FT) (s0 s1 fr k : Int) : Option (Int × Int) := goK P w a b s0 s1 acc cl fr (sec + 1 - k).toNat k
noncomputable def cL (P : FT → Int → Int → FT × Int) (w : Bool) : SpecC kL := cut2 kL [.un, .un] [sI, sI] (fun v => preL v.2.2.2.1 v.2.2.2.2.1 v.2.2.2.2.2.1.1 v.2.2.2.2.2.1.2 v.1 v.2.2.2.2.2.2.2.1)
  (fun v => (goV P w v.1 v.2.1 v.2.2.1 v.2.2.2.1 v.2.2.2.2.1 v.2.2.2.2.2.1.1 v.2.2.2.2.2.1.2 v.2.2.2.2.2.2.1 v.2.2.2.2.2.2.2.1).isNone) (.exit 0) .ret (fun _ => ((), (), ()))
  (fun v => (((goV P w v.1 v.2.1 v.2.2.1 v.2.2.2.1 v.2.2.2.2.1 v.2.2.2.2.2.1.1 v.2.2.2.2.2.1.2 v.2.2.2.2.2.2.1 v.2.2.2.2.2.2.2.1).getD (0, 0)).1, ((goV P w v.1 v.2.1 v.2.2.1 v.2.2.2.1 v.2.2.2.2.1 v.2.2.2.2.2.1.1 v.2.2.2.2.2.1.2 v.2.2.2.2.2.2.1 v.2.2.2.2.2.2.2.1).getD (0, 0)).2, ())) (same kL) (same kL)
def muL : denA kL → Nat := fun v => (v.1 + 1 - v.2.2.2.2.2.2.2.1).toNat
abbrev kF : List Shp := [sFT, sFT, sP, sI, sI, sI]
def frS (a b : FT) : Int := max (timeOf a) (timeOf b)
def fnS (P : FT → Int → Int → FT × Int) (w : Bool) (a b : FT) (s0 s1 sec acc cl : Int) : Int × Int :=
  bif decide (chkS a b s0 s1 sec acc cl = 0) then (goV P w sec acc cl a b s0 s1 (frS a b) 0).getD (0, 8) else (0, chkS a b s0 s1 sec acc cl)
def toldS (n e want last : Int) : Bool := bif decide (want < 0) then decide (e = last) && decide (n = 0) else decide (e = 0) && decide (n = want)
noncomputable def T8 (P : FT → Int → Int → FT × Int) : Table :=
  ext 40 (entV kF (specP kF [sI, sI] (fun _ => true) fun v => ((fnS P true v.1 v.2.1 v.2.2.1.1 v.2.2.1.2 v.2.2.2.1 v.2.2.2.2.1 v.2.2.2.2.2.1).1, (fnS P true v.1 v.2.1 v.2.2.1.1 v.2.2.1.2 v.2.2.2.1 v.2.2.2.2.1 v.2.2.2.2.2.1).2, ()))) <|
  ext 42 (entV kF (specP kF [sI, sI] (fun _ => true) fun v => ((fnS P false v.1 v.2.1 v.2.2.1.1 v.2.2.1.2 v.2.2.2.1 v.2.2.2.2.1 v.2.2.2.2.2.1).1, (fnS P false v.1 v.2.1 v.2.2.1.1 v.2.2.1.2 v.2.2.2.1 v.2.2.2.2.1 v.2.2.2.2.2.1).2, ()))) <|
  ext 44 (entV [sI, sI, sI, bI] (specP [sI, sI, sI, bI] [sB] (fun _ => true) fun v => (toldS v.1 v.2.1 v.2.2.1 v.2.2.2.1, ()))) (T7 P)
/-! ### The law -/
def scan (P : FT → Int → Int → FT × Int) (a b : FT) (s0 s1 acc cl fr : Int) : Nat → Int → Int × Int × Int → Int × Int × Int
  | 0, _, x => x
  | d + 1, k, x => bif errB P a b (W (fr + k)) acc then (x.1, x.2.1, 12) else
    scan P a b s0 s1 acc cl fr d (k + 1) (bif tst P false a b s0 s1 (W (fr + k)) acc cl && decide (x.1 < 0) then k else x.1, bif tst P true a b s0 s1 (W (fr + k)) acc cl && decide (x.2.1 < 0) then k else x.2.1, x.2.2)
abbrev k8 : List Shp := [sI, sI, sI, bFT, bFT, bP, sI, sI, oI, sI, sI]
def scV (P : FT → Int → Int → FT × Int) (sec acc cl : Int) (a b : FT) (s0 s1 fr k : Int) (x : Int × Int × Int) : Int × Int × Int := scan P a b s0 s1 acc cl fr (sec + 1 - k).toNat k x
noncomputable def c8 (P : FT → Int → Int → FT × Int) : SpecC k8 := cut1 k8 [sI, sI] (fun v => preL v.2.2.2.1 v.2.2.2.2.1 v.2.2.2.2.2.1.1 v.2.2.2.2.2.1.2 v.1 v.2.2.2.2.2.2.2.2.2.2.1) (.exit 0)
  (fun v => ((scV P v.1 v.2.1 v.2.2.1 v.2.2.2.1 v.2.2.2.2.1 v.2.2.2.2.2.1.1 v.2.2.2.2.2.1.2 v.2.2.2.2.2.2.2.2.2.1 v.2.2.2.2.2.2.2.2.2.2.1 (v.2.2.2.2.2.2.1, v.2.2.2.2.2.2.2.1, v.2.2.2.2.2.2.2.2.1.1)).1,
    (scV P v.1 v.2.1 v.2.2.1 v.2.2.2.1 v.2.2.2.2.1 v.2.2.2.2.2.1.1 v.2.2.2.2.2.1.2 v.2.2.2.2.2.2.2.2.2.1 v.2.2.2.2.2.2.2.2.2.2.1 (v.2.2.2.2.2.2.1, v.2.2.2.2.2.2.2.1, v.2.2.2.2.2.2.2.2.1.1)).2.1, ()))
  (fun v => ((), (), (), (), (), (), (), (), ((scV P v.1 v.2.1 v.2.2.1 v.2.2.2.1 v.2.2.2.2.1 v.2.2.2.2.2.1.1 v.2.2.2.2.2.1.2 v.2.2.2.2.2.2.2.2.2.1 v.2.2.2.2.2.2.2.2.2.2.1 (v.2.2.2.2.2.2.1, v.2.2.2.2.2.2.2.1, v.2.2.2.2.2.2.2.2.1.1)).2.2, ()), (), (), ()))
def mu8 : denA k8 → Nat := fun v => (v.1 + 1 - v.2.2.2.2.2.2.2.2.2.2.1).toNat
end Go.Proofs.YtpndjpjpmcehbaaTk
