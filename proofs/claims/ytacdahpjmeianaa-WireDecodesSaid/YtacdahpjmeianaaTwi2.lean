/- What is laid here: the plain functions of frames of radars, with their tables and loops. Definitions alone; no condition. -/
import Derived.Test.YtacdahpjmeianaaTwi1
namespace Go.Proofs.YtacdahpjmeianaaWi
open Go Go.Proofs Go.Proofs.YtacdahpjmeianaaEv Go.Proofs.YtacdahpjmeianaaFl
def inS (n a b : Int) : Bool := decide (n ≥ a) && decide (n ≤ b)
abbrev rP : Shp := .s (.ro kP)
abbrev oU : Shp := .s (.ow U8)
/-! ### put: the bytes of a number, the most significant one first -/
def byteAt (n : Int) (k : Int) : Int := IntKind.u8.wrap (n.fdiv (2 ^ min (8 * k).toNat 64))
/-- k bytes. -/
def putL (n : Int) : Nat → List Int
  | 0 => []
  | k + 1 => byteAt n (k : Int) :: putL n k
/-- The same, kept whole. -/
noncomputable def putB (n : Int) (k : Int) : List Int := Classical.choose (⟨_, rfl⟩ : ∃ l, l = putL n k.toNat)
theorem putB_eq (n k : Int) : putB n k = putL n k.toNat := Classical.choose_spec (⟨_, rfl⟩ : ∃ l, l = putL n k.toNat)
def eqN : List (Nat × Nat) → Bool
  | [] => true
  | (a, b) :: r => Nat.beq a b && eqN r
/-- The first call: onto the mark, one byte. -/
def p93 : List PV → List Blk → Option Int
  | [.sl i e sz len lo full nl, .sc (.int .u64 v), .sc (.int .i64 k)], [.row o (.int .u8) l] =>
    bif eqN [(i, 0), (e, 0), (sz, 1), (len, 2), (lo, 2)] && (full && (!nl && (!o && (decide (k = 1) && decide (l = ([83, 87] : List Int)))))) then some v else none
  | _, _ => none
def st93 (v : Int) : List PV × List Blk := ([PV.sl 0 0 1 2 2 true false, .sc (.int .u64 v), .sc (.int .i64 1)], [Blk.row false (.int .u8) [83, 87]])
def sp93 (v : Int) : Bool × List (Bool × PV × List Blk) := (true, [(true, (PV.sl 1 0 1 3 3 false false, [Blk.row false (.int .u8) [83, 87], Blk.row true (.int .u8) [83, 87, byteAt v 0]]))])
abbrev kPu : List Shp := [oU, sU, sI]
def cPu : SpecC kPu := cut1 kPu [oU] (fun v => decide (0 ≤ v.2.1 ∧ -1 ≤ v.2.2.1 ∧ v.2.2.1 ≤ 7 ∧ (v.1.1.length : Int) + v.2.2.1 ≤ 100007)) (.exit 0) (fun v => ((v.1.1 ++ putL v.2.1 (v.2.2.1 + 1).toNat, bif decide (0 ≤ v.2.2.1) then false else v.1.2), ())) (same kPu)
def muPu : denA kPu → Nat := fun v => (v.2.2.1 + 1).toNat
/-! ### Sum, Checksum -/
def sumR : Int → Int → List Int → Int × Int
  | a, b, [] => (a, b)
  | a, b, x :: r => sumR ((a + x).tmod 255) ((b + (a + x).tmod 255).tmod 255) r
def chkR : Int → Int → List Int → Int × Int
  | a, b, [] => (a, b)
  | a, b, x :: r => chkR (a + x) (b + x * ((r.length : Int) + 1)) r
abbrev kSu : List Shp := [sS, sI, sI, sI, sI]
def preSu (s : ByteArray) (n k : Int) : Bool := decide (n = (s.size : Int) ∧ 0 ≤ k ∧ k ≤ n ∧ n ≤ 4000)
def cSu : SpecC kSu := cut1 kSu [sI, sI] (fun v => preSu v.1 v.2.2.2.1 v.2.2.2.2.1 && decide (0 ≤ v.2.1 ∧ v.2.1 < 255 ∧ 0 ≤ v.2.2.1 ∧ v.2.2.1 < 255)) (.exit 0) (fun v => ((sumR v.2.1 v.2.2.1 ((bytesI v.1).drop v.2.2.2.2.1.toNat)).1, (sumR v.2.1 v.2.2.1 ((bytesI v.1).drop v.2.2.2.2.1.toNat)).2, ())) (same kSu)
def muSu : denA kSu → Nat := fun v => (v.2.2.2.1 - v.2.2.2.2.1).toNat
def cCk : SpecC kSu := cut1 kSu [sI, sI] (fun v => preSu v.1 v.2.2.2.1 v.2.2.2.2.1 && decide (0 ≤ v.2.1 ∧ v.2.1 ≤ 255 * v.2.2.2.2.1 ∧ 0 ≤ v.2.2.1 ∧ v.2.2.1 ≤ 1020000 * v.2.2.2.2.1)) (.exit 0) (fun v => ((chkR v.2.1 v.2.2.1 ((bytesI v.1).drop v.2.2.2.2.1.toNat)).1, (chkR v.2.1 v.2.2.1 ((bytesI v.1).drop v.2.2.2.2.1.toNat)).2, ())) (same kSu)
/-! ### Errors -/
def pltE (r t : Int) (p : P6) : Int := bif p.1 != r || p.2.1 != t then 3 else bif !inS p.2.2.1 0 2000000 || (!inS p.2.2.2.1 0 4095 || (!inS p.2.2.2.2.1 0 60000 || !inS p.2.2.2.2.2 (-1) 4095)) then 4 else 0
def pltsE (r t : Int) : List P6 → Int
  | [] => 0
  | p :: l => bif pltE r t p != 0 then pltE r t p else pltsE r t l
def frmE (r t : Int) (l : List P6) : Int := bif decide ((l.length : Int) > 32) then 2 else bif !inS r 0 255 || !inS t 0 200000 then 4 else pltsE r t l
/-! ### Bytes: the same by recursion -/
noncomputable def bytS (n : Int) (k : Int) : ByteArray := strOfNums (putL n k.toNat)
noncomputable def entB (d : Nat) : TabEnt := entV [sU, sI] (specP [sU, sI] [sS] (fun v => bp (0 ≤ v.1 ∧ v.1 < 18446744073709551616 ∧ 0 ≤ v.2.1 ∧ v.2.1 ≤ (d : Int) ∧ d ≤ 8)) fun v => (bytS v.1 v.2.1, ()))
noncomputable def B (d : Nat) : Table := ext 67 (entB d) F5
/-! ### The frames -/
def pE (p : P6) : Int := bif inS p.1 0 255 && (inS p.2.1 0 200000 && (inS p.2.2.1 0 2000000 && (inS p.2.2.2.1 0 4095 && (inS p.2.2.2.2.1 0 60000 && inS p.2.2.2.2.2 (-1) 4095)))) then 0 else 4
abbrev bFr : Shp := .ob [.v ⟨false, I⟩, .v ⟨false, I⟩, .ro kP]
noncomputable def W1 : Table :=
  ext 95 (entV [sI, sI, sI] (specP [sI, sI, sI] [sB] (fun _ => true) fun v => (inS v.1 v.2.1 v.2.2.1, ()))) <|
  ext 93 (orE (entV kPu (specP kPu [oU] (fun v => decide (0 ≤ v.2.1 ∧ 1 ≤ v.2.2.1 ∧ v.2.2.1 ≤ 8 ∧ v.1.1.length ≤ 100000)) fun v => ((v.1.1 ++ putB v.2.1 v.2.2.1, false), ()))) (entF p93 sp93)) <|
  ext 52 (entV [sS] (specP [sS] [sI] (fun v => decide (v.1.size ≤ 4000)) fun v => ((sumR 0 0 (bytesI v.1)).2 * 256 + (sumR 0 0 (bytesI v.1)).1, ()))) <|
  ext 55 (entV [sS] (specP [sS] [sI] (fun v => decide (v.1.size ≤ 4000)) fun v => ((chkR 0 0 (bytesI v.1)).2.tmod 255 * 256 + (chkR 0 0 (bytesI v.1)).1.tmod 255, ()))) <|
  ext 97 (entV [aF, sP] (specP [aF, sP] [sI] (fun _ => true) fun v => (pltE v.1.1 v.1.2.1 v.2.1, ()))) (B 8)
noncomputable def W2 : Table := ext 96 (entV [sP] (specP [sP] [sI] (fun _ => true) fun v => (pE v.1, ()))) W1
abbrev kCk : List Shp := [bFr, rP, sI, sI]
def preCk (l : List P6) (n k : Int) : Bool := decide (n = (l.length : Int) ∧ 0 ≤ k ∧ k ≤ n ∧ n ≤ 32)
def cCh : SpecC kCk := cut2 kCk [sI] [.un] (fun v => preCk v.2.1.1 v.2.2.1 v.2.2.2.1) (fun v => pltsE v.1.1 v.1.2.1 (v.2.1.1.drop v.2.2.2.1.toNat) != 0) .ret (.exit 1) (fun v => (pltsE v.1.1 v.1.2.1 (v.2.1.1.drop v.2.2.2.1.toNat), ())) (fun _ => ((), ())) (same kCk) (same kCk)
def cFe : SpecC kCk := cut2 kCk [sI] [.un] (fun v => preCk v.2.1.1 v.2.2.1 v.2.2.2.1 && (inS v.1.1 0 255 && inS v.1.2.1 0 200000)) (fun v => pltsE v.1.1 v.1.2.1 (v.2.1.1.drop v.2.2.2.1.toNat) != 0) .ret (.exit 0) (fun v => (pltsE v.1.1 v.1.2.1 (v.2.1.1.drop v.2.2.2.1.toNat), ())) (fun _ => ((), ())) (same kCk) (same kCk)
def muCk : denA kCk → Nat := fun v => (v.2.2.1 - v.2.2.2.1).toNat
def pltB (p : P6) : List Int := putL (fbits p.2.2.1) 8 ++ (putL p.2.2.2.1 2 ++ (putL p.2.2.2.2.1 4 ++ putL (p.2.2.2.2.2 + 1) 2))
def hdB (r t : Int) (l : List P6) : List Int := [83, 87] ++ (putL r 1 ++ (putL t 4 ++ putL (l.length : Int) 2))
def frB (r t : Int) (l : List P6) : List Int := hdB r t l ++ l.flatMap pltB
def sum2 (s : List Int) : Int := (sumR 0 0 s).2 * 256 + (sumR 0 0 s).1
def chk2 (s : List Int) : Int := (chkR 0 0 s).2.tmod 255 * 256 + (chkR 0 0 s).1.tmod 255
noncomputable def encS (r t : Int) (l : List P6) : ByteArray := strOfNums (frB r t l ++ putL (sum2 (bytesI (strOfNums (frB r t l)))) 2)
noncomputable def frmS (r t : Int) (l : List P6) : ByteArray := strOfNums (frB r t l ++ putL (chk2 (bytesI (strOfNums (frB r t l)))) 2)
noncomputable def W3 : Table :=
  ext 54 (entV [aF] (specP [aF] [sI] (fun v => decide (v.1.2.2.1.1.length ≤ 100000000000000)) fun v => (frmE v.1.1 v.1.2.1 v.1.2.2.1.1, ()))) <|
  ext 53 (entV [aF] (specP [aF] [sI] (fun v => decide (v.1.2.2.1.1.length ≤ 100000000000000)) fun v => (frmE v.1.1 v.1.2.1 v.1.2.2.1.1, ()))) W2
abbrev kEn : List Shp := [oU, rP, sI, sI]
def okP (l : List P6) : Bool := l.all fun p => pE p == 0
def cEn : SpecC kEn := cut1 kEn [oU] (fun v => preCk v.2.1.1 v.2.2.1 v.2.2.2.1 && (okP v.2.1.1 && decide ((v.1.1.length : Int) ≤ 1000 + 16 * v.2.2.2.1))) (.exit 0) (fun v => ((v.1.1 ++ (v.2.1.1.drop v.2.2.2.1.toNat).flatMap pltB, bif decide (v.2.2.2.1 < v.2.2.1) then false else v.1.2), ())) (same kEn)
def muEn : denA kEn → Nat := fun v => (v.2.2.1 - v.2.2.2.1).toNat
abbrev kFr : List Shp := [sS, rP, sI, sI]
noncomputable def cFr : SpecC kFr := cut1 kFr [sS] (fun v => preCk v.2.1.1 v.2.2.1 v.2.2.2.1 && (okP v.2.1.1 && decide ((v.1.size : Int) ≤ 1000 + 16 * v.2.2.2.1))) (.exit 0) (fun v => (v.1 ++ strOfNums ((v.2.1.1.drop v.2.2.2.1.toNat).flatMap pltB), ())) (same kFr)
def muFr : denA kFr → Nat := fun v => (v.2.2.1 - v.2.2.2.1).toNat
noncomputable def W4 : Table :=
  ext 51 (entV [aF] (specP [aF] [sS, sI] (fun v => decide (v.1.2.2.1.1.length ≤ 100000000000000)) fun v => (bif frmE v.1.1 v.1.2.1 v.1.2.2.1.1 == 0 then encS v.1.1 v.1.2.1 v.1.2.2.1.1 else ByteArray.mk #[], frmE v.1.1 v.1.2.1 v.1.2.2.1.1, ()))) <|
  ext 56 (entV [aF] (specP [aF] [sS] (fun v => decide (v.1.2.2.1.1.length ≤ 100000000000000) && frmE v.1.1 v.1.2.1 v.1.2.2.1.1 == 0) fun v => (frmS v.1.1 v.1.2.1 v.1.2.2.1.1, ()))) W3
end Go.Proofs.YtacdahpjmeianaaWi
