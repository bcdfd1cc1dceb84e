/- What is laid here: the tables of trimming, of the checks and of the encodings of records. Definitions alone; no condition. -/
import Derived.Test.YtokephobkllfgaaDoorTrb2
namespace Go.Proofs.YtokephobkllfgaaDoorRb
open Go Go.Proofs Go.Proofs.YtokephobkllfgaaDoorEv
noncomputable def R1 : Table :=
  ext 59 (entV [sS] (specP [sS] [.s (.ar .bool 256), sB] (fun v => bp (v.1 = azS)) fun _ => (azT, true, ()))) <|
  ext 60 (entV kTr (specP kTr [sS] (fun v => bp (okTr v.1 v.2.1)) fun v => (ltrS v.1, ()))) <|
  ext 61 (entV kTr (specP kTr [sS] (fun v => bp (okTr v.1 v.2.1)) fun v => (rtrS v.1, ()))) R0
noncomputable def trmS (s : ByteArray) : ByteArray := bif decide (s = ByteArray.mk #[]) then s else ltrS (rtrS s)
noncomputable def R2 : Table :=
  ext 40 (entV [sS, sS] (specP [sS, sS] [sS] (fun v => bp (v.1.size ≤ 1000 ∧ v.2.1 = azS)) fun v => (trmS v.1, ()))) <|
  ext 41 (entV [sI] (specP [sI] [sS] (fun v => bp (0 ≤ v.1 ∧ v.1 < 10000000)) fun v => (itoW v.1 (ByteArray.mk #[]), ()))) R1
def muI (n : Int) (s : ByteArray) : Nat := n.toNat * 2 + (bif decide (s = ByteArray.mk #[]) then 1 else 0)
def okI (n : Int) (s : ByteArray) : Prop := 0 ≤ n ∧ n < 10000000 ∧ s.size + muI n s ≤ 1000000000
noncomputable def cI2 : SpecC kIt := cut1 kIt [sS] (fun v => bp (okI v.1 v.2.1)) (.exit 0) (fun v => (itoW v.1 v.2.1, ())) (same kIt)
def muIt : denA kIt → Nat := fun v => muI v.1 v.2.1
/-! ### The checks -/
def lowsS (s : ByteArray) : Bool := (bytesI s).all lowC
noncomputable def entE (n t : Int) (k x : ByteArray) : Int :=
  bif !inS n 1 500 || !inS t 0 200000 then 4 else bif decide ((x.size : Int) > 120) || decide ((k.size : Int) > 8) then 2 else bif decide (k = ByteArray.mk #[]) || !lowsS k then 6 else 0
abbrev bE : Shp := .s (.bx ⟨true, kE⟩)
abbrev kLo : List Shp := [bE, sI, sI, sI]
def okLo (k : ByteArray) (n i : Int) : Prop := n = (k.size : Int) ∧ 0 ≤ i ∧ i ≤ n ∧ n ≤ 8
noncomputable def cLo : SpecC kLo := cut2 kLo [sI] [sI] (fun v => bp (okLo v.1.2.2.1 v.2.1 v.2.2.1)) (fun v => ((bytesI v.1.2.2.1).drop v.2.2.1.toNat).all lowC) (.exit 0) .ret (fun v => (v.2.2.2.1, ())) (fun _ => (6, ())) (same kLo) (same kLo)
def muLo : denA kLo → Nat := fun v => (v.2.1 - v.2.2.1).toNat
noncomputable def R3 : Table :=
  ext 22 (entV [sE] (specP [sE] [sI] (fun _ => true) fun v => (entE v.1.1 v.1.2.1 v.1.2.2.1 v.1.2.2.2, ()))) <|
  ext 21 (entV [sE] (specP [sE] [sI] (fun _ => true) fun v => (entE v.1.1 v.1.2.1 v.1.2.2.1 v.1.2.2.2, ()))) R2
/-! ### The bytes -/
abbrev sp1 : ByteArray := ByteArray.mk #[32]
noncomputable def bdyS (f : Int → ByteArray) (n t : Int) (k x : ByteArray) : ByteArray := f n ++ sp1 ++ f t ++ sp1 ++ k ++ sp1 ++ f (x.size : Int) ++ ByteArray.mk #[58] ++ x
noncomputable def encB (f : Int → ByteArray) (g : ByteArray → Int) (n t : Int) (k x : ByteArray) : ByteArray := bdyS f n t k x ++ ByteArray.mk #[59] ++ f (g (bdyS f n t k x)) ++ ByteArray.mk #[10]
def sumA (s : ByteArray) : Int := 256 * (sumQ 1 0 (bytesI s)).2 + (sumQ 1 0 (bytesI s)).1
def sumB (s : ByteArray) : Int := (begS (bytesI s) 1 s.size).tmod 241 * 256 + (1 + sumI (bytesI s)).tmod 251
noncomputable def itoW0 (n : Int) : ByteArray := itoW n (ByteArray.mk #[])
noncomputable def encW (n t : Int) (k x : ByteArray) : ByteArray := Classical.choose (⟨_, rfl⟩ : ∃ s, s = encB itoS sumA n t k x)
theorem encW_eq (n t : Int) (k x : ByteArray) : encW n t k x = encB itoS sumA n t k x := Classical.choose_spec (⟨_, rfl⟩ : ∃ s, s = encB itoS sumA n t k x)
end Go.Proofs.YtokephobkllfgaaDoorRb
