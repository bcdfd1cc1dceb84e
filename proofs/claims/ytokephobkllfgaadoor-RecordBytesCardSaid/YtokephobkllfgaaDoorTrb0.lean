/- What is laid here: the plain functions of records, with their tables and loops. Definitions alone; no condition. -/
import Derived.Test.YtokephobkllfgaaDoorTrs
namespace Go.Proofs.YtokephobkllfgaaDoorRb
open Go Go.Proofs Go.Proofs.YtokephobkllfgaaDoorEv
abbrev I : Kd := .int .i64
abbrev U8 : Kd := .int .u8
abbrev kE : Kd := .pair I (.pair I (.pair .str .str))
abbrev E4 := Int × Int × ByteArray × ByteArray
abbrev sI : Shp := .s (.v ⟨false, I⟩)
abbrev sB : Shp := .s (.v ⟨false, .bool⟩)
abbrev sC : Shp := .s (.v ⟨false, U8⟩)
abbrev sS : Shp := .s (.v ⟨false, .str⟩)
abbrev sE : Shp := .s (.v ⟨true, kE⟩)
abbrev rU : Shp := .s (.ro U8)
def inS (n a b : Int) : Bool := decide (n ≥ a) && decide (n ≤ b)
/-! ### Sums -/
def sumQ : Int → Int → List Int → Int × Int
  | a, b, [] => (a, b)
  | a, b, x :: r => sumQ ((a + x).tmod 251) ((b + (a + x).tmod 251).tmod 241) r
abbrev kSq : List Shp := [sI, sI, rU, sI, sI]
def okSq (l : List Int) (a b n k : Int) : Prop := n = (l.length : Int) ∧ 0 ≤ k ∧ k ≤ n ∧ n ≤ 140737488355328 ∧ (0 ≤ a ∧ a < 251) ∧ (0 ≤ b ∧ b < 241) ∧ ∀ x ∈ l, 0 ≤ x ∧ x ≤ 255
noncomputable def cSq : SpecC kSq := cut1 kSq [sI, sI] (fun v => bp (okSq v.2.2.1.1 v.1 v.2.1 v.2.2.2.1 v.2.2.2.2.1)) (.exit 0) (fun v => ((sumQ v.1 v.2.1 (v.2.2.1.1.drop v.2.2.2.2.1.toNat)).1, (sumQ v.1 v.2.1 (v.2.2.1.1.drop v.2.2.2.2.1.toNat)).2, ())) (same kSq)
def muSq : denA kSq → Nat := fun v => (v.2.2.2.1 - v.2.2.2.2.1).toNat
def sumI : List Int → Int
  | [] => 0
  | x :: r => x + sumI r
abbrev kSa : List Shp := [sS, sI, sI, sI]
/-- The inner loop: a, up to n, from k on. -/
def okSa (s : ByteArray) (a n k : Int) : Prop := s.size ≤ 140737488355328 ∧ 0 ≤ k ∧ k ≤ n ∧ n ≤ (s.size : Int) ∧ 0 ≤ a ∧ a ≤ 1 + 255 * k
noncomputable def cSa (id : Nat) : SpecC kSa := cut1 kSa [sI] (fun v => bp (okSa v.1 v.2.1 v.2.2.1 v.2.2.2.1)) (.exit id) (fun v => (v.2.1 + sumI (((bytesI v.1).drop v.2.2.2.1.toNat).take (v.2.2.1 - v.2.2.2.1).toNat), ())) (same kSa)
def muSa : denA kSa → Nat := fun v => (v.2.2.1 - v.2.2.2.1).toNat
/-- The sums of all beginnings from the i-th on, c of them. -/
def begS (l : List Int) : Nat → Nat → Int
  | _, 0 => 0
  | i, c + 1 => (1 + sumI (l.take i)).tmod 251 + begS l (i + 1) c
abbrev kSb : List Shp := [sS, sI, sI]
def okSb (s : ByteArray) (b i : Int) : Prop := s.size ≤ 140737488355328 ∧ 1 ≤ i ∧ i ≤ (s.size : Int) + 1 ∧ 0 ≤ b ∧ b ≤ 251 * i
noncomputable def cSb : SpecC kSb := cut1 kSb [sI] (fun v => bp (okSb v.1 v.2.1 v.2.2.1)) (.exit 0) (fun v => (v.2.1 + begS (bytesI v.1) v.2.2.1.toNat ((v.1.size : Int) + 1 - v.2.2.1).toNat, ())) (same kSb)
def muSb : denA kSb → Nat := fun v => ((v.1.size : Int) + 1 - v.2.2.1).toNat
/-! ### The reference's numeral -/
def digS (n : Int) : ByteArray := (ByteArray.mk #[48, 49, 50, 51, 52, 53, 54, 55, 56, 57]).extract n.toNat (n + 1).toNat
noncomputable def itoR : Nat → Int → ByteArray → ByteArray
  | 0, _, s => s
  | d + 1, n, s => bif decide (n > 0) || decide (s = ByteArray.mk #[]) then itoR d (n.tdiv 10) (digS (n.tmod 10) ++ s) else s
/-- The numeral, kept whole. -/
noncomputable def itoW (n : Int) (s : ByteArray) : ByteArray := Classical.choose (⟨_, rfl⟩ : ∃ t, t = itoR 8 n s)
abbrev kIt : List Shp := [sI, sS]
def okIt (n : Int) (s : ByteArray) : Prop := 0 ≤ n ∧ n < 10000000 ∧ s.size ≤ 100
noncomputable def cIt : SpecC kIt := cut1 kIt [sS] (fun v => bp (okIt v.1 v.2.1 ∧ (v.2.1.size : Int) ≤ 50)) (.exit 0) (fun v => (itoW v.1 v.2.1, ())) (same kIt)
/-! ### Trim at the small letters -/
abbrev azS : ByteArray := ByteArray.mk #[97, 98, 99, 100, 101, 102, 103, 104, 105, 106, 107, 108, 109, 110, 111, 112, 113, 114, 115, 116, 117, 118, 119, 120, 121, 122]
def lowC (c : Int) : Bool := decide (97 ≤ c) && decide (c ≤ 122)
def ascF (s : List Int) (i : Nat) : List Bool := (s.take i).foldl (fun xs c => xs.set c.toNat true) (List.replicate 256 false)
abbrev rA : Shp := .s (.ba .bool)
abbrev iA : Shp := .s (.ia .bool)
noncomputable def azT : List Bool := Classical.choose (⟨_, rfl⟩ : ∃ l, l = ascF (bytesI azS) 26)
theorem azT_eq : azT = ascF (bytesI azS) 26 := Classical.choose_spec (⟨_, rfl⟩ : ∃ l, l = ascF (bytesI azS) 26)
abbrev kMk : List Shp := [sS, iA, sI, sB]
def okMk (s : ByteArray) (l : List Bool) (i : Int) : Prop := s = azS ∧ 0 ≤ i ∧ i ≤ 26 ∧ l = ascF (bytesI azS) i.toNat
noncomputable def cMk : SpecC kMk := cut1 kMk [sB] (fun v => bp (okMk v.1 v.2.1 v.2.2.1)) (.exit 0) (fun v => (v.2.2.2.1, ())) (fun _ => ((), azT, (), (), ()))
def muMk : denA kMk → Nat := fun v => (26 - v.2.2.1).toNat
/-- What is left of a row of bytes when small letters are taken off its end, and off its beginning. -/
def ltrL : List Int → List Int
  | [] => []
  | x :: r => bif lowC x then ltrL r else x :: r
def rtrL (l : List Int) : List Int := (ltrL l.reverse).reverse
noncomputable def rtrS (s : ByteArray) : ByteArray := Classical.choose (⟨_, rfl⟩ : ∃ t, t = strOfNums (rtrL (bytesI s)))
theorem rtrS_eq (s : ByteArray) : rtrS s = strOfNums (rtrL (bytesI s)) := Classical.choose_spec (⟨_, rfl⟩ : ∃ t, t = strOfNums (rtrL (bytesI s)))
noncomputable def ltrS (s : ByteArray) : ByteArray := Classical.choose (⟨_, rfl⟩ : ∃ t, t = strOfNums (ltrL (bytesI s)))
theorem ltrS_eq (s : ByteArray) : ltrS s = strOfNums (ltrL (bytesI s)) := Classical.choose_spec (⟨_, rfl⟩ : ∃ t, t = strOfNums (ltrL (bytesI s)))
abbrev kTr : List Shp := [sS, rA]
def okTr (s : ByteArray) (l : List Bool) : Prop := s.size ≤ 1000 ∧ l = azT
noncomputable def cTr (f : ByteArray → ByteArray) : SpecC kTr := cut1 kTr [sS] (fun v => bp (okTr v.1 v.2.1)) (.exit 0) (fun v => (f v.1, ())) (same kTr)
def muTr : denA kTr → Nat := fun v => v.1.size
noncomputable def R0 : Table :=
  ext 39 (entV [sI, sI, sI] (specP [sI, sI, sI] [sB] (fun _ => true) fun v => (inS v.1 v.2.1 v.2.2.1, ()))) <|
  ext 23 (entV [sS] (specP [sS] [sI] (fun v => bp (v.1.size ≤ 140737488355328)) fun v => (256 * (sumQ 1 0 (bytesI v.1)).2 + (sumQ 1 0 (bytesI v.1)).1, ()))) <|
  ext 24 (entV [sS] (specP [sS] [sI] (fun v => bp (v.1.size ≤ 140737488355328)) fun v => ((begS (bytesI v.1) 1 v.1.size).tmod 241 * 256 + (1 + sumI (bytesI v.1)).tmod 251, ()))) <|
  ext 72 (entV [rA, sC] (specP [rA, sC] [sB] (fun v => bp (v.1 = azT ∧ 0 ≤ v.2.1 ∧ v.2.1 ≤ 255)) fun v => (lowC v.2.1, ()))) <|
  ext 37 (entV [sI'] (specP [sI'] [sS'] (fun v => bp (-9223372036854775808 ≤ v.1 ∧ v.1 ≤ 9223372036854775807)) fun v => (itoS v.1, ()))) T0
end Go.Proofs.YtokephobkllfgaaDoorRb
