/- What is laid here: the kinds of a holding stack, and the plain functions that the law HoldSays reaches, with their tables and loops. Definitions alone; no condition. -/
import Derived.Test.YtacdahpjmeianaaEvZg
import Derived.Test.YtacdahpjmeianaaProg
namespace Go.Proofs.YtacdahpjmeianaaHo
open Go Go.Proofs Go.Proofs.YtacdahpjmeianaaEv
abbrev I : Kd := .int .i64
abbrev kT : Kd := .pair .str (.pair I I)
abbrev kSet : Kd := .pair I (.pair I I)
abbrev kC : Kd := .pair I (.pair .str I)
abbrev T3 := ByteArray × Int × Int
abbrev S3 := Int × Int × Int
abbrev C3 := Int × ByteArray × Int
abbrev sI : Shp := .s (.v ⟨false, I⟩)
abbrev sB : Shp := .s (.v ⟨false, .bool⟩)
abbrev sS : Shp := .s (.v ⟨false, .str⟩)
abbrev sT : Shp := .s (.v ⟨true, kT⟩)
abbrev sSet : Shp := .s (.v ⟨true, kSet⟩)
abbrev rT : Shp := .s (.ro kT)
abbrev oT : Shp := .s (.ow kT)
abbrev rC : Shp := .s (.ro kC)
abbrev aT : Shp := .s (.ar kT 32)
abbrev bR : Shp := .ob [.v ⟨true, kSet⟩, .ro kT, .v ⟨false, I⟩]
abbrev bO : Shp := .ob [.v ⟨true, kSet⟩, .ow kT, .v ⟨false, I⟩]
abbrev mO : Shp := .om ⟨true, kSet⟩ kT 32 ⟨false, I⟩
abbrev eS : ByteArray := ByteArray.mk #[]
def zT : T3 := (⟨#[]⟩, 0, 0)
def atT (l : List T3) (k : Int) : T3 := l.getD k.toNat zT
/-- The first place, counted from k, where p holds; -1 if there is none. -/
def ixP {α : Type} (p : α → Bool) : Int → List α → Int
  | _, [] => -1
  | k, x :: r => if p x then k else ixP p (k + 1) r
def isT (c : ByteArray) (x : T3) : Bool := decide (x.1 = c)
def ixT (c : ByteArray) (l : List T3) : Int := ixP (isT c) 0 l
def okC (k c : Int) : Bool := (decide (c ≥ 65) && decide (c ≤ 90)) || (decide (k > 0) && (decide (c ≥ 48) && decide (c ≤ 57)))
def okL : Int → List Int → Bool
  | _, [] => true
  | k, c :: r => okC k c && okL (k + 1) r
def namS (s : ByteArray) : Bool := okL 0 (bytesI s) && (decide (0 < s.size) && decide (s.size ≤ 8))
def inS (n a b : Int) : Bool := decide (n ≥ a) && decide (n ≤ b)
def cutS (n h : Int) : Int := bif decide (n.tmod (h + 1) < 0) then n.tmod (h + 1) + (h + 1) else n.tmod (h + 1)
def chkE (s : S3) : Int := bif decide (s.1 < 0) || (decide (s.2.1 > 60000) || (decide (s.2.2 < 100) || decide (s.2.2 > 10000))) then 4 else bif decide (s.1 > s.2.1) then 3 else bif decide ((s.2.1 - s.1).tdiv s.2.2 + 1 > 32) then 2 else 0
def setOK (s : S3) : Prop := 0 ≤ s.1 ∧ s.1 ≤ s.2.1 ∧ s.2.1 ≤ 60000 ∧ 100 ≤ s.2.2 ∧ s.2.2 ≤ 10000
/-! ### named, Named, IndexFunc, Equal -/
abbrev kNm : List Shp := [.s (.ro (.int .u8)), sI, sI]
def preNm (l : List Int) (n k : Int) : Bool := decide (n = l.length ∧ 0 ≤ k ∧ k ≤ n ∧ n ≤ 1000000000000000000)
def cNm : SpecC kNm := cut2 kNm [.un] [sB] (fun v => preNm v.1.1 v.2.1 v.2.2.1) (fun v => okL v.2.2.1 (v.1.1.drop v.2.2.1.toNat)) (.exit 0) .ret (fun _ => ((), ())) (fun _ => (false, ())) (same kNm) (same kNm)
def muNm : denA kNm → Nat := fun v => (v.2.1 - v.2.2.1).toNat
abbrev kNr : List Shp := [sS, sI, sI]
def alnum (c : Int) : Bool := (decide (c ≥ 65) && decide (c ≤ 90)) || (decide (c ≥ 48) && decide (c ≤ 57))
def cNr : SpecC kNr := cut2 kNr [.un] [sB] (fun v => preNm (bytesI v.1) v.2.1 v.2.2.1) (fun v => ((bytesI v.1).drop v.2.2.1.toNat).all alnum) (.exit 0) .ret (fun _ => ((), ())) (fun _ => (false, ())) (same kNr) (same kNr)
def muNr : denA kNr → Nat := fun v => (v.2.1 - v.2.2.1).toNat
abbrev xS : Sp := .bx ⟨false, .str⟩
def atB (t last : Int) : Bool := decide (t ≥ last) && decide (t ≤ 200000)
noncomputable def H1 : Table :=
  ext 125 (entV [sT, .s xS] (specP [sT, .s xS] [sB] (fun _ => true) fun v => (isT v.2.1 v.1, ()))) <|
  ext 85 (entV [sS] (specP [sS] [sB] (fun v => decide (v.1.size ≤ 1000000000000000000)) fun v => (namS v.1, ()))) <|
  ext 88 (entV [sS] (specP [sS] [sB] (fun v => decide (v.1.size ≤ 1000000000000000000)) fun v => (namS v.1, ()))) <|
  ext 41 (entV [sI, sI, sI] (specP [sI, sI, sI] [sB] (fun _ => true) fun v => (inS v.1 v.2.1 v.2.2.1, ()))) <|
  ext 14 (entV [sI, sI, sI] (specP [sI, sI, sI] [sI] (fun v => decide (v.2.1 = 0 ∧ 0 ≤ v.2.2.1 ∧ v.2.2.1 ≤ 1000)) fun v => (cutS v.1 v.2.2.1, ()))) <|
  ext 42 (entV [sSet] (specP [sSet] [sI] (fun _ => true) fun v => (chkE v.1, ()))) <|
  ext 87 (entV [bR, sI] (specP [bR, sI] [sB] (fun _ => true) fun v => (atB v.2.1 v.1.2.2.1, ()))) <|
  ext 90 (entV [mO] (specP [mO] [sI] (fun v => bp (setOK v.1.1)) fun v => ((v.1.1.2.1 - v.1.1.1).tdiv v.1.1.2.2 + 1, ()))) T0
abbrev kX1 : List Shp := [rT, .fn 125 [xS], sI, sI]
def preIx (l : List T3) (n k : Int) : Bool := decide (n = l.length ∧ 0 ≤ k ∧ k ≤ n ∧ n ≤ 1000000)
def isIx (l : List T3) (c : ByteArray) (k : Int) : Int := ixP (isT c) k (l.drop k.toNat)
def cX1 : SpecC kX1 := cut2 kX1 [sI] [.un] (fun v => preIx v.1.1 v.2.2.1 v.2.2.2.1) (fun v => decide (0 ≤ isIx v.1.1 v.2.1.1 v.2.2.2.1)) .ret (.exit 0) (fun v => (isIx v.1.1 v.2.1.1 v.2.2.2.1, ())) (fun _ => ((), ())) (same kX1) (same kX1)
def muX1 : denA kX1 → Nat := fun v => (v.2.2.1 - v.2.2.2.1).toNat
abbrev kF1 : List Shp := [rT, .fn 125 [xS]]
def eqT (x y : T3) : Bool := decide (x.1 = y.1) && (x.2.1 == y.2.1 && (x.2.2 == y.2.2 && true))
def eqTs : List T3 → List T3 → Bool
  | [], [] => true
  | x :: r, y :: s => eqT x y && eqTs r s
  | _, _ => false
abbrev kEt : List Shp := [rT, rT, sI, sI]
def preE (l m : List T3) (n k : Int) : Bool := decide (n = l.length ∧ m.length = l.length ∧ 0 ≤ k ∧ k ≤ n ∧ n ≤ 100)
def cEt : SpecC kEt := cut2 kEt [.un] [sB] (fun v => preE v.1.1 v.2.1.1 v.2.2.1 v.2.2.2.1) (fun v => eqTs (v.1.1.drop v.2.2.2.1.toNat) (v.2.1.1.drop v.2.2.2.1.toNat)) (.exit 0) .ret (fun _ => ((), ())) (fun _ => (false, ())) (same kEt) (same kEt)
def muEt : denA kEt → Nat := fun v => (v.2.2.1 - v.2.2.2.1).toNat
/-! ### Delete, Clone -/
abbrev kDc : List Shp := [oT, sI, sI]
def sp91 : SpecV kDc := fun v => (decide (v.2.2.1 = v.2.1 + 1 ∧ 0 ≤ v.2.1 ∧ v.2.1 < (v.1.1.length : Int) ∧ v.1.1.length ≤ 1000), [(true, (.sl 1 0 3 (v.1.1.eraseIdx v.2.1.toNat).length (v.1.1.eraseIdx v.2.1.toNat).length false v.1.2, [.dead, .row true kT (v.1.1.eraseIdx v.2.1.toNat)]))])
def sp92 : SpecV [rT] := fun v => (decide (v.1.1.length ≤ 100), [(v.1.2, (.sc (.slice none 0 0), [.row false kT v.1.1])), (true, (.sl 1 0 3 v.1.1.length v.1.1.length false false, [.row false kT v.1.1, .row true kT v.1.1]))])
/-! ### The model's loops -/
def occT (x : T3) : Bool := !decide (x.1 = ByteArray.mk #[])
def fndM (c : ByteArray) (L : List T3) : Int := ixP (fun x => isT c x && !decide (c = ByteArray.mk #[])) 0 L
abbrev kFm : List Shp := [sS, aT, sI]
def preA (L : List T3) (k : Int) : Bool := decide (L.length = 32 ∧ 0 ≤ k ∧ k ≤ 32)
def fxM (c : ByteArray) (L : List T3) (k : Int) : Int := ixP (fun x => isT c x && !decide (c = ByteArray.mk #[])) k (L.drop k.toNat)
def cFm : SpecC kFm := cut2 kFm [sI] [.un] (fun v => preA v.2.1 v.2.2.1) (fun v => decide (0 ≤ fxM v.1 v.2.1 v.2.2.1)) .ret (.exit 0) (fun v => (fxM v.1 v.2.1 v.2.2.1, ())) (fun _ => ((), ())) (same kFm) (same kFm)
def muFm : denA kFm → Nat := fun v => (32 - v.2.2.1).toNat
/-- One more than the last place that is held; a if none is. -/
def topR : Int → Int → List T3 → Int
  | _, a, [] => a
  | k, a, x :: r => topR (k + 1) (bif occT x then k + 1 else a) r
abbrev kTm : List Shp := [aT, sI, sI]
def cTm : SpecC kTm := cut1 kTm [sI] (fun v => preA v.1 v.2.1 && decide (0 ≤ v.2.2.1 ∧ v.2.2.1 ≤ v.2.1)) (.exit 0) (fun v => (topR v.2.1 v.2.2.1 (v.1.drop v.2.1.toNat), ())) (same kTm)
def muTm : denA kTm → Nat := fun v => (32 - v.2.1).toNat
/-- All that is held, from below. -/
def lisR : List T3 × Bool → List T3 → List T3 × Bool
  | o, [] => o
  | o, x :: r => bif occT x then lisR (o.1 ++ [x], false) r else lisR o r
abbrev kLm : List Shp := [oT, aT, sI]
def cLm : SpecC kLm := cut1 kLm [oT] (fun v => preA v.2.1 v.2.2.1 && decide ((v.1.1.length : Int) ≤ v.2.2.1)) (.exit 0) (fun v => (lisR v.1 (v.2.1.drop v.2.2.1.toNat), ())) (same kLm)
def muLm : denA kLm → Nat := fun v => (32 - v.2.2.1).toNat
/-- Each flight a level down where the level below is free, from below. -/
def dwnR (s : Int) : T3 → List T3 → List T3 × Int
  | x, [] => ([x], 0)
  | x, y :: r => bif occT y && !occT x then ((y.1, y.2.1 - s, y.2.2) :: (dwnR s zT r).1, (dwnR s zT r).2 + 1) else (x :: (dwnR s y r).1, (dwnR s y r).2)
def dwnM (s : Int) (L : List T3) (k : Int) : List T3 × Int := ((L.take (k - 1).toNat) ++ (dwnR s (atT L (k - 1)) (L.drop k.toNat)).1, (dwnR s (atT L (k - 1)) (L.drop k.toNat)).2)
def hiB (L : List T3) : Bool := L.all fun x => inS x.2.1 0 100000
def tiB (L : List T3) : Bool := L.all fun x => inS x.2.2 0 200000
abbrev kDm : List Shp := [mO, sI, sI]
noncomputable def cDm : SpecC kDm := cut1 kDm [sI] (fun v => bp (setOK v.1.1 ∧ v.1.2.1.length = 32 ∧ hiB (v.1.2.1.drop v.2.2.1.toNat) = true ∧ 1 ≤ v.2.2.1 ∧ v.2.2.1 ≤ 32 ∧ 0 ≤ v.2.1 ∧ v.2.1 ≤ v.2.2.1)) (.exit 0) (fun v => (v.2.1 + (dwnM v.1.1.2.2 v.1.2.1 v.2.2.1).2, ())) (fun v => ((v.1.1, (dwnM v.1.1.2.2 v.1.2.1 v.2.2.1).1, v.1.2.2), (), (), ()))
def muDm : denA kDm → Nat := fun v => (32 - v.2.2.1).toNat
abbrev kVm : List Shp := [mO, sI, sI]
def cVm : SpecC kVm := cut2 kVm [.un, .un] [sI, sI] (fun v => preA v.1.2.1 v.2.2.1 && decide (v.2.2.1 ≤ v.2.1 ∧ v.2.1 ≤ 32)) (fun v => !((v.1.2.1.take v.2.1.toNat).drop v.2.2.1.toNat).any occT) (.exit 0) .ret (fun _ => ((), (), ())) (fun _ => (0, 11, ())) (same kVm) (same kVm)
def muVm : denA kVm → Nat := fun v => (v.2.1 - v.2.2.1).toNat
noncomputable def H2 : Table :=
  ext 124 (entV kF1 (specP kF1 [sI] (fun v => decide (v.1.1.length ≤ 1000000)) fun v => (ixT v.2.1.1 v.1.1, ()))) <|
  ext 48 (entV [rT, rT] (specP [rT, rT] [sB] (fun v => decide (v.1.1.length ≤ 100 ∧ v.2.1.1.length ≤ 100)) fun v => (eqTs v.1.1 v.2.1.1, ()))) <|
  ext 91 (entV kDc sp91) <| ext 92 (entV [rT] sp92) <|
  ext 89 (entV [mO, sS] (specP [mO, sS] [sI] (fun v => decide (v.1.2.1.length = 32)) fun v => (fndM v.2.1 v.1.2.1, ()))) H1
/-! ### The model's calls -/
abbrev MD := S3 × List T3 × Int
def lvlM (s : S3) : Int := (s.2.1 - s.1).tdiv s.2.2 + 1
def topM (L : List T3) : Int := topR 0 0 L
def menE (m : MD) (c : ByteArray) (t : Int) : Int := bif !namS c then 6 else bif decide (fndM c m.2.1 ≥ 0) then 7 else bif !inS t m.2.2 200000 then 12 else bif decide (topM m.2.1 ≥ lvlM m.1) then 9 else 0
def menV (m : MD) (c : ByteArray) (t : Int) : Int := bif menE m c t == 0 then m.1.1 + topM m.2.1 * m.1.2.2 else 0
def menM (m : MD) (c : ByteArray) (t : Int) : MD := bif menE m c t == 0 then (m.1, m.2.1.set (topM m.2.1).toNat (c, m.1.1 + topM m.2.1 * m.1.2.2, t), t) else m
def mdnE (m : MD) (t : Int) : Int := bif !inS t m.2.2 200000 then 12 else 0
def mdnV (m : MD) (t : Int) : Int := bif mdnE m t == 0 then (dwnM m.1.2.2 m.2.1 1).2 else 0
def mdnM (m : MD) (t : Int) : MD := bif mdnE m t == 0 then (m.1, (dwnM m.1.2.2 m.2.1 1).1, t) else m
def mlvE (m : MD) (c : ByteArray) (t : Int) : Int := bif decide (fndM c m.2.1 < 0) then 8 else bif !inS t m.2.2 200000 then 12 else bif (m.2.1.take (fndM c m.2.1).toNat).any occT then 11 else 0
def mlvV (m : MD) (c : ByteArray) (t : Int) : Int := bif mlvE m c t == 0 then t - (atT m.2.1 (fndM c m.2.1)).2.2 else 0
def mlvM (m : MD) (c : ByteArray) (t : Int) : MD := bif mlvE m c t == 0 then (m.1, m.2.1.set (fndM c m.2.1).toNat zT, t) else m
def preM (m : MD) (c : ByteArray) : Prop := setOK m.1 ∧ lvlM m.1 ≤ 32 ∧ m.2.1.length = 32 ∧ hiB m.2.1 = true ∧ tiB m.2.1 = true ∧ 0 ≤ m.2.2 ∧ c.size ≤ 1000000000000000000
abbrev kMe : List Shp := [mO, sS, sI]
abbrev kMd : List Shp := [mO, sI]
noncomputable def sp43 : SpecV kMe := spec1 kMe [sI, sI] (fun v => bp (preM v.1 v.2.1)) (fun v => (menV v.1 v.2.1 v.2.2.1, menE v.1 v.2.1 v.2.2.1, ())) fun v => (menM v.1 v.2.1 v.2.2.1, (), (), ())
noncomputable def sp45 : SpecV kMd := spec1 kMd [sI, sI] (fun v => bp (preM v.1 eS)) (fun v => (mdnV v.1 v.2.1, mdnE v.1 v.2.1, ())) fun v => (mdnM v.1 v.2.1, (), ())
noncomputable def sp47 : SpecV kMe := spec1 kMe [sI, sI] (fun v => bp (preM v.1 v.2.1)) (fun v => (mlvV v.1 v.2.1 v.2.2.1, mlvE v.1 v.2.1 v.2.2.1, ())) fun v => (mlvM v.1 v.2.1 v.2.2.1, (), (), ())
/-! ### The stack's calls -/
abbrev SK := S3 × List T3 × Int
def lastT (M : List T3) : T3 := atT M ((M.length : Int) - 1)
def entH (k : SK) : Int := bif decide ((k.2.1.length : Int) > 0) then (lastT k.2.1).2.1 + k.1.2.2 else k.1.1
def entE (k : SK) (c : ByteArray) (t : Int) : Int := bif !namS c then 6 else bif decide (ixT c k.2.1 ≥ 0) then 7 else bif !atB t k.2.2 then 12 else bif decide (entH k > k.1.2.1) then 9 else 0
def entVal (k : SK) (c : ByteArray) (t : Int) : Int := bif entE k c t == 0 then entH k else 0
def entM (k : SK) (c : ByteArray) (t : Int) : SK := bif entE k c t == 0 then (k.1, k.2.1 ++ [(c, entH k, t)], t) else k
/-- Each flight a level down where there is room, from below. -/
def dnR (s : Int) : Int → List T3 → List T3 × Int
  | _, [] => ([], 0)
  | f, x :: r => bif decide (x.2.1 > f) then ((x.1, x.2.1 - s, x.2.2) :: (dnR s (x.2.1 - s + s) r).1, (dnR s (x.2.1 - s + s) r).2 + 1) else (x :: (dnR s (x.2.1 + s) r).1, (dnR s (x.2.1 + s) r).2)
def dnK (s f : Int) (M : List T3) (k : Int) : List T3 × Int := (M.take k.toNat ++ (dnR s f (M.drop k.toNat)).1, (dnR s f (M.drop k.toNat)).2)
abbrev kDn : List Shp := [bO, sI, sI, sI, sI]
noncomputable def cDn : SpecC kDn := cut1 kDn [sI] (fun v => bp (setOK v.1.1 ∧ hiB (v.1.2.1.1.drop v.2.2.2.2.1.toNat) = true ∧ v.1.2.1.1.length ≤ 64 ∧ v.2.2.2.1 = (v.1.2.1.1.length : Int) ∧ 0 ≤ v.2.2.2.2.1 ∧ v.2.2.2.2.1 ≤ v.2.2.2.1 ∧ 0 ≤ v.2.1 ∧ v.2.1 ≤ v.2.2.2.2.1 ∧ 0 ≤ v.2.2.1 ∧ v.2.2.1 ≤ 200000)) (.exit 0)
  (fun v => (v.2.1 + (dnK v.1.1.2.2 v.2.2.1 v.1.2.1.1 v.2.2.2.2.1).2, ()))
  (fun v => ((v.1.1, ((dnK v.1.1.2.2 v.2.2.1 v.1.2.1.1 v.2.2.2.2.1).1, v.1.2.1.2), v.1.2.2.1, ()), (), (), (), (), ()))
def muDn : denA kDn → Nat := fun v => (v.2.2.2.1 - v.2.2.2.2.1).toNat
def sdnE (k : SK) (t : Int) : Int := bif !atB t k.2.2 then 12 else 0
def sdnV (k : SK) (t : Int) : Int := bif sdnE k t == 0 then (dnR k.1.2.2 k.1.1 k.2.1).2 else 0
def sdnM (k : SK) (t : Int) : SK := bif sdnE k t == 0 then (k.1, (dnR k.1.2.2 k.1.1 k.2.1).1, t) else k
def slvE (k : SK) (c : ByteArray) (t : Int) : Int := bif decide (ixT c k.2.1 < 0) then 8 else bif !atB t k.2.2 then 12 else bif decide (ixT c k.2.1 > 0) then 11 else 0
def slvV (k : SK) (c : ByteArray) (t : Int) : Int := bif slvE k c t == 0 then t - (atT k.2.1 0).2.2 else 0
def slvM (k : SK) (c : ByteArray) (t : Int) : SK := bif slvE k c t == 0 then (k.1, k.2.1.eraseIdx 0, t) else k
def preK (k : SK) (c : ByteArray) : Prop := setOK k.1 ∧ k.2.1.length ≤ 60 ∧ hiB k.2.1 = true ∧ tiB k.2.1 = true ∧ 0 ≤ k.2.2 ∧ c.size ≤ 1000000000000000000
abbrev kEn : List Shp := [bO, sS, sI]
abbrev kDo : List Shp := [bO, sI]
abbrev skV (v : bO.den) : SK := (v.1, v.2.1.1, v.2.2.1)
abbrev skP (k : SK) (nl : Bool) : bO.den := (k.1, (k.2.1, nl), k.2.2, ())
noncomputable def sp40 : SpecV kEn := spec1 kEn [sI, sI] (fun v => bp (preK (skV v.1) v.2.1)) (fun v => (entVal (skV v.1) v.2.1 v.2.2.1, entE (skV v.1) v.2.1 v.2.2.1, ())) fun v => (skP (entM (skV v.1) v.2.1 v.2.2.1) (bif entE (skV v.1) v.2.1 v.2.2.1 == 0 then false else v.1.2.1.2), (), (), ())
noncomputable def sp44 : SpecV kDo := spec1 kDo [sI, sI] (fun v => bp (preK (skV v.1) eS)) (fun v => (sdnV (skV v.1) v.2.1, sdnE (skV v.1) v.2.1, ())) fun v => (skP (sdnM (skV v.1) v.2.1) v.1.2.1.2, (), ())
noncomputable def sp46 : SpecV kEn := spec1 kEn [sI, sI] (fun v => bp (preK (skV v.1) v.2.1)) (fun v => (slvV (skV v.1) v.2.1 v.2.2.1, slvE (skV v.1) v.2.1 v.2.2.1, ())) fun v => (skP (slvM (skV v.1) v.2.1 v.2.2.1) v.1.2.1.2, (), (), ())
noncomputable def H3 : Table :=
  ext 86 (entV [bR, sS] (specP [bR, sS] [sI] (fun v => decide (v.1.2.1.1.length ≤ 1000)) fun v => (ixT v.2.1 v.1.2.1.1, ()))) <|
  ext 39 (entV [sSet] fun v => (true, [(chkE v.1 == 0, (.tup [.ptr 0 0 1 0, .sc (.int .i64 0)], [.fix true [.sc (.int .i64 v.1.1), .sc (.int .i64 v.1.2.1), .sc (.int .i64 v.1.2.2), .sc (.slice none 0 0), .sc (.int .i64 0)]])), (true, (.tup [.sc (.pointer none), .sc (.int .i64 (chkE v.1))], []))])) <|
  ext 43 (entV kMe sp43) <| ext 45 (entV kMd sp45) <| ext 47 (entV kMe sp47) <|
  ext 50 (entV [mO] (spec1 [mO] [oT] (fun v => decide (v.1.2.1.length = 32)) (fun v => (lisR ([], true) v.1.2.1, ())) (same [mO]))) <|
  ext 49 (entV [bR] (fun v => (decide (v.1.2.1.1.length ≤ 100), [(v.1.2.1.2, (.sc (.slice none 0 0), [.fix true [.sc (.int .i64 v.1.1.1), .sc (.int .i64 v.1.1.2.1), .sc (.int .i64 v.1.1.2.2), slV 1 kT v.1.2.1, .sc (.int .i64 v.1.2.2.1)], .row false kT v.1.2.1.1])), (true, (.sl 2 0 3 v.1.2.1.1.length v.1.2.1.1.length false false, [.fix true [.sc (.int .i64 v.1.1.1), .sc (.int .i64 v.1.1.2.1), .sc (.int .i64 v.1.1.2.2), slV 1 kT v.1.2.1, .sc (.int .i64 v.1.2.2.1)], .row false kT v.1.2.1.1, .row true kT v.1.2.1.1]))]))) H2
noncomputable def H4 : Table := ext 40 (entV kEn sp40) <| ext 44 (entV kDo sp44) <| ext 46 (entV kEn sp46) H3
end Go.Proofs.YtacdahpjmeianaaHo
