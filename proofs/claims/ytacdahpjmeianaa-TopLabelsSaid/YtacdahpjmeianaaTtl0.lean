/- What is laid here: the cells of a view, and the labels of the visible points. Definitions alone; no condition. -/
import Derived.Test.YtacdahpjmeianaaTlb7
namespace Go.Proofs.YtacdahpjmeianaaLb
open Go Go.Proofs Go.Proofs.YtacdahpjmeianaaEv
abbrev kP : Kd := .pair I I
abbrev kV : Kd := .pair kP (.pair I (.pair I I))
abbrev sP : Shp := .s (.v ⟨true, kP⟩)
abbrev sV : Shp := .s (.v ⟨true, kV⟩)
abbrev rP : Shp := .s (.ro kP)
abbrev bV : Shp := .s (.bx ⟨true, kV⟩)
abbrev Vw := kV.den
abbrev Pt := kP.den
def downS (a b : Int) : Int := bif decide (a.tmod b < 0) then W (W (a.tdiv b) - 1) else W (a.tdiv b)
abbrev vwN (a b s w h : Int) : Prop := -1000000 ≤ a ∧ a ≤ 1000000 ∧ -1000000 ≤ b ∧ b ≤ 1000000 ∧ 1 ≤ s ∧ s ≤ 50000 ∧ 1 ≤ w ∧ w ≤ 60 ∧ 1 ≤ h ∧ h ≤ 60
abbrev vwOk (v : Vw) : Prop := vwN v.1.1 v.1.2 v.2.1 v.2.2.1 v.2.2.2
def chkV (v : Vw) : Int := if vwOk v then 0 else 4
abbrev ptN (a b : Int) : Prop := -1000000 ≤ a ∧ a ≤ 1000000 ∧ -1000000 ≤ b ∧ b ≤ 1000000
def cellS (v : Vw) (p : Pt) : Pt := (W (downS (W (p.1 - v.1.1)) v.2.1 + W (v.2.2.1.tdiv 2)), W (downS (W (p.2 - v.1.2)) v.2.1 + W (v.2.2.2.tdiv 2)))
abbrev viN (x y w h : Int) : Prop := 0 ≤ x ∧ x < w ∧ 0 ≤ y ∧ y < h
def visS (v : Vw) (c : Pt) : Bool := decide (viN c.1 c.2 v.2.2.1 v.2.2.2)
def CellE (v : Vw) (p : Pt) : Int := bif decide (chkV v = 0) then (bif decide (ptN p.1 p.2) then 0 else 4) else 4
def CellS (v : Vw) (p : Pt) : Pt × Bool × Int := bif decide (CellE v p = 0) then (cellS v p, visS v (cellS v p), 0) else ((0, 0), false, CellE v p)
def U1 : Table :=
  ext 118 (entV [sI, sI] (specP [sI, sI] [sI] (fun v => decide (v.2.1 ≠ 0)) fun v => (downS v.1 v.2.1, ()))) <|
  ext 70 (entV [sV] (specP [sV] [sI] (fun _ => true) fun v => (chkV v.1, ()))) <|
  ext 71 (entV [sP] (specP [sP] [sB] (fun _ => true) fun v => (decide (ptN v.1.1 v.1.2), ()))) <|
  ext 73 (entV [sV, sP] (specP [sV, sP] [sB] (fun _ => true) fun v => (visS v.1 v.2.1, ()))) T0
def U2 : Table := ext 72 (entV [sV, sP] (specP [sV, sP] [sP] (fun v => decide (chkV v.1 = 0)) fun v => (cellS v.1 v.2.1, ()))) U1
def BoxE (x : It) (s : Int) : Int := bif decide (chkL [x] = 0) then (bif decide (spN s) then 0 else 1) else chkL [x]
noncomputable def U3 : Table :=
  ext 13 (entV [sV, sP] (specP [sV, sP] [sP, sB, sI] (fun _ => true) fun v => ((CellS v.1 v.2.1).1, (CellS v.1 v.2.1).2.1, (CellS v.1 v.2.1).2.2, ()))) <|
  ext 18 (entV [sIt, sIt] (specP [sIt, sIt] [sB] (fun _ => true) fun v => (meetW v.1 v.2.1, ()))) <|
  ext 17 (entV [sIt, sI] (specP [sIt, sI] [sIt, sI] (fun _ => true) fun v => (bif decide (BoxE v.1 v.2.1 = 0) then boxS v.1 v.2.1 else zIt, BoxE v.1 v.2.1, ()))) TL
abbrev U17 : Table := ext 74 (entV [rIt] (specP [rIt] [sI] (fun _ => true) fun v => (chkL v.1.1, ()))) T1
/-! ### The law's loops -/
def lab1 (w h : Int) (v : Vw) (p : Pt) : List It := bif decide ((CellS v p).2.2 = 0) && (CellS v p).2.1 then [((CellS v p).1.1, (CellS v p).1.2, cutS w 1 8, cutS h 1 3)] else []
def labs (w h : Int) (v : Vw) (l : List Pt) : List It := l.flatMap (lab1 w h v)
abbrev kTa : List Shp := [sI, sI, bV, oIt, rP, sI, sI]
def preTa (acc : List It) (l : List Pt) (n k : Int) : Bool := decide (acc.length ≤ 100 + k ∧ n = l.length ∧ n ≤ 5 ∧ 0 ≤ k ∧ k ≤ n)
def labsK (w h : Int) (v : Vw) (l : List Pt) (k : Int) : List It := labs w h v (l.drop k.toNat)
def cTa : SpecC kTa := cut1 kTa [oIt] (fun v => preTa v.2.2.2.1.1 v.2.2.2.2.1.1 v.2.2.2.2.2.1 v.2.2.2.2.2.2.1) (.exit 0)
  (fun v => ((v.2.2.2.1.1 ++ labsK v.1 v.2.1 v.2.2.1 v.2.2.2.2.1.1 v.2.2.2.2.2.2.1, v.2.2.2.1.2 && (labsK v.1 v.2.1 v.2.2.1 v.2.2.2.2.1.1 v.2.2.2.2.2.2.1).isEmpty), ())) (same kTa)
def muTa : denA kTa → Nat := fun v => (v.2.2.2.2.2.1 - v.2.2.2.2.2.2.1).toNat
abbrev kTd : List Shp := [bIt, rIt, sI, sI]
def cTd (q : It → It → Bool) (id : Nat) : SpecC kTd := cut2 kTd [.un] [sB] (fun v => preFi v.2.1.1 v.2.2.1 v.2.2.2.1) (fun v => !((v.2.1.1.drop v.2.2.2.1.toNat).any (q v.1))) (.exit id) .ret (fun _ => ((), ())) (fun _ => (false, ())) (same kTd) (same kTd)
def muTd : denA kTd → Nat := fun v => (v.2.2.1 - v.2.2.2.1).toNat
abbrev kTb : List Shp := [rIt, rI, oIt, rIt, sI, sI]
noncomputable def preTb (l : List It) (p : List Int) (bs : List It) (l2 : List It) (n k : Int) : Bool := bp (l2 = l ∧ n = l.length ∧ l.length ≤ 6 ∧ p.length = l.length ∧ 0 ≤ k ∧ k ≤ n ∧ (∀ x ∈ l, okIt x) ∧ (∀ s ∈ p, spN s) ∧ bs = bxs l 0 (p.take k.toNat) ∧ okF l (p.take k.toNat) (p.drop k.toNat) = true)
noncomputable def cTb : SpecC kTb := cut1 kTb [.un] (fun v => preTb v.1.1 v.2.1.1 v.2.2.1.1 v.2.2.2.1.1 v.2.2.2.2.1 v.2.2.2.2.2.1) (.exit 2) (fun _ => ((), ())) (same kTb)
def muTb : denA kTb → Nat := fun v => (v.2.2.2.2.1 - v.2.2.2.2.2.1).toNat
end Go.Proofs.YtacdahpjmeianaaLb
