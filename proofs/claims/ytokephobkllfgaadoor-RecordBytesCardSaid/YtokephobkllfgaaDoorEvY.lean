/- What is laid here: shapes of parameters and of a loop's slots (values, slices that are only read, slices of one's own, closures, structs, pointers to structs of one's own), the memory that they stand for, and how a contract over them serves wherever the slices lie. No condition. -/
import Derived.Test.YtokephobkllfgaaDoorEvX
namespace Go.Proofs.YtokephobkllfgaaDoorEv
open Go

/-- A value of cells; a slice that is only read; one of one's own that is used up; one that is changed in place; a value that is given (a nil); a pointer to a variable that is only read; an array; a pointer to an array that is only read, or is one's own and changed in place. -/
inductive Sp where
  | v (s : Sh)
  | ro (k : Kd)
  | ow (k : Kd)
  | io (k : Kd)
  | con (v : Value)
  | bx (s : Sh)
  | ar (k : Kd) (n : Nat)
  | ba (k : Kd)
  | ia (k : Kd)
@[reducible] def Sp.den : Sp → Type
  | .v s => s.den
  | .ro k => List k.den × Bool
  | .ow k => List k.den × Bool
  | .io k => List k.den × Bool
  | .con _ => Unit
  | .bx s => s.den
  | .ar k _ => List k.den
  | .ba k => List k.den
  | .ia k => List k.den
@[reducible] def denS : List Sp → Type
  | [] => Unit
  | s :: r => s.den × denS r
/-- A simple one; a closure with what it captured; a struct; a pointer to a struct of one's own; nothing that is read; a slice of slices, so many, that is only read. -/
inductive Shp where
  | s (x : Sp)
  | fn (f : Nat) (cs : List Sp)
  | ag (cs : List Sp)
  | ob (cs : List Sp)
  | un
  | ss (cs : List Sp)
  /-- A pointer to a struct of one's own: a value, N elements of a kind, a value. -/
  | om (a : Sh) (k : Kd) (N : Nat) (b : Sh)
@[reducible] def Shp.den : Shp → Type
  | .s x => x.den
  | .fn _ cs => denS cs
  | .ag cs => denS cs
  | .ob cs => denS cs
  | .un => Unit
  | .ss cs => denS cs
  | .om a k _ b => a.den × List k.den × b.den
@[reducible] def denA : List Shp → Type
  | [] => Unit
  | s :: r => s.den × denA r

def slV (n : Nat) (k : Kd) (x : List k.den × Bool) : PV := .sl n 0 k.sz x.1.length x.1.length false x.2
def showSp (n : Nat) : (s : Sp) → s.den → PV × List Blk
  | .v s, x => (s.pv x, [])
  | .ro k, x => (slV n k x, [.row false k x.1])
  | .ow k, x => (slV n k x, [.row true k x.1])
  | .io k, x => (slV n k x, [.row true k x.1])
  | .con v, _ => (.sc v, [])
  | .bx s, x => (.ptr n 0 1 0, [.fix false (scs (s.kd.vals x))])
  | .ar k l, x => (.arr k l x, [])
  | .ba k, x => (.ptr n 0 k.sz 0, [.row false k x])
  | .ia k, x => (.ptr n 0 k.sz 0, [.row true k x])
def cellSp (n : Nat) : (s : Sp) → s.den → List PV × List Blk
  | .v s, x => (scs (s.kd.vals x), [])
  | .ro k, x => ([slV n k x], [.row false k x.1])
  | .ow k, x => ([slV n k x], [.row true k x.1])
  | .io k, x => ([slV n k x], [.row true k x.1])
  | .con v, _ => ([.sc v], [])
  | .bx s, x => ([.ptr n 0 1 0], [.fix false (scs (s.kd.vals x))])
  | .ar k _, x => (scs (x.flatMap k.vals), [])
  | .ba k, x => ([.ptr n 0 k.sz 0], [.row false k x])
  | .ia k, x => ([.ptr n 0 k.sz 0], [.row true k x])
def showS : (n : Nat) → (cs : List Sp) → denS cs → List PV × List Blk
  | _, [], _ => ([], [])
  | n, s :: r, x => ((showSp n s x.1).1 :: (showS (n + (showSp n s x.1).2.length) r x.2).1, (showSp n s x.1).2 ++ (showS (n + (showSp n s x.1).2.length) r x.2).2)
def showC : (n : Nat) → (cs : List Sp) → denS cs → List PV × List Blk
  | _, [], _ => ([], [])
  | n, s :: r, x => ((cellSp n s x.1).1 ++ (showC (n + (cellSp n s x.1).2.length) r x.2).1, (cellSp n s x.1).2 ++ (showC (n + (cellSp n s x.1).2.length) r x.2).2)
def showShp (n : Nat) : (s : Shp) → s.den → PV × List Blk
  | .s x, d => showSp n x d
  | .fn f cs, d => (.fn f (showS n cs d).1, (showS n cs d).2)
  | .ag cs, d => (.agg (showC n cs d).1, (showC n cs d).2)
  | .ob cs, d => (.ptr n 0 1 0, .fix true (showC (n + 1) cs d).1 :: (showC (n + 1) cs d).2)
  | .un, _ => (.undef, [])
  | .ss cs, d => (.sl n 0 1 cs.length cs.length false false, .fix false (showC (n + 1) cs d).1 :: (showC (n + 1) cs d).2)
  | .om a k N b, d => (.ptr n 0 1 0, [.mix true (scs (a.kd.vals d.1)) k N d.2.1 (scs (b.kd.vals d.2.2))])
def showA : (n : Nat) → (ks : List Shp) → denA ks → List PV × List Blk
  | _, [], _ => ([], [])
  | n, s :: r, x => ((showShp n s x.1).1 :: (showA (n + (showShp n s x.1).2.length) r x.2).1, (showShp n s x.1).2 ++ (showA (n + (showShp n s x.1).2.length) r x.2).2)

/-! ### Reading values as shapes -/
/-- Where a block of the contract's lies among the caller's: the block, and the cells that are left out before it. -/
abbrev Bd := Option (Nat × Nat)
def rdSl (H : List Blk) (k : Kd) : PV → Option ((List k.den × Bool) × List Bd × List Bool)
  | .sl i e sz len _ _ nl =>
    (match getB H i with
     | some (.row _ k' l) =>
       if h : k' = k then bif Nat.beq sz k.sz then some (((((h ▸ l : List k.den).drop e).take len), nl), [some (i, e * sz)], [decide (e + len ≤ l.length)]) else none
       else none
     | _ => none)
  | .sc (.slice none 0 0) => some (([], true), [none], [])
  | _ => none
def ownSl (H : List Blk) (k : Kd) : PV → Option ((List k.den × Bool) × List Bd × List Bool)
  | .sl i e sz len _ _ nl =>
    (match getB H i with
     | some (.row true k' l) =>
       if h : k' = k then bif Nat.beq sz k.sz && Nat.beq e 0 then some (((h ▸ l : List k.den), nl), [some (i, 0)], [decide (len = l.length)]) else none
       else none
     | _ => none)
  | .sc (.slice none 0 0) => some (([], true), [none], [])
  | _ => none
def unscT : Nat → List PV → Option (List Value × List PV)
  | 0, r => some ([], r)
  | n + 1, .sc v :: r => (match unscT n r with
    | some (vs, q) => some (v :: vs, q)
    | none => none)
  | _ + 1, _ => none
def rdBx (H : List Blk) (s : Sh) : PV → Option (s.den × List Bd × List Bool)
  | .ptr i e sz j =>
    (match getB H i with
     | some (.fix _ cells) => bif Nat.beq e 0 && Nat.beq sz 1 && Nat.beq j 0 then (match unscT s.kd.sz cells with
       | some (vs, []) => (match s.kd.parse vs with
         | some (x, []) => some (x, [some (i, 0)], [])
         | _ => none)
       | _ => none) else none
     | _ => none)
  | _ => none
def rdArr (k : Kd) (l : Nat) : PV → Option (List k.den)
  | .arr k' l' xs => if h : k' = k then bif Nat.beq l' l then some (h ▸ xs : List k.den) else none else none
  | _ => none
def rdBa (H : List Blk) (k : Kd) : PV → Option (List k.den × List Bd × List Bool)
  | .ptr i e sz j =>
    (match getB H i with
     | some (.row _ k' l) => if h : k' = k then bif Nat.beq e 0 && Nat.beq sz k.sz && Nat.beq j 0 then some ((h ▸ l : List k.den), [some (i, 0)], []) else none else none
     | _ => none)
  | _ => none
def ownBa (H : List Blk) (k : Kd) : PV → Option (List k.den × List Bd × List Bool)
  | .ptr i e sz j =>
    (match getB H i with
     | some (.row true k' l) => if h : k' = k then bif Nat.beq e 0 && Nat.beq sz k.sz && Nat.beq j 0 then some ((h ▸ l : List k.den), [some (i, 0)], []) else none else none
     | _ => none)
  | _ => none
def parseSp (H : List Blk) : (s : Sp) → PV → Option (s.den × List Bd × List Bool)
  | .v s, p => (match s.parse p with
    | some x => some (x, [], [])
    | none => none)
  | .ro k, p => rdSl H k p
  | .ow k, p => ownSl H k p
  | .io k, p => ownSl H k p
  | .con _, _ => none
  | .bx s, p => rdBx H s p
  | .ar k l, p => (match rdArr k l p with
    | some x => some (x, [], [])
    | none => none)
  | .ba k, p => rdBa H k p
  | .ia k, p => ownBa H k p
def isNil : Value → Bool
  | .slice none 0 0 => true
  | _ => false
theorem isNil_eq {v : Value} (h : isNil v = true) : v = .slice none 0 0 := by
  unfold isNil at h
  split at h
  · rfl
  · cases h
def parseCell (H : List Blk) : (s : Sp) → List PV → Option (s.den × List Bd × List Bool × List PV)
  | .v s, ps => (match unscT s.kd.sz ps with
    | some (vs, q) => (match s.kd.parse vs with
      | some (x, []) => some (x, [], [], q)
      | _ => none)
    | none => none)
  | .ro k, p :: q => (match rdSl H k p with
    | some (x, b, g) => some (x, b, g, q)
    | none => none)
  | .ow k, p :: q => (match ownSl H k p with
    | some (x, b, g) => some (x, b, g, q)
    | none => none)
  | .io k, p :: q => (match ownSl H k p with
    | some (x, b, g) => some (x, b, g, q)
    | none => none)
  | .bx s, p :: q => (match rdBx H s p with
    | some (x, b, g) => some (x, b, g, q)
    | none => none)
  | .ba k, p :: q => (match rdBa H k p with
    | some (x, b, g) => some (x, b, g, q)
    | none => none)
  | .con v, .sc u :: q => bif isNil v && isNil u then some ((), [], [], q) else none
  | _, _ => none
def parseS (H : List Blk) : (cs : List Sp) → List PV → Option (denS cs × List Bd × List Bool)
  | [], [] => some ((), [], [])
  | s :: r, p :: ps =>
    (match parseSp H s p with
     | some (x, b, g) => (match parseS H r ps with
       | some (y, b', g') => some ((x, y), b ++ b', g ++ g')
       | none => none)
     | none => none)
  | _, _ => none
def parseC (H : List Blk) : (cs : List Sp) → List PV → Option (denS cs × List Bd × List Bool)
  | [], [] => some ((), [], [])
  | s :: r, ps =>
    (match parseCell H s ps with
     | some (x, b, g, q) => (match parseC H r q with
       | some (y, b', g') => some ((x, y), b ++ b', g ++ g')
       | none => none)
     | none => none)
  | _, _ => none
def rdOm (H : List Blk) (a : Sh) (k : Kd) (N : Nat) (b : Sh) : PV → Option ((a.den × List k.den × b.den) × List Bd × List Bool)
  | .ptr i e sz j =>
    (match getB H i with
     | some (.mix true pre k' N' xs post) =>
       if h : k' = k then bif Nat.beq e 0 && Nat.beq sz 1 && Nat.beq j 0 && Nat.beq N' N then
         (match unscT a.kd.sz pre, unscT b.kd.sz post with
          | some (vs, []), some (ws, []) => (match a.kd.parse vs, b.kd.parse ws with
            | some (x, []), some (y, []) => some ((x, (h ▸ xs : List k.den), y), [some (i, 0)], [])
            | _, _ => none)
          | _, _ => none) else none else none
     | _ => none)
  | _ => none
def parseShp (H : List Blk) : (s : Shp) → PV → Option (s.den × List Bd × List Bool)
  | .s x, p => parseSp H x p
  | .fn f cs, .fn g caps => bif Nat.beq g f then parseS H cs caps else none
  | .ag cs, .agg cells => parseC H cs cells
  | .ob cs, .ptr i e sz j =>
    (match getB H i with
     | some (.fix true cells) => bif Nat.beq e 0 && Nat.beq sz 1 && Nat.beq j 0 then (match parseC H cs cells with
       | some (x, b, g) => some (x, some (i, 0) :: b, g)
       | none => none) else none
     | _ => none)
  | .un, _ => some ((), [], [])
  | .ss cs, .sl i e sz len _ _ nl =>
    (match getB H i with
     | some (.fix _ cells) => bif Nat.beq e 0 && Nat.beq sz 1 && Nat.beq len cs.length && !nl && Nat.ble 1 cs.length then (match parseC H cs cells with
       | some (x, b, g) => some (x, some (i, 0) :: b, g)
       | none => none) else none
     | _ => none)
  | .om a k N b, p => rdOm H a k N b p
  | _, _ => none
def parseA (H : List Blk) : (ks : List Shp) → List PV → Option (denA ks × List Bd × List Bool)
  | [], [] => some ((), [], [])
  | s :: r, p :: ps =>
    (match parseShp H s p with
     | some (x, b, g) => (match parseA H r ps with
       | some (y, b', g') => some ((x, y), b ++ b', g ++ g')
       | none => none)
     | none => none)
  | _, _ => none

/-- Where a block of the contract's lies in the machine. -/
def viewAt (m : Inj) : Bd → Option (Nat × Nat × Nat)
  | some (i, sh) => (match m i with
    | some (b, base, t) => some (b, base + sh, t)
    | none => none)
  | none => none
def viewInj (m : Inj) (bs : List Bd) : Inj := fun c =>
  match bs[c]? with
  | some b => viewAt m b
  | none => none

/-- The bound blocks are there; those of the contract's own are the caller's own. -/
def Bnd (H : List Blk) (bs : List Bd) (Bs : List Blk) : Prop :=
  bs.length = Bs.length ∧ ∀ (j i sh : Nat) (B : Blk), bs[j]? = some (some (i, sh)) → Bs[j]? = some B → ∃ B0, getB H i = some B0 ∧ B0 ≠ .dead ∧ (B.own = true → B0.own = true ∧ sh = 0)
def Alive (Bs : List Blk) : Prop := ∀ (j : Nat) (B : Blk), Bs[j]? = some B → B ≠ .dead
theorem Bnd.nil {H : List Blk} : Bnd H [] [] := ⟨rfl, fun j i sh B h => by simp at h⟩
theorem Bnd.app {H : List Blk} {a b : List Bd} {A B : List Blk} (h : Bnd H a A) (k : Bnd H b B) : Bnd H (a ++ b) (A ++ B) := by
  refine ⟨by simp [h.1, k.1], fun j i sh C h1 h2 => ?_⟩
  by_cases hj : j < a.length
  · rw [List.getElem?_append_left hj] at h1
    rw [List.getElem?_append_left (by rw [← h.1]; exact hj)] at h2
    exact h.2 j i sh C h1 h2
  · rw [List.getElem?_append_right (by omega)] at h1
    rw [List.getElem?_append_right (by rw [← h.1]; omega), ← h.1] at h2
    exact k.2 _ i sh C h1 h2

section
variable {H : List Blk} {m m' : Inj} {w : World}
/-- What holds of a shape that was read, wherever its blocks are counted from. -/
def Fit1 (H : List Blk) (n : Nat) (p q : PV) (bs : List Bd) (Bs : List Blk) : Prop :=
  Bnd H bs Bs ∧ ∀ (m m' : Inj) (w : World), (∀ i B, getB H i = some B → BRep m w i B) → (∀ (j : Nat) (b : Bd), bs[j]? = some b → m' (n + j) = viewAt m b) →
    (∀ u, Rv m p u → Rv m' q u) ∧ ∀ (j : Nat) (B : Blk), Bs[j]? = some B → (∃ u, Rv m p u) → BRep m' w (n + j) B
def FitL (H : List Blk) (n : Nat) (ps qs : List PV) (bs : List Bd) (Bs : List Blk) : Prop :=
  Bnd H bs Bs ∧ ps.length = qs.length ∧ ∀ (m m' : Inj) (w : World), (∀ i B, getB H i = some B → BRep m w i B) → (∀ (j : Nat) (b : Bd), bs[j]? = some b → m' (n + j) = viewAt m b) →
    (∀ (k : Nat) (p q : PV), ps[k]? = some p → qs[k]? = some q → ∀ u, Rv m p u → Rv m' q u) ∧ ∀ (j : Nat) (B : Blk), Bs[j]? = some B → (∃ us, Rvs m ps us) → BRep m' w (n + j) B
theorem FitL.rvs {n : Nat} {ps qs : List PV} {bs : List Bd} {Bs : List Blk} (h : FitL H n ps qs bs Bs) (hr : ∀ i B, getB H i = some B → BRep m w i B) (hm : ∀ (j : Nat) (b : Bd), bs[j]? = some b → m' (n + j) = viewAt m b)
    {us : List Value} (hu : Rvs m ps us) : Rvs m' qs us := by
  refine Rvs.of_get (by rw [← h.2.1]; exact hu.length) ?_
  intro k q u hq hk
  have hl : k < qs.length := (List.getElem?_eq_some_iff.1 hq).1
  obtain ⟨p, hp⟩ : ∃ p, ps[k]? = some p := ⟨ps[k]'(by rw [h.2.1]; exact hl), List.getElem?_eq_getElem _⟩
  obtain ⟨u', h1, h2⟩ := hu.get hp
  rw [hk] at h1; cases h1
  exact (h.2.2 m m' w hr hm).1 k p q hp hq u h2
theorem FitL.nil {n : Nat} : FitL H n [] [] [] [] := ⟨Bnd.nil, rfl, fun m m' w _ _ => ⟨fun k p q h => by simp at h, fun j B h => by simp at h⟩⟩
theorem Rvs.split {ps qs : List PV} : ∀ {us : List Value}, Rvs m (ps ++ qs) us → ∃ a b, us = a ++ b ∧ Rvs m ps a ∧ Rvs m qs b := by
  induction ps with
  | nil => intro us h; exact ⟨[], us, rfl, Rvs.nil, h⟩
  | cons p ps ih =>
    intro us h
    rw [List.cons_append] at h
    unfold Rvs at h; obtain ⟨v, r, rfl, h2, h3⟩ := h
    obtain ⟨a, b, rfl, h4, h5⟩ := ih h3
    exact ⟨v :: a, b, rfl, Rvs.cons h2 h4, h5⟩
theorem FitL.app {n : Nat} {ps qs ps' qs' : List PV} {bs bs' : List Bd} {Bs Bs' : List Blk} (h : FitL H n ps qs bs Bs) (k : FitL H (n + Bs.length) ps' qs' bs' Bs') : FitL H n (ps ++ ps') (qs ++ qs') (bs ++ bs') (Bs ++ Bs') := by
  refine ⟨h.1.app k.1, by simp [h.2.1, k.2.1], fun m m' w hr hm => ?_⟩
  have hm1 : ∀ (j : Nat) (b : Bd), bs[j]? = some b → m' (n + j) = viewAt m b := fun j b hb => hm j b (by rw [List.getElem?_append_left (List.getElem?_eq_some_iff.1 hb).1]; exact hb)
  have hm2 : ∀ (j : Nat) (b : Bd), bs'[j]? = some b → m' (n + Bs.length + j) = viewAt m b := fun j b hb => by
    have := hm (bs.length + j) b (by rw [List.getElem?_append_right (by omega)]; simpa using hb)
    rw [h.1.1] at this; rw [Nat.add_assoc]; exact this
  obtain ⟨a1, a2⟩ := h.2.2 m m' w hr hm1
  obtain ⟨b1, b2⟩ := k.2.2 m m' w hr hm2
  constructor
  · intro c p q hp hq u hu
    by_cases hc : c < ps.length
    · rw [List.getElem?_append_left hc] at hp
      rw [List.getElem?_append_left (by rw [← h.2.1]; exact hc)] at hq
      exact a1 c p q hp hq u hu
    · rw [List.getElem?_append_right (by omega)] at hp
      rw [List.getElem?_append_right (by rw [← h.2.1]; omega), ← h.2.1] at hq
      exact b1 _ p q hp hq u hu
  · rintro j B hB ⟨us, hus⟩
    obtain ⟨a, b, rfl, ha, hb⟩ := Rvs.split hus
    by_cases hj : j < Bs.length
    · rw [List.getElem?_append_left hj] at hB
      exact a2 j B hB ⟨a, ha⟩
    · rw [List.getElem?_append_right (by omega)] at hB
      have := b2 _ B hB ⟨b, hb⟩
      rwa [show n + Bs.length + (j - Bs.length) = n + j by omega] at this
theorem Fit1.one {n : Nat} {p q : PV} {bs : List Bd} {Bs : List Blk} (h : Fit1 H n p q bs Bs) : FitL H n [p] [q] bs Bs := by
  refine ⟨h.1, rfl, fun m m' w hr hm => ?_⟩
  obtain ⟨a1, a2⟩ := h.2 m m' w hr hm
  refine ⟨fun k p' q' hp hq => ?_, fun j B hB hu => ?_⟩
  · cases k with
    | zero => simp at hp hq; subst hp; subst hq; exact a1
    | succ k => simp at hp
  · obtain ⟨us, hus⟩ := hu
    obtain ⟨v, _, hv⟩ := Rvs.of_one hus
    exact a2 j B hB ⟨v, hv⟩
theorem scs_fit {n : Nat} (vs : List Value) : FitL H n (scs vs) (scs vs) [] [] := by
  refine ⟨Bnd.nil, rfl, fun m m' w _ _ => ⟨fun k p q hp hq u hu => ?_, fun j B h => by simp at h⟩⟩
  rw [hp] at hq; cases hq
  simp only [scs, List.getElem?_map, Option.map_eq_some_iff] at hp
  obtain ⟨v, _, rfl⟩ := hp
  unfold Rv at hu ⊢; exact hu
theorem pv_fit {n : Nat} (s : Sh) (x : s.den) : Fit1 H n (s.pv x) (s.pv x) [] [] := by
  refine ⟨Bnd.nil, fun m m' w _ _ => ⟨fun u hu => ?_, fun j B h => by simp at h⟩⟩
  obtain ⟨st, kd⟩ := s
  cases st with
  | true =>
    unfold Sh.pv at hu ⊢
    simp only [] at hu ⊢
    unfold Rv at hu ⊢
    obtain ⟨us, rfl, hr⟩ := hu
    exact ⟨us, rfl, by rw [Rvs_scs_eq hr]; exact Rvs_scs _⟩
  | false =>
    unfold Sh.pv at hu ⊢
    simp only [] at hu ⊢
    generalize kd.vals x = l at hu ⊢
    match l, hu with
    | [], _ => unfold oneSc Rv; trivial
    | [v], hu => unfold oneSc at hu ⊢; unfold Rv at hu ⊢; exact hu
    | _ :: _ :: _, _ => unfold oneSc Rv; trivial
theorem row_cs {o o' : Bool} {k : Kd} {xs : List k.den} : (Blk.row o k xs).cs = (Blk.row o' k xs).cs := rfl
theorem nil_fit {n : Nat} {k : Kd} {o : Bool} : Fit1 H n (.sc (.slice none 0 0)) (slV n k ([], true)) [none] [.row o k []] := by
  refine ⟨⟨rfl, fun j i sh B h => ?_⟩, fun m m' w hr hm => ⟨fun u hu => ?_, fun j B hB _ => ?_⟩⟩
  · cases j <;> simp at h
  · unfold Rv at hu; subst hu
    unfold slV Rv; exact Or.inl ⟨rfl, rfl, none, rfl, rfl⟩
  · cases j with
    | zero =>
      simp at hB; subst hB
      exact Or.inr (Or.inl ⟨hm 0 none rfl, o, k, rfl⟩)
    | succ j => simp at hB
theorem rdSl_fit {n : Nat} {k : Kd} {p : PV} {x : List k.den × Bool} {bs : List Bd} {gs : List Bool} (h : rdSl H k p = some (x, bs, gs)) (hg : ∀ g ∈ gs, g = true) : Fit1 H n p (slV n k x) bs [.row false k x.1] := by
  unfold rdSl at h
  split at h
  · rename_i i e sz len lo full nl
    split at h
    · rename_i o k' l hB
      split at h
      · rename_i hk
        subst hk
        cases hs : Nat.beq sz k'.sz with
        | false => rw [hs] at h; simp at h
        | true =>
          rw [hs] at h
          simp only [cond_true, Option.some.injEq, Prod.mk.injEq] at h
          obtain ⟨rfl, rfl, rfl⟩ := h
          obtain rfl := Nat.eq_of_beq_eq_true hs
          have hle := hg _ (List.mem_singleton.2 rfl)
          simp only [decide_eq_true_eq] at hle
          have hlen : ((l.drop e).take len).length = len := by rw [List.length_take, List.length_drop]; omega
          refine ⟨⟨rfl, fun j i' sh B h1 h2 => ?_⟩, fun m m' w hr hm => ⟨fun u hu => ?_, fun j B hB2 hu => ?_⟩⟩
          · cases j with
            | zero =>
              simp at h1 h2; obtain ⟨rfl, rfl⟩ := h1; subst h2
              exact ⟨_, hB, by simp, fun h => by simp [Blk.own] at h⟩
            | succ j => simp at h1
          · have hm0 := hm 0 _ rfl
            simp only [viewAt, Nat.add_zero] at hm0
            unfold slV
            simp only [hlen]
            unfold Rv at hu ⊢
            rcases hu with ⟨a, b, d⟩ | ⟨a, b, base, t, cap, off, h1, rfl, h3, h4, h5, h6, h7⟩
            · exact Or.inl ⟨a, a, d⟩
            · refine Or.inr ⟨a, b, base + e * k'.sz, t, cap, off, ?_, rfl, Nat.le_refl _, by omega, fun h => (nomatch h), fun h => by rw [h6 h]; omega, h7⟩
              rw [hm0, h1]
          · cases j with
            | succ j => simp at hB2
            | zero =>
              simp at hB2; subst hB2
              have hm0 := hm 0 _ rfl
              simp only [viewAt] at hm0
              rcases hr i _ hB with h | ⟨h, o', k2, h2⟩ | ⟨b, base, t, c, el, fz, h1, h2, h3, h4, h5⟩
              · cases h
              · cases h2
                refine Or.inr (Or.inl ⟨by rw [hm0, h], false, k', by simp⟩)
              · rw [h1] at hm0
                refine Or.inr (Or.inr ⟨b, base + e * k'.sz, t, c, el, fz, hm0, h2, h3, fun h => by simp [Blk.own] at h, fun q p hq => ?_⟩)
                have hq2 : (Blk.row o k' l).cs[e * k'.sz + q]? = some p := by
                  simp only [Blk.cs] at hq ⊢
                  rw [← flat_take, ← flat_drop, ← scs_take, ← scs_drop, List.getElem?_take] at hq
                  split at hq
                  · rwa [List.getElem?_drop] at hq
                  · cases hq
                obtain ⟨u, g1, g2⟩ := h5 _ p hq2
                simp only [Blk.cs, scs, List.getElem?_map, Option.map_eq_some_iff] at hq
                obtain ⟨v, _, rfl⟩ := hq
                exact ⟨u, by rw [Nat.add_assoc]; exact g1, by unfold Rv at g2 ⊢; exact g2⟩
      · cases h
    · cases h
  · simp only [Option.some.injEq, Prod.mk.injEq] at h
    obtain ⟨rfl, rfl, rfl⟩ := h
    exact nil_fit
  · cases h
theorem ownSl_fit {n : Nat} {k : Kd} {p : PV} {x : List k.den × Bool} {bs : List Bd} {gs : List Bool} (h : ownSl H k p = some (x, bs, gs)) (hg : ∀ g ∈ gs, g = true) : Fit1 H n p (slV n k x) bs [.row true k x.1] := by
  unfold ownSl at h
  split at h
  · rename_i i e sz len lo full nl
    split at h
    · rename_i k' l hB
      split at h
      · rename_i hk
        subst hk
        cases hs : (Nat.beq sz k'.sz && Nat.beq e 0) with
        | false => rw [hs] at h; simp at h
        | true =>
          rw [hs] at h
          simp only [cond_true, Option.some.injEq, Prod.mk.injEq] at h
          obtain ⟨rfl, rfl, rfl⟩ := h
          simp only [Bool.and_eq_true, Nat.beq_eq] at hs
          obtain ⟨rfl, rfl⟩ := hs
          have hle := hg _ (List.mem_singleton.2 rfl)
          simp only [decide_eq_true_eq] at hle
          refine ⟨⟨rfl, fun j i' sh B h1 h2 => ?_⟩, fun m m' w hr hm => ⟨fun u hu => ?_, fun j B hB2 hu => ?_⟩⟩
          · cases j with
            | zero =>
              simp at h1 h2; obtain ⟨rfl, rfl⟩ := h1; subst h2
              exact ⟨_, hB, by simp, fun _ => ⟨rfl, rfl⟩⟩
            | succ j => simp at h1
          · have hm0 := hm 0 _ rfl
            simp only [viewAt, Nat.add_zero] at hm0
            unfold slV
            simp only [← hle]
            unfold Rv at hu ⊢
            rcases hu with ⟨a, b, d⟩ | ⟨a, b, base, t, cap, off, h1, rfl, h3, h4, h5, h6, h7⟩
            · exact Or.inl ⟨a, a, d⟩
            · refine Or.inr ⟨a, b, base, t, cap, off, ?_, rfl, Nat.le_refl _, by omega, fun h => (nomatch h), fun h => h6 h, h7⟩
              rw [hm0, h1]
          · cases j with
            | succ j => simp at hB2
            | zero =>
              simp at hB2; subst hB2
              have hm0 := hm 0 _ rfl
              simp only [viewAt, Nat.add_zero] at hm0
              have hm1 : m' (n + 0) = m i := by
                rw [Nat.add_zero, hm0]
                cases m i with
                | none => rfl
                | some x => rfl
              rcases hr i _ hB with h | ⟨h, o', k2, h2⟩ | ⟨b, base, t, c, el, fz, h1, h2, h3, h4, h5⟩
              · cases h
              · cases h2
                exact Or.inr (Or.inl ⟨by rw [hm1, h], true, k', rfl⟩)
              · refine Or.inr (Or.inr ⟨b, base, t, c, el, fz, by rw [hm1, h1], h2, h3, h4, fun q p hq => ?_⟩)
                obtain ⟨u, g1, g2⟩ := h5 _ p hq
                simp only [Blk.cs, scs, List.getElem?_map, Option.map_eq_some_iff] at hq
                obtain ⟨v, _, rfl⟩ := hq
                exact ⟨u, g1, by unfold Rv at g2 ⊢; exact g2⟩
      · cases h
    · cases h
  · simp only [Option.some.injEq, Prod.mk.injEq] at h
    obtain ⟨rfl, rfl, rfl⟩ := h
    exact nil_fit
  · cases h
theorem unscT_some : ∀ {n : Nat} {ps q : List PV} {vs : List Value}, unscT n ps = some (vs, q) → ps = scs vs ++ q
  | 0, ps, q, vs, h => by simp [unscT] at h; obtain ⟨rfl, rfl⟩ := h; rfl
  | n + 1, [], q, vs, h => by simp [unscT] at h
  | n + 1, p :: ps, q, vs, h => by
    cases p with
    | sc v =>
      simp only [unscT] at h
      cases hu : unscT n ps with
      | none => rw [hu] at h; simp at h
      | some y =>
        obtain ⟨us, q'⟩ := y
        rw [hu] at h; simp at h; obtain ⟨rfl, rfl⟩ := h
        rw [unscT_some hu]; rfl
    | _ => simp [unscT] at h
theorem rdBx_fit {n : Nat} {s : Sh} {p : PV} {x : s.den} {bs : List Bd} {gs : List Bool} (h : rdBx H s p = some (x, bs, gs)) : Fit1 H n p (.ptr n 0 1 0) bs [.fix false (scs (s.kd.vals x))] := by
  unfold rdBx at h
  split at h
  · rename_i i e sz j
    split at h
    · rename_i o cells hB
      cases hb : (Nat.beq e 0 && Nat.beq sz 1 && Nat.beq j 0) with
      | false => rw [hb] at h; simp at h
      | true =>
        rw [hb] at h; simp only [cond_true] at h
        simp only [Bool.and_eq_true, Nat.beq_eq] at hb
        obtain ⟨⟨rfl, rfl⟩, rfl⟩ := hb
        split at h
        · rename_i vs hu
          split at h
          · rename_i y hp
            simp only [Option.some.injEq, Prod.mk.injEq] at h
            obtain ⟨rfl, rfl, rfl⟩ := h
            have h1 := unscT_some hu
            have h2 := s.kd.parse_eq hp
            rw [List.append_nil] at h1 h2
            refine ⟨⟨rfl, fun j i' sh B h1 h2 => ?_⟩, fun m m' w hr hm => ?_⟩
            · cases j with
              | zero =>
                simp at h1 h2; obtain ⟨rfl, rfl⟩ := h1; subst h2
                exact ⟨_, hB, by simp, fun h => by simp [Blk.own] at h⟩
              | succ j => simp at h1
            · have hm0 : m' n = m i := by
                have := hm 0 (some (i, 0)) rfl
                simp only [viewAt, Nat.add_zero] at this
                rw [this]
                cases m i with
                | none => rfl
                | some x => rfl
              constructor
              · intro u hu
                unfold Rv at hu ⊢; obtain ⟨bb, base, t, g1, g2⟩ := hu
                exact ⟨bb, base, t, by rw [hm0, g1], g2⟩
              · rintro j B hB2 ⟨u, hu⟩
                cases j with
                | succ j => simp at hB2
                | zero =>
                  simp at hB2; subst hB2
                  unfold Rv at hu; obtain ⟨bb, base, t, g1, _⟩ := hu
                  rcases hr i _ hB with h | ⟨h, _⟩ | ⟨b, base', t', c, el, fz, k1, k2, k3, k4, k5⟩
                  · cases h
                  · rw [h] at g1; cases g1
                  · refine Or.inr (Or.inr ⟨b, base', t', c, el, fz, by rw [Nat.add_zero, hm0, k1], k2, k3, fun h => by simp [Blk.own] at h, fun q p hq => ?_⟩)
                    rw [← h2] at hq
                    obtain ⟨u', q1, q2⟩ := k5 q p (by simp only [Blk.cs] at hq ⊢; rw [h1]; exact hq)
                    simp only [Blk.cs, scs, List.getElem?_map, Option.map_eq_some_iff] at hq
                    obtain ⟨v, _, rfl⟩ := hq
                    exact ⟨u', q1, by unfold Rv at q2 ⊢; exact q2⟩
          · cases h
        · cases h
    · cases h
  · cases h
theorem rdArr_fit {n l : Nat} {k : Kd} {p : PV} {x : List k.den} (h : rdArr k l p = some x) : Fit1 H n p (.arr k l x) [] [] := by
  unfold rdArr at h
  split at h
  · split at h
    · rename_i hk
      subst hk
      rename_i l' xs
      cases hb : Nat.beq l' l with
      | false => rw [hb] at h; simp at h
      | true =>
        rw [hb] at h
        simp only [cond_true, Option.some.injEq] at h
        subst h
        obtain rfl := Nat.eq_of_beq_eq_true hb
        exact ⟨Bnd.nil, fun m m' w _ _ => ⟨fun u hu => by unfold Rv at hu ⊢; exact hu, fun j B h => by simp at h⟩⟩
    · cases h
  · cases h
theorem arr_fit {n i : Nat} {o o' : Bool} {k : Kd} {l : List k.den} (hB : getB H i = some (.row o k l)) (ho : o' = true → o = true) : Fit1 H n (.ptr i 0 k.sz 0) (.ptr n 0 k.sz 0) [some (i, 0)] [.row o' k l] := by
  refine ⟨⟨rfl, fun j i' sh B h1 h2 => ?_⟩, fun m m' w hr hm => ?_⟩
  · cases j with
    | zero =>
      simp at h1 h2; obtain ⟨rfl, rfl⟩ := h1; subst h2
      exact ⟨_, hB, by simp, fun h => ⟨ho h, rfl⟩⟩
    | succ j => simp at h1
  · have hm0 : m' n = m i := by
      have := hm 0 (some (i, 0)) rfl
      simp only [viewAt, Nat.add_zero] at this
      rw [this]
      cases m i with
      | none => rfl
      | some x => rfl
    constructor
    · intro u hu
      unfold Rv at hu ⊢; obtain ⟨bb, base, t, g1, g2⟩ := hu
      exact ⟨bb, base, t, by rw [hm0, g1], g2⟩
    · rintro j B hB2 ⟨u, hu⟩
      cases j with
      | succ j => simp at hB2
      | zero =>
        simp at hB2; subst hB2
        unfold Rv at hu; obtain ⟨bb, base, t, g1, _⟩ := hu
        rcases hr i _ hB with h | ⟨h, _⟩ | ⟨b, base', t', c, el, fz, k1, k2, k3, k4, k5⟩
        · cases h
        · rw [h] at g1; cases g1
        · refine Or.inr (Or.inr ⟨b, base', t', c, el, fz, by rw [Nat.add_zero, hm0, k1], k2, k3, fun h => k4 (ho h), fun q p hq => ?_⟩)
          obtain ⟨u', q1, q2⟩ := k5 q p hq
          simp only [Blk.cs, scs, List.getElem?_map, Option.map_eq_some_iff] at hq
          obtain ⟨v, _, rfl⟩ := hq
          exact ⟨u', q1, by unfold Rv at q2 ⊢; exact q2⟩
theorem rdBa_fit {n : Nat} {k : Kd} {p : PV} {x : List k.den} {bs : List Bd} {gs : List Bool} (h : rdBa H k p = some (x, bs, gs)) : Fit1 H n p (.ptr n 0 k.sz 0) bs [.row false k x] := by
  unfold rdBa at h
  split at h
  · rename_i i e sz j
    split at h
    · rename_i o k' l hB
      split at h
      · rename_i hk
        subst hk
        cases hb : (Nat.beq e 0 && Nat.beq sz k'.sz && Nat.beq j 0) with
        | false => rw [hb] at h; simp at h
        | true =>
          rw [hb] at h
          simp only [cond_true, Option.some.injEq, Prod.mk.injEq] at h
          obtain ⟨rfl, rfl, rfl⟩ := h
          simp only [Bool.and_eq_true, Nat.beq_eq] at hb
          obtain ⟨⟨rfl, rfl⟩, rfl⟩ := hb
          exact arr_fit hB (fun h => (nomatch h))
      · cases h
    · cases h
  · cases h
theorem ownBa_fit {n : Nat} {k : Kd} {p : PV} {x : List k.den} {bs : List Bd} {gs : List Bool} (h : ownBa H k p = some (x, bs, gs)) : Fit1 H n p (.ptr n 0 k.sz 0) bs [.row true k x] := by
  unfold ownBa at h
  split at h
  · rename_i i e sz j
    split at h
    · rename_i k' l hB
      split at h
      · rename_i hk
        subst hk
        cases hb : (Nat.beq e 0 && Nat.beq sz k'.sz && Nat.beq j 0) with
        | false => rw [hb] at h; simp at h
        | true =>
          rw [hb] at h
          simp only [cond_true, Option.some.injEq, Prod.mk.injEq] at h
          obtain ⟨rfl, rfl, rfl⟩ := h
          simp only [Bool.and_eq_true, Nat.beq_eq] at hb
          obtain ⟨⟨rfl, rfl⟩, rfl⟩ := hb
          exact arr_fit hB (fun h => h)
      · cases h
    · cases h
  · cases h
theorem rdOm_fit {n : Nat} {a b : Sh} {k : Kd} {N : Nat} {p : PV} {x : a.den × List k.den × b.den} {bs : List Bd} {gs : List Bool} (h : rdOm H a k N b p = some (x, bs, gs)) : Fit1 H n p (.ptr n 0 1 0) bs [.mix true (scs (a.kd.vals x.1)) k N x.2.1 (scs (b.kd.vals x.2.2))] := by
  unfold rdOm at h
  split at h
  · rename_i i e sz j
    split at h
    · rename_i pre k' N' xs post hB
      split at h
      · rename_i hk
        subst hk
        cases hb : (Nat.beq e 0 && Nat.beq sz 1 && Nat.beq j 0 && Nat.beq N' N) with
        | false => rw [hb] at h; simp at h
        | true =>
          rw [hb] at h; simp only [cond_true] at h
          simp only [Bool.and_eq_true, Nat.beq_eq] at hb
          obtain ⟨⟨⟨rfl, rfl⟩, rfl⟩, rfl⟩ := hb
          split at h
          · rename_i vs ws hu hw
            split at h
            · rename_i x1 y1 hp1 hp2
              simp only [Option.some.injEq, Prod.mk.injEq] at h
              obtain ⟨rfl, rfl, rfl⟩ := h
              have e1 := unscT_some hu
              have e2 := a.kd.parse_eq hp1
              have e3 := unscT_some hw
              have e4 := b.kd.parse_eq hp2
              rw [List.append_nil] at e1 e2 e3 e4
              subst e1 e2 e3 e4
              refine ⟨⟨rfl, fun j i' sh B h1 h2 => ?_⟩, fun m m' w hr hm => ?_⟩
              · cases j with
                | zero =>
                  simp at h1 h2; obtain ⟨rfl, rfl⟩ := h1; subst h2
                  exact ⟨_, hB, by simp, fun _ => ⟨rfl, rfl⟩⟩
                | succ j => simp at h1
              · have hm0 : m' n = m i := by
                  have := hm 0 (some (i, 0)) rfl
                  simp only [viewAt, Nat.add_zero] at this
                  rw [this]
                  cases m i with
                  | none => rfl
                  | some x => rfl
                constructor
                · intro u hu
                  unfold Rv at hu ⊢; obtain ⟨bb, base, t, g1, g2⟩ := hu
                  exact ⟨bb, base, t, by rw [hm0, g1], g2⟩
                · rintro j B hB2 ⟨u, hu⟩
                  cases j with
                  | succ j => simp at hB2
                  | zero =>
                    simp at hB2; subst hB2
                    unfold Rv at hu; obtain ⟨bb, base, t, g1, _⟩ := hu
                    rcases hr i _ hB with h | ⟨h, _⟩ | ⟨b0, base', t', c, el, fz, k1, k2, k3, k4, k5⟩
                    · cases h
                    · rw [h] at g1; cases g1
                    · refine Or.inr (Or.inr ⟨b0, base', t', c, el, fz, by rw [Nat.add_zero, hm0, k1], k2, k3, fun _ => k4 rfl, fun q p hq => ?_⟩)
                      obtain ⟨u', q1, q2⟩ := k5 q p hq
                      simp only [Blk.cs, scs, ← List.map_append, List.getElem?_map, Option.map_eq_some_iff] at hq
                      obtain ⟨v, _, rfl⟩ := hq
                      exact ⟨u', q1, by unfold Rv at q2 ⊢; exact q2⟩
            · cases h
          · cases h
      · cases h
    · cases h
  · cases h
theorem parseSp_fit {n : Nat} : ∀ {s : Sp} {p : PV} {x : s.den} {bs : List Bd} {gs : List Bool}, parseSp H s p = some (x, bs, gs) → (∀ g ∈ gs, g = true) → Fit1 H n p (showSp n s x).1 bs (showSp n s x).2
  | .v s, p, x, bs, gs, h, hg => by
    simp only [parseSp] at h
    cases hp : s.parse p with
    | none => rw [hp] at h; simp at h
    | some y =>
      rw [hp] at h
      simp only [Option.some.injEq, Prod.mk.injEq] at h
      obtain ⟨rfl, rfl, rfl⟩ := h
      rw [Sh.parse_some hp]
      exact pv_fit s y
  | .ro k, p, x, bs, gs, h, hg => rdSl_fit h hg
  | .ow k, p, x, bs, gs, h, hg => ownSl_fit h hg
  | .io k, p, x, bs, gs, h, hg => ownSl_fit h hg
  | .con _, p, x, bs, gs, h, hg => by simp [parseSp] at h
  | .bx s, p, x, bs, gs, h, _ => rdBx_fit h
  | .ar k l, p, x, bs, gs, h, _ => by
    simp only [parseSp] at h
    cases hr : rdArr k l p with
    | none => rw [hr] at h; simp at h
    | some y =>
      rw [hr] at h; simp only [Option.some.injEq, Prod.mk.injEq] at h
      obtain ⟨rfl, rfl, rfl⟩ := h
      exact rdArr_fit hr
  | .ba k, p, x, bs, gs, h, _ => rdBa_fit h
  | .ia k, p, x, bs, gs, h, _ => ownBa_fit h
theorem parseCell_fit {n : Nat} : ∀ {s : Sp} {ps q : List PV} {x : s.den} {bs : List Bd} {gs : List Bool}, parseCell H s ps = some (x, bs, gs, q) → (∀ g ∈ gs, g = true) → ∃ c, ps = c ++ q ∧ FitL H n c (cellSp n s x).1 bs (cellSp n s x).2
  | .v s, ps, q, x, bs, gs, h, hg => by
    simp only [parseCell] at h
    cases hu : unscT s.kd.sz ps with
    | none => rw [hu] at h; simp at h
    | some y =>
      obtain ⟨vs, q'⟩ := y
      rw [hu] at h; simp only [] at h
      split at h
      · rename_i y hp
        simp only [Option.some.injEq, Prod.mk.injEq] at h
        obtain ⟨rfl, rfl, rfl, rfl⟩ := h
        have := s.kd.parse_eq hp
        rw [List.append_nil] at this
        refine ⟨scs vs, unscT_some hu, ?_⟩
        rw [this]; exact scs_fit _
      · cases h
  | .ro k, [], q, x, bs, gs, h, hg => by simp [parseCell] at h
  | .ow k, [], q, x, bs, gs, h, hg => by simp [parseCell] at h
  | .io k, [], q, x, bs, gs, h, hg => by simp [parseCell] at h
  | .con _, [], q, x, bs, gs, h, hg => by simp [parseCell] at h
  | .bx _, [], q, x, bs, gs, h, hg => by simp [parseCell] at h
  | .ar _ _, [], q, x, bs, gs, h, hg => by simp [parseCell] at h
  | .ar _ _, _ :: _, q, x, bs, gs, h, hg => by simp [parseCell] at h
  | .ia _, [], q, x, bs, gs, h, hg => by simp [parseCell] at h
  | .ia _, _ :: _, q, x, bs, gs, h, hg => by simp [parseCell] at h
  | .ba _, [], q, x, bs, gs, h, hg => by simp [parseCell] at h
  | .ba k, p :: ps, q, x, bs, gs, h, hg => by
    simp only [parseCell] at h
    cases hr : rdBa H k p with
    | none => rw [hr] at h; simp at h
    | some y =>
      obtain ⟨y, b, g⟩ := y
      rw [hr] at h; simp only [Option.some.injEq, Prod.mk.injEq] at h
      obtain ⟨rfl, rfl, rfl, rfl⟩ := h
      exact ⟨[p], rfl, (rdBa_fit hr).one⟩
  | .bx s, p :: ps, q, x, bs, gs, h, hg => by
    simp only [parseCell] at h
    cases hr : rdBx H s p with
    | none => rw [hr] at h; simp at h
    | some y =>
      obtain ⟨y, b, g⟩ := y
      rw [hr] at h; simp only [Option.some.injEq, Prod.mk.injEq] at h
      obtain ⟨rfl, rfl, rfl, rfl⟩ := h
      exact ⟨[p], rfl, (rdBx_fit hr).one⟩
  | .con v, p :: ps, q, x, bs, gs, h, hg => by
    cases p with
    | sc u =>
      simp only [parseCell] at h
      cases hn : (isNil v && isNil u) with
      | false => rw [hn] at h; simp at h
      | true =>
        rw [hn] at h
        simp only [cond_true, Option.some.injEq, Prod.mk.injEq] at h
        obtain ⟨_, rfl, rfl, rfl⟩ := h
        obtain ⟨h1, h2⟩ := Bool.and_eq_true_iff.1 hn
        obtain rfl := isNil_eq h1
        obtain rfl := isNil_eq h2
        refine ⟨[.sc (.slice none 0 0)], rfl, ?_⟩
        exact Fit1.one ⟨Bnd.nil, fun m m' w _ _ => ⟨fun u hu => by rw [Rv_sc] at hu; exact Rv_sc.2 hu, fun j B hB => by cases hB⟩⟩
    | _ => simp [parseCell] at h
  | .ro k, p :: ps, q, x, bs, gs, h, hg => by
    simp only [parseCell] at h
    cases hr : rdSl H k p with
    | none => rw [hr] at h; simp at h
    | some y =>
      obtain ⟨y, b, g⟩ := y
      rw [hr] at h; simp only [Option.some.injEq, Prod.mk.injEq] at h
      obtain ⟨rfl, rfl, rfl, rfl⟩ := h
      exact ⟨[p], rfl, (rdSl_fit hr hg).one⟩
  | .ow k, p :: ps, q, x, bs, gs, h, hg => by
    simp only [parseCell] at h
    cases hr : ownSl H k p with
    | none => rw [hr] at h; simp at h
    | some y =>
      obtain ⟨y, b, g⟩ := y
      rw [hr] at h; simp only [Option.some.injEq, Prod.mk.injEq] at h
      obtain ⟨rfl, rfl, rfl, rfl⟩ := h
      exact ⟨[p], rfl, (ownSl_fit hr hg).one⟩
  | .io k, p :: ps, q, x, bs, gs, h, hg => by
    simp only [parseCell] at h
    cases hr : ownSl H k p with
    | none => rw [hr] at h; simp at h
    | some y =>
      obtain ⟨y, b, g⟩ := y
      rw [hr] at h; simp only [Option.some.injEq, Prod.mk.injEq] at h
      obtain ⟨rfl, rfl, rfl, rfl⟩ := h
      exact ⟨[p], rfl, (ownSl_fit hr hg).one⟩
theorem parseS_fit : ∀ {cs : List Sp} {n : Nat} {ps : List PV} {x : denS cs} {bs : List Bd} {gs : List Bool}, parseS H cs ps = some (x, bs, gs) → (∀ g ∈ gs, g = true) → FitL H n ps (showS n cs x).1 bs (showS n cs x).2
  | [], n, [], x, bs, gs, h, hg => by
    simp only [parseS, Option.some.injEq, Prod.mk.injEq] at h
    obtain ⟨_, rfl, rfl⟩ := h; exact FitL.nil
  | [], n, _ :: _, x, bs, gs, h, hg => by simp [parseS] at h
  | _ :: _, n, [], x, bs, gs, h, hg => by simp [parseS] at h
  | s :: r, n, p :: ps, x, bs, gs, h, hg => by
    simp only [parseS] at h
    cases h1 : parseSp H s p with
    | none => rw [h1] at h; simp at h
    | some y =>
      obtain ⟨y, b, g⟩ := y
      rw [h1] at h; simp only [] at h
      cases h2 : parseS H r ps with
      | none => rw [h2] at h; simp at h
      | some z =>
        obtain ⟨z, b', g'⟩ := z
        rw [h2] at h; simp only [Option.some.injEq, Prod.mk.injEq] at h
        obtain ⟨rfl, rfl, rfl⟩ := h
        exact (parseSp_fit (n := n) h1 (fun q hq => hg q (List.mem_append_left _ hq))).one.app (parseS_fit h2 (fun q hq => hg q (List.mem_append_right _ hq)))
theorem parseC_fit : ∀ {cs : List Sp} {n : Nat} {ps : List PV} {x : denS cs} {bs : List Bd} {gs : List Bool}, parseC H cs ps = some (x, bs, gs) → (∀ g ∈ gs, g = true) → FitL H n ps (showC n cs x).1 bs (showC n cs x).2
  | [], n, [], x, bs, gs, h, hg => by
    simp only [parseC, Option.some.injEq, Prod.mk.injEq] at h
    obtain ⟨_, rfl, rfl⟩ := h; exact FitL.nil
  | [], n, _ :: _, x, bs, gs, h, hg => by simp [parseC] at h
  | s :: r, n, ps, x, bs, gs, h, hg => by
    simp only [parseC] at h
    cases h1 : parseCell H s ps with
    | none => rw [h1] at h; simp at h
    | some y =>
      obtain ⟨y, b, g, q⟩ := y
      rw [h1] at h; simp only [] at h
      cases h2 : parseC H r q with
      | none => rw [h2] at h; simp at h
      | some z =>
        obtain ⟨z, b', g'⟩ := z
        rw [h2] at h; simp only [Option.some.injEq, Prod.mk.injEq] at h
        obtain ⟨rfl, rfl, rfl⟩ := h
        obtain ⟨c, rfl, hc⟩ := parseCell_fit (n := n) h1 (fun q hq => hg q (List.mem_append_left _ hq))
        exact hc.app (parseC_fit h2 (fun q hq => hg q (List.mem_append_right _ hq)))
theorem parseShp_fit {n : Nat} : ∀ {s : Shp} {p : PV} {x : s.den} {bs : List Bd} {gs : List Bool}, parseShp H s p = some (x, bs, gs) → (∀ g ∈ gs, g = true) → Fit1 H n p (showShp n s x).1 bs (showShp n s x).2
  | .s s, p, x, bs, gs, h, hg => parseSp_fit h hg
  | .fn f cs, p, x, bs, gs, h, hg => by
    cases p with
    | fn g caps =>
      simp only [parseShp] at h
      cases hb : Nat.beq g f with
      | false => rw [hb] at h; simp at h
      | true =>
        rw [hb] at h; simp only [cond_true] at h
        obtain rfl := Nat.eq_of_beq_eq_true hb
        have hf := parseS_fit (n := n) h hg
        refine ⟨hf.1, fun m m' w hr hm => ⟨fun u hu => ?_, fun j B hB hu => (hf.2.2 m m' w hr hm).2 j B hB ?_⟩⟩
        · unfold Rv at hu; obtain ⟨us, rfl, hu⟩ := hu
          show Rv m' (.fn g (showS n cs x).1) _
          unfold Rv; exact ⟨us, rfl, hf.rvs hr hm hu⟩
        · obtain ⟨u, hu⟩ := hu
          unfold Rv at hu; obtain ⟨us, rfl, hu⟩ := hu
          exact ⟨us, hu⟩
    | _ => simp [parseShp] at h
  | .ag cs, p, x, bs, gs, h, hg => by
    cases p with
    | agg cells =>
      simp only [parseShp] at h
      have hf := parseC_fit (n := n) h hg
      refine ⟨hf.1, fun m m' w hr hm => ⟨fun u hu => ?_, fun j B hB hu => (hf.2.2 m m' w hr hm).2 j B hB ?_⟩⟩
      · unfold Rv at hu; obtain ⟨us, rfl, hu⟩ := hu
        show Rv m' (.agg (showC n cs x).1) _
        unfold Rv; exact ⟨us, rfl, hf.rvs hr hm hu⟩
      · obtain ⟨u, hu⟩ := hu
        unfold Rv at hu; obtain ⟨us, rfl, hu⟩ := hu
        exact ⟨us, hu⟩
    | _ => simp [parseShp] at h
  | .ob cs, p, x, bs, gs, h, hg => by
    cases p with
    | ptr i e sz j =>
      simp only [parseShp] at h
      split at h
      · rename_i cells hB
        cases hb : (Nat.beq e 0 && Nat.beq sz 1 && Nat.beq j 0) with
        | false => rw [hb] at h; simp at h
        | true =>
          rw [hb] at h; simp only [cond_true] at h
          simp only [Bool.and_eq_true, Nat.beq_eq] at hb
          obtain ⟨⟨rfl, rfl⟩, rfl⟩ := hb
          cases hc : parseC H cs cells with
          | none => rw [hc] at h; simp at h
          | some y =>
            obtain ⟨y, b, g⟩ := y
            rw [hc] at h; simp only [Option.some.injEq, Prod.mk.injEq] at h
            obtain ⟨rfl, rfl, rfl⟩ := h
            have hf := parseC_fit (n := n + 1) hc hg
            refine ⟨⟨by show _ = (_ :: _).length; simp [hf.1.1], fun j i' sh B h1 h2 => ?_⟩, fun m m' w hr hm => ?_⟩
            · cases j with
              | zero =>
                simp [showShp] at h1 h2; obtain ⟨rfl, rfl⟩ := h1; subst h2
                exact ⟨_, hB, by simp, fun _ => ⟨rfl, rfl⟩⟩
              | succ j =>
                simp [showShp] at h1 h2
                exact hf.1.2 j i' sh B h1 h2
            · have hm1 : ∀ (j : Nat) (q : Bd), b[j]? = some q → m' (n + 1 + j) = viewAt m q := fun j q hq => by
                have := hm (j + 1) q (by simpa using hq)
                rwa [show n + (j + 1) = n + 1 + j by omega] at this
              have hm0 : m' n = m i := by
                have := hm 0 (some (i, 0)) rfl
                simp only [viewAt, Nat.add_zero] at this
                rw [this]
                cases m i with
                | none => rfl
                | some x => rfl
              obtain ⟨a1, a2⟩ := hf.2.2 m m' w hr hm1
              have hcells : (∃ us, Rvs m cells us) ∨ m i = none := by
                rcases hr i _ hB with h | ⟨h, _⟩ | ⟨bb, base, t, c, el, fz, h1, h2, h3, h4, h5⟩
                · cases h
                · exact Or.inr h
                · left
                  refine ⟨(List.range cells.length).map fun q => (c[base + q]?).getD undef, Rvs.of_get (by simp) ?_⟩
                  intro k p u hp hu
                  have hk : k < cells.length := (List.getElem?_eq_some_iff.1 hp).1
                  simp [hk] at hu
                  obtain ⟨u', g1, g2⟩ := h5 k p hp
                  rw [g1] at hu; simp at hu; subst hu; exact g2
              constructor
              · intro u hu
                unfold Rv at hu; obtain ⟨bb, base, t, h1, rfl⟩ := hu
                show Rv m' (.ptr n 0 1 0) _
                unfold Rv; exact ⟨bb, base, t, by rw [hm0, h1], rfl⟩
              · rintro j B hB2 ⟨u, hu⟩
                have hne : m i ≠ none := by
                  unfold Rv at hu; obtain ⟨bb, base, t, h1, _⟩ := hu; rw [h1]; simp
                have hcell := hcells.resolve_right hne
                cases j with
                | zero =>
                  simp [showShp] at hB2; subst hB2
                  rcases hr i _ hB with h | ⟨h, _⟩ | ⟨bb, base, t, c, el, fz, h1, h2, h3, h4, h5⟩
                  · cases h
                  · exact absurd h hne
                  · refine Or.inr (Or.inr ⟨bb, base, t, c, el, fz, by rw [Nat.add_zero, hm0, h1], h2, h3, fun _ => h4 rfl, fun q p hp => ?_⟩)
                    simp only [Blk.cs] at hp
                    have hl : q < (showC (n + 1) cs y).1.length := (List.getElem?_eq_some_iff.1 hp).1
                    obtain ⟨p0, hp0⟩ : ∃ p0, cells[q]? = some p0 := ⟨cells[q]'(by rw [hf.2.1]; exact hl), List.getElem?_eq_getElem _⟩
                    obtain ⟨u', g1, g2⟩ := h5 q p0 hp0
                    exact ⟨u', g1, a1 q p0 p hp0 hp u' g2⟩
                | succ j =>
                  simp [showShp] at hB2
                  have := a2 j B hB2 hcell
                  rwa [show n + 1 + j = n + (j + 1) by omega] at this
      · cases h
    | _ => simp [parseShp] at h
  | .ss cs, p, x, bs, gs, h, hg => by
    cases p with
    | sl i e sz len lo full nl =>
      simp only [parseShp] at h
      split at h
      · rename_i o cells hB
        cases hb : (Nat.beq e 0 && Nat.beq sz 1 && Nat.beq len cs.length && !nl && Nat.ble 1 cs.length) with
        | false => rw [hb] at h; simp at h
        | true =>
          rw [hb] at h; simp only [cond_true] at h
          simp only [Bool.and_eq_true, Nat.beq_eq, Bool.not_eq_true', Nat.ble_eq] at hb
          obtain ⟨⟨⟨⟨rfl, rfl⟩, rfl⟩, rfl⟩, hl1⟩ := hb
          cases hc : parseC H cs cells with
          | none => rw [hc] at h; simp at h
          | some y =>
            obtain ⟨y, b, g⟩ := y
            rw [hc] at h; simp only [Option.some.injEq, Prod.mk.injEq] at h
            obtain ⟨rfl, rfl, rfl⟩ := h
            have hf := parseC_fit (n := n + 1) hc hg
            refine ⟨⟨by show _ = (_ :: _).length; simp [hf.1.1], fun j i' sh B h1 h2 => ?_⟩, fun m m' w hr hm => ?_⟩
            · cases j with
              | zero =>
                simp [showShp] at h1 h2; obtain ⟨rfl, rfl⟩ := h1; subst h2
                exact ⟨_, hB, by simp, fun h => (nomatch h)⟩
              | succ j =>
                simp [showShp] at h1 h2
                exact hf.1.2 j i' sh B h1 h2
            · have hm1 : ∀ (j : Nat) (q : Bd), b[j]? = some q → m' (n + 1 + j) = viewAt m q := fun j q hq => by
                have := hm (j + 1) q (by simpa using hq)
                rwa [show n + (j + 1) = n + 1 + j by omega] at this
              have hm0 : m' n = m i := by
                have := hm 0 (some (i, 0)) rfl
                simp only [viewAt, Nat.add_zero] at this
                rw [this]
                cases m i with
                | none => rfl
                | some x => rfl
              obtain ⟨a1, a2⟩ := hf.2.2 m m' w hr hm1
              have hcells : (∃ us, Rvs m cells us) ∨ m i = none := by
                rcases hr i _ hB with h | ⟨h, _⟩ | ⟨bb, base, t, c, el, fz, h1, h2, h3, h4, h5⟩
                · cases h
                · exact Or.inr h
                · left
                  refine ⟨(List.range cells.length).map fun q => (c[base + q]?).getD undef, Rvs.of_get (by simp) ?_⟩
                  intro k p u hp hu
                  have hk : k < cells.length := (List.getElem?_eq_some_iff.1 hp).1
                  simp [hk] at hu
                  obtain ⟨u', g1, g2⟩ := h5 k p hp
                  rw [g1] at hu; simp at hu; subst hu; exact g2
              constructor
              · intro u hu
                unfold Rv at hu
                rcases hu with ⟨h, _⟩ | ⟨_, bb, base, t, cap, off, h1, rfl, q1, q2, q3, q4, q5⟩
                · omega
                show Rv m' (.sl n 0 1 cs.length cs.length false false) _
                unfold Rv
                exact Or.inr ⟨rfl, bb, base, t, cap, off, by rw [hm0, h1], rfl, Nat.le_refl _, ⟨Nat.le_trans q1 q2.1, q2.2⟩, (fun h => (nomatch h)), q4, q5⟩
              · rintro j B hB2 ⟨u, hu⟩
                have hne : m i ≠ none := by
                  unfold Rv at hu
                  rcases hu with ⟨h, _⟩ | ⟨_, bb, base, t, cap, off, h1, _⟩
                  · omega
                  · rw [h1]; simp
                have hcell := hcells.resolve_right hne
                cases j with
                | zero =>
                  simp [showShp] at hB2; subst hB2
                  rcases hr i _ hB with h | ⟨h, _⟩ | ⟨bb, base, t, c, el, fz, h1, h2, h3, h4, h5⟩
                  · cases h
                  · exact absurd h hne
                  · refine Or.inr (Or.inr ⟨bb, base, t, c, el, fz, by rw [Nat.add_zero, hm0, h1], h2, h3, (fun h => (nomatch h)), fun q p hp => ?_⟩)
                    simp only [Blk.cs] at hp
                    have hl : q < (showC (n + 1) cs y).1.length := (List.getElem?_eq_some_iff.1 hp).1
                    obtain ⟨p0, hp0⟩ : ∃ p0, cells[q]? = some p0 := ⟨cells[q]'(by rw [hf.2.1]; exact hl), List.getElem?_eq_getElem _⟩
                    obtain ⟨u', g1, g2⟩ := h5 q p0 hp0
                    exact ⟨u', g1, a1 q p0 p hp0 hp u' g2⟩
                | succ j =>
                  simp [showShp] at hB2
                  have := a2 j B hB2 hcell
                  rwa [show n + 1 + j = n + (j + 1) by omega] at this
      · cases h
    | _ => simp [parseShp] at h
  | .om a k N b, p, x, bs, gs, h, hg => rdOm_fit h
  | .un, p, x, bs, gs, h, hg => by
    simp only [parseShp, Option.some.injEq, Prod.mk.injEq] at h
    obtain ⟨_, rfl, rfl⟩ := h
    exact ⟨Bnd.nil, fun m m' w _ _ => ⟨fun u _ => by show Rv m' PV.undef u; unfold Rv; trivial, fun j B h => by simp [showShp] at h⟩⟩
theorem parseA_fit : ∀ {ks : List Shp} {n : Nat} {ps : List PV} {x : denA ks} {bs : List Bd} {gs : List Bool}, parseA H ks ps = some (x, bs, gs) → (∀ g ∈ gs, g = true) → FitL H n ps (showA n ks x).1 bs (showA n ks x).2
  | [], n, [], x, bs, gs, h, hg => by
    simp only [parseA, Option.some.injEq, Prod.mk.injEq] at h
    obtain ⟨_, rfl, rfl⟩ := h; exact FitL.nil
  | [], n, _ :: _, x, bs, gs, h, hg => by simp [parseA] at h
  | _ :: _, n, [], x, bs, gs, h, hg => by simp [parseA] at h
  | s :: r, n, p :: ps, x, bs, gs, h, hg => by
    simp only [parseA] at h
    cases h1 : parseShp H s p with
    | none => rw [h1] at h; simp at h
    | some y =>
      obtain ⟨y, b, g⟩ := y
      rw [h1] at h; simp only [] at h
      cases h2 : parseA H r ps with
      | none => rw [h2] at h; simp at h
      | some z =>
        obtain ⟨z, b', g'⟩ := z
        rw [h2] at h; simp only [Option.some.injEq, Prod.mk.injEq] at h
        obtain ⟨rfl, rfl, rfl⟩ := h
        exact (parseShp_fit (n := n) h1 (fun q hq => hg q (List.mem_append_left _ hq))).one.app (parseA_fit h2 (fun q hq => hg q (List.mem_append_right _ hq)))
end
end Go.Proofs.YtokephobkllfgaaDoorEv
