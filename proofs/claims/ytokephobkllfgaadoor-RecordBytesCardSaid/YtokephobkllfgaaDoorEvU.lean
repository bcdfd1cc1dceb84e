/- What is proved here: tables of contracts, entry by entry: a function whose parameters and results are whole numbers, bools, strings and structs of these, told by a plain Lean function. Condition: the entry's own precondition. -/
import Derived.Test.YtokephobkllfgaaDoorEvT
import Derived.Below
namespace Go.Proofs.YtokephobkllfgaaDoorEv
open Go

/-- A parameter's shape: of one cell, or a struct. -/
structure Sh where
  st : Bool
  kd : Kd
@[reducible] def Sh.den (s : Sh) : Type := s.kd.den
def oneSc : List Value → PV
  | [v] => .sc v
  | _ => .undef
def Sh.pv (s : Sh) (x : s.den) : PV :=
  match s.st with
  | true => .agg (scs (s.kd.vals x))
  | false => oneSc (s.kd.vals x)
def Sh.parse (s : Sh) : PV → Option s.den
  | .agg cs =>
    (match s.st with
     | true => (match unsc cs with
       | some vs => (match s.kd.parse vs with
         | some (x, []) => some x
         | _ => none)
       | none => none)
     | false => none)
  | .sc v =>
    (match s.st with
     | false => (match s.kd.parse [v] with
       | some (x, []) => some x
       | _ => none)
     | true => none)
  | _ => none
theorem unsc_scs' : ∀ {cs : List PV} {vs : List Value}, unsc cs = some vs → cs = scs vs
  | [], vs, h => by simp [unsc] at h; subst h; rfl
  | p :: r, vs, h => by
    cases p with
    | sc v =>
      simp only [unsc] at h
      cases hu : unsc r with
      | none => rw [hu] at h; simp at h
      | some us =>
        rw [hu] at h; simp at h; subst h
        rw [unsc_scs' hu]; rfl
    | _ => simp [unsc] at h
theorem Sh.parse_some {s : Sh} {p : PV} {x : s.den} (h : s.parse p = some x) : p = s.pv x := by
  obtain ⟨st, kd⟩ := s
  cases p with
  | agg cs =>
    cases st with
    | false => simp [Sh.parse] at h
    | true =>
      simp only [Sh.parse] at h
      cases hu : unsc cs with
      | none => rw [hu] at h; simp at h
      | some vs =>
        rw [hu] at h; simp only at h
        cases hk : kd.parse vs with
        | none => rw [hk] at h; simp at h
        | some y =>
          obtain ⟨y, r⟩ := y
          rw [hk] at h
          cases r with
          | nil =>
            simp only [Option.some.injEq] at h; subst h
            have := kd.parse_eq hk
            rw [unsc_scs' hu, this, List.append_nil]; rfl
          | cons a b => simp at h
  | sc v =>
    cases st with
    | true => simp [Sh.parse] at h
    | false =>
      simp only [Sh.parse] at h
      cases hk : kd.parse [v] with
      | none => rw [hk] at h; simp at h
      | some y =>
        obtain ⟨y, r⟩ := y
        rw [hk] at h
        cases r with
        | nil =>
          simp only [Option.some.injEq] at h; subst h
          have := kd.parse_eq hk
          rw [List.append_nil] at this
          show PV.sc v = oneSc (kd.vals y)
          rw [← this]; rfl
        | cons a b => simp at h
  | _ => simp [Sh.parse] at h

@[reducible] def dens : List Sh → Type
  | [] => Unit
  | s :: r => s.den × dens r
def showL : (ks : List Sh) → dens ks → List PV
  | [], _ => []
  | s :: r, v => s.pv v.1 :: showL r v.2
def parseL : (ks : List Sh) → List PV → Option (dens ks)
  | [], [] => some ()
  | s :: r, p :: ps =>
    (match s.parse p with
     | some x => (match parseL r ps with
       | some y => some (x, y)
       | none => none)
     | none => none)
  | _, _ => none
theorem parseL_some : ∀ {ks : List Sh} {ps : List PV} {v : dens ks}, parseL ks ps = some v → ps = showL ks v
  | [], [], v, _ => rfl
  | [], p :: ps, v, h => by simp [parseL] at h
  | s :: r, [], v, h => by simp [parseL] at h
  | s :: r, p :: ps, v, h => by
    simp only [parseL] at h
    cases hs : s.parse p with
    | none => rw [hs] at h; simp at h
    | some x =>
      rw [hs] at h; simp only at h
      cases hr : parseL r ps with
      | none => rw [hr] at h; simp at h
      | some y =>
        rw [hr] at h; simp only [Option.some.injEq] at h; subst h
        rw [Sh.parse_some hs, parseL_some hr]; rfl

abbrev TabEnt := List PV → List Blk → Option (Bool × List (Bool × PV × List Blk))
def ext (f : Nat) (e : TabEnt) (T : Table) : Table := fun g xs H => bif Nat.beq g f then e xs H else T g xs H
/-- One entry where it has an answer, else another. -/
def orE (e e' : TabEnt) : TabEnt := fun xs H => match e xs H with
  | some r => some r
  | none => e' xs H
def T0 : Table := fun _ _ _ => none

theorem T0_ok (P : Program) : TableOK P T0 := fun _ _ _ _ h => by simp [T0] at h
def EntOK (P : Program) (f : Nat) (e : TabEnt) : Prop := ∀ xs H alts, e xs H = some (true, alts) → ∀ r H', pickA alts = some (r, H') → (Ent P f ∧ CallOK P f xs H r H') ∨ ExtOK P f xs H r H'
theorem ext_ok {P : Program} {f : Nat} {e : TabEnt} {T : Table} (h : EntOK P f e) (hT : TableOK P T) : TableOK P (ext f e T) := by
  intro g xs H alts hg
  unfold ext at hg
  cases hb : Nat.beq g f with
  | true =>
    rw [hb] at hg
    obtain rfl := Nat.eq_of_beq_eq_true hb
    exact h xs H alts hg
  | false => rw [hb] at hg; exact hT g xs H alts hg
theorem orE_ok {P : Program} {f : Nat} {e e' : TabEnt} (h : EntOK P f e) (h' : EntOK P f e') : EntOK P f (orE e e') := by
  intro xs H alts hg
  unfold orE at hg
  cases he : e xs H with
  | some r => rw [he] at hg; exact h xs H alts (he.trans hg)
  | none => rw [he] at hg; exact h' xs H alts hg

def noCuts : Cuts := fun _ => none
theorem noCuts_ok {P : Program} {N : Nat} : ∀ c, CutsOK P N noCuts c := by
  intro c p _ ins outs ent h
  exact absurd h (by unfold noCuts; simp)

/-- A law on plain values. -/
theorem law_below {P : Program} {f : Nat} {xs : List PV} {us : List Value} (h : CallOK P f xs [] (.sc (.bool true)) []) (hu : Rvs (fun _ => none) xs us) (w : World) (hg : GW w) :
    Calls P f us.toArray w fun e w' => e = .returned (.bool true) ∧ RowKit.Below w.heap.size w w' := by
  refine (h (fun _ => none) w us (fun _ _ => rfl) (fun i B hB => by simp [getB] at hB) ⟨fun i j Bi Bj _ hB => by simp [getB] at hB, hg, fun i B b base t hB => by simp [getB] at hB⟩ hu).mono ?_
  rintro e w' ⟨v, m', rfl, hp⟩
  have hv := hp.val
  unfold Rv at hv
  subst hv
  have hf := hp.frame
  exact ⟨rfl, hf.os, hf.tape, hf.output, hf.size, fun k hk => hf.block k hk (by rintro ⟨i, B, _, _, hB, _⟩; simp [getB] at hB)⟩

theorem cond_split {α : Type} {b : Bool} {x y z : α} (h1 : b = true → x = z) (h2 : b = false → y = z) : cond b x y = z := by
  cases b
  · exact h2 rfl
  · exact h1 rfl
theorem guard_split {α : Type} {b : Bool} {x z : Option α} (h1 : b = true) (h2 : x = z) : guardB b x = z := by
  subst h1; exact h2
end Go.Proofs.YtokephobkllfgaaDoorEv
