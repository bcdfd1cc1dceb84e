/- What is proved here: a marked block by its body, told by a reading of its own; cuts in cuts. No condition but that the contracts of what is called hold. -/
import Derived.Test.YtokephobkllfgaaDoorEvZf
namespace Go.Proofs.YtokephobkllfgaaDoorEv
open Go

def evBlockR (P : Program) (T : Table) (cuts : Cuts) (N : Nat) (body : Code) (kill ins outs : List Nat) (xs : List PV) (H : List Blk) : Option (Xt × List PV × List Blk) :=
  match zipE ins xs [] with
  | some env => evCode P T cuts N body ⟨env, H⟩ (finCutV outs kill H.length)
  | none => none
/-- **A marked block by its body**, told by a reading of its own. -/
theorem block_cutR {P : Program} {T : Table} (hT : TableOK P T) (hm : P.follows .mixedOrders = true) {cuts : Cuts} {N : Nat} {body : Code} {ins outs kill : List Nat} {V : Type} {p : List PV → List Blk → Option V} {st0 : V → List PV × List Blk} {spec : V → Bool × List (Bool × Xt × List PV × List Blk)}
    (hp : ∀ xs H v, p xs H = some v → (xs, H) = st0 v) (hC : CutsOK P N cuts body)
    (h : ∀ v, (spec v).1 = true → evBlockR P T cuts N body kill ins outs (st0 v).1 (st0 v).2 = pickA (spec v).2) : CutOK P N body ins outs (entR p spec) := by
  intro xs H alts he e ps H' hpick m w a hsz hdef htop hrep hdis hvs
  cases hv : p xs H with
  | none => unfold entR at he; rw [hv] at he; cases he
  | some v =>
    unfold entR at he
    rw [hv] at he
    obtain ⟨hpre, halts⟩ := Prod.mk.inj (Option.some.inj he)
    have hev := h v hpre
    rw [halts, hpick] at hev
    have hst := hp xs H v hv
    rw [← hst] at hev
    simp only [] at hev
    unfold evBlockR at hev
    cases hz : zipE ins xs [] with
    | none => rw [hz] at hev; simp at hev
    | some env =>
      rw [hz] at hev; simp only [] at hev
      refine evCode_sound (x := ⟨H, m, w, N, fun t => t ∈ dsts body, a⟩) hT hm body hev hC (fun d hd => hd) ?_ (can_simR hz hsz hdef htop hrep hdis hvs)
      intro m' e' st' a' w' hk S'
      obtain ⟨rfl, h3, m3, h4⟩ := finCutV_sound hk S'
      exact ⟨rfl, S'.size, S'.defers, fun t ht => S'.keep t ht, h3, m3, h4⟩
theorem cutAt {P : Program} {N id : Nat} {ins outs : List Nat} {ent : CutEnt} {cuts : Cuts} {c c' : Code} (h1 : oneCode id c = true) (h2 : codeAt id c = c') (h : CutOK P N c' ins outs ent) (hC : CutsOK P N cuts c) : CutsOK P N (addCut id ins outs ent cuts) c :=
  cut_cons h1 (h2 ▸ h) hC
theorem decT {i : Decidable True} : @decide True i = true := decide_eq_true trivial
/-- Two forms of one reading, each told by itself. -/
def leftR {A B : Type} (p : List PV → List Blk → Option (A ⊕ B)) : List PV → List Blk → Option A := fun xs H =>
  match p xs H with
  | some (.inl v) => some v
  | _ => none
def rightR {A B : Type} (p : List PV → List Blk → Option (A ⊕ B)) : List PV → List Blk → Option B := fun xs H =>
  match p xs H with
  | some (.inr v) => some v
  | _ => none
theorem leftR_st {A B : Type} {p : List PV → List Blk → Option (A ⊕ B)} {st0 : A ⊕ B → List PV × List Blk} (hp : ∀ xs H v, p xs H = some v → (xs, H) = st0 v) : ∀ xs H v, leftR p xs H = some v → (xs, H) = st0 (.inl v) := by
  intro xs H v h
  unfold leftR at h
  split at h
  · rename_i v' hv; cases h; exact hp _ _ _ hv
  · cases h
theorem rightR_st {A B : Type} {p : List PV → List Blk → Option (A ⊕ B)} {st0 : A ⊕ B → List PV × List Blk} (hp : ∀ xs H v, p xs H = some v → (xs, H) = st0 v) : ∀ xs H v, rightR p xs H = some v → (xs, H) = st0 (.inr v) := by
  intro xs H v h
  unfold rightR at h
  split at h
  · rename_i v' hv; cases h; exact hp _ _ _ hv
  · cases h
theorem cut_sum {P : Program} {N : Nat} {c : Code} {ins outs : List Nat} {A B : Type} {p : List PV → List Blk → Option (A ⊕ B)} {spec : A ⊕ B → Bool × List (Bool × Xt × List PV × List Blk)}
    (hA : CutOK P N c ins outs (entR (leftR p) fun v => spec (.inl v))) (hB : CutOK P N c ins outs (entR (rightR p) fun v => spec (.inr v))) : CutOK P N c ins outs (entR p spec) := by
  intro xs H alts he
  unfold entR at he
  split at he
  · rename_i v hv
    cases v with
    | inl v => exact hA xs H alts (by unfold entR leftR; rw [hv]; exact he)
    | inr v => exact hB xs H alts (by unfold entR rightR; rw [hv]; exact he)
  · cases he
end Go.Proofs.YtokephobkllfgaaDoorEv
