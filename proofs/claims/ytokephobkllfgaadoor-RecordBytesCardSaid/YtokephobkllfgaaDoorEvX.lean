/- What is laid here: a loop as a marked block: one round by the evaluator, the rest by the loop's own contract. -/
import Derived.Test.YtokephobkllfgaaDoorEvV
import Derived.LoopN
namespace Go.Proofs.YtokephobkllfgaaDoorEv
open Go

/-- An own row stands from now on under a new block number. -/
theorem Post.move {m : Inj} {w : World} {hp : Nat → Option Blk} {n i : Nat} {k : Kd} {xs : List k.den} (hB : hp i = some (.row true k xs)) (hr : BRep m w i (.row true k xs)) (hm : m n = none) (hi : i ≠ n) :
    Post m w hp n .undef ⟨[i], [(i, .dead)], [.row true k xs]⟩ undef (fun j => if j = n then m i else m j) w := by
  have hext : Ext m (fun j => if j = n then m i else m j) := by
    intro j y hy
    by_cases e : j = n
    · subst e; rw [hm] at hy; cases hy
    · simp only [if_neg e]; exact hy
  refine ⟨by unfold Rv; trivial, ?_, ?_, ?_, ?_, ?_, ?_, Fr.refl _ _, ?_, ?_⟩
  · intro j hj
    have : j ≠ n := by simp at hj; omega
    simp [this]
  · intro j B h
    simp at h; obtain ⟨rfl, rfl⟩ := h
    exact Or.inl rfl
  · intro q B h
    match q, h with
    | 0, h =>
      simp at h; subst h
      rcases hr with h | ⟨h, h2⟩ | ⟨b, base, t, c, e, fz, h1, h2, h3, h4, h5⟩
      · cases h
      · refine Or.inr (Or.inl ⟨by simp [h], ?_⟩)
        exact h2
      · refine Or.inr (Or.inr ⟨b, base, t, c, e, fz, by simp [h1], h2, h3, h4, fun q p hq => ?_⟩)
        obtain ⟨u, g1, g2⟩ := h5 q p hq
        exact ⟨u, g1, Rv.mono hext g2⟩
    | q + 1, h => simp at h
  · intro j B h hd
    simp at h; obtain ⟨rfl, rfl⟩ := h; exact absurd rfl hd
  · intro q b base t B h hd hq
    match q, h with
    | 0, h =>
      simp at h; subst h
      refine Or.inr ⟨i, _, base, t, by simp, hB, rfl, by simpa using hq⟩
    | q + 1, h => simp at h
  · intro q l b base t base2 t2 B B2 h h2
    have : q = 0 := by
      match q, h with
      | 0, _ => rfl
      | q + 1, h => simp at h
    have : l = 0 := by
      match l, h2 with
      | 0, _ => rfl
      | l + 1, h => simp at h
    intros; omega
  · intro j B B' h h'
    simp at h h'; rw [h.2, h'.2]
  · intro j B h
    simp at h; obtain ⟨rfl, rfl⟩ := h; exact ⟨_, hB⟩

def renEnv (g : Nat → Option Nat) (env : List (Nat × PV)) : List (Nat × PV) := env.map fun x => (x.1, renP g x.2)
def to1 (i n j : Nat) : Option Nat := bif Nat.beq j i then some n else some j
def mv1 (i : Nat) (st : St) : St :=
  match getB st.heap i with
  | some (.row true k xs) => ⟨renEnv (to1 i st.heap.length) st.env, setB st.heap i .dead ++ [.row true k xs]⟩
  | _ => st
def mvs : List Nat → St → St
  | [], st => st
  | i :: r, st => mvs r (mv1 i st)
theorem look_renEnv (g : Nat → Option Nat) : ∀ (env : List (Nat × PV)) (t : Nat), look (renEnv g env) t = renP g (look env t)
  | [], t => by simp [renEnv, look, renP]
  | (s, p) :: r, t => by
    have := look_renEnv g r t
    unfold renEnv at *
    rw [List.map_cons, look_cons, look_cons, this]
    split <;> rfl
theorem mv1_sound {x : Ctx} {m : Inj} {st : St} {a : Act} {w : World} (i : Nat) (S : Sim x m st a w) : ∃ m', Sim x m' (mv1 i st) a w := by
  unfold mv1
  split
  · rename_i k xs hB
    have hlt : i < st.heap.length := getB_lt hB
    have hnone : getB st.heap st.heap.length = none := by rw [getB_eq]; exact List.getElem?_eq_none (Nat.le_refl _)
    have hm := S.top _ hnone
    have hP := Post.move (hp := getB st.heap) hB (S.rep i _ hB) hm (by omega)
    have hS := SimF.step (dst := none) S hP (apply_upd hP.upf hP.upn) (fun t => S.env t) (env' := look st.env) (fun t => by simp) (fun d h => by cases h) (fun d h => by cases h)
    refine ⟨_, hS.size, hS.defers, fun t => ?_, hS.rep, hS.dis, hS.top, hS.len, hS.mext, hS.orig, hS.nfresh, hS.ndist, hS.frame, hS.keep⟩
    rw [look_renEnv]
    refine Rv.ren (m := m) (fun j q y hj hy => ?_) (S.env t)
    unfold to1 at hj
    cases hb : Nat.beq j i with
    | true =>
      rw [hb] at hj
      obtain rfl := Nat.eq_of_beq_eq_true hb
      simp at hj; subst hj
      simpa using hy
    | false =>
      rw [hb] at hj
      simp at hj; subst hj
      have : j ≠ st.heap.length := fun e => by rw [e, hm] at hy; cases hy
      simpa [this] using hy
  · exact ⟨m, S⟩
theorem mvs_sound {x : Ctx} {a : Act} {w : World} : ∀ (l : List Nat) {m : Inj} {st : St}, Sim x m st a w → ∃ m', Sim x m' (mvs l st) a w
  | [], m, _, S => ⟨m, S⟩
  | i :: r, _, _, S => by
    obtain ⟨m', S'⟩ := mv1_sound i S
    exact mvs_sound r S'

theorem rounds_mono {P : Program} {c : Code} {Q Q' : Exit → Act → World → Prop} : ∀ {n : Nat} {a : Act} {w : World}, Code.rounds P c Q n a w → (∀ e a w, Q e a w → Q' e a w) → Code.rounds P c Q' n a w
  | 0, _, _, h, _ => h.elim
  | n + 1, a, w, h, k => by
    rw [rounds_succ] at h ⊢
    refine wp_mono h ?_
    intro e a w q
    cases e with
    | normal => exact rounds_mono q k
    | _ => exact k _ _ _ q
end Go.Proofs.YtokephobkllfgaaDoorEv
