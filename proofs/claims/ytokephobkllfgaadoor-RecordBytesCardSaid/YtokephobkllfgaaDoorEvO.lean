/- What is proved here: a region of the evaluator's, also one whose order is drawn, says what the machine's own does. No condition but that the table's contracts hold. -/
import Derived.Test.YtokephobkllfgaaDoorEvN
namespace Go.Proofs.YtokephobkllfgaaDoorEv
open Go
section
variable {P : Program} {R : Type}

/-- The slot that an operation's guard looks at. -/
def gslot (ops : List Oper) (o : Oper) : Option Nat :=
  match o.guard with
  | some (j, _) => (ops[j]?).bind (·.dst)
  | none => none
theorem evGuard_sound {ops : List Oper} {o : Oper} {env : List (Nat × PV)} {run skip : List (Nat × PV) → Option R} {r : R} (h : evGuard ops o env run skip = some r) :
    ∃ (b : Bool) (env1 : List (Nat × PV)), (if b then run env1 else skip env1) = some r ∧ (∀ t, look env1 t = look env t) ∧
      ∀ (m : Inj) (tmps : Array Value), (∀ t, gslot ops o = some t → Rv m (look env t) (tmps.getD t undef)) → Region.wanted o (yielded ops.toArray tmps) = b := by
  unfold evGuard at h
  cases hg : o.guard with
  | none =>
    rw [hg] at h
    exact ⟨true, env, h, fun _ => rfl, fun m tmps _ => by simp [Region.wanted, hg]⟩
  | some jw =>
    obtain ⟨j, want⟩ := jw
    rw [hg] at h; simp only [] at h
    cases hd : (ops[j]?).bind (·.dst) with
    | none => rw [hd] at h; simp at h
    | some t =>
      rw [hd] at h; simp only [] at h
      have hgs : gslot ops o = some t := by simp [gslot, hg, hd]
      have hd' : (ops.toArray[j]?).bind (·.dst) = some t := by simpa using hd
      cases hl : look env t <;> rw [hl] at h <;> (try simp only [] at h) <;> (try contradiction)
      rename_i v
      cases v <;> (try simp only [] at h) <;> (try contradiction)
      · rename_i b
        have hy : ∀ (m : Inj) (tmps : Array Value), (∀ t, gslot ops o = some t → Rv m (look env t) (tmps.getD t undef)) → Region.wanted o (yielded ops.toArray tmps) = (b == want) := by
          intro m tmps hr
          have h1 := hr t hgs
          rw [hl] at h1
          have h2 := Rv_sc.1 h1
          have h3 : tmps[t]? = some (.bool b) := by
            rw [Array.getD_eq_getD_getElem?] at h2
            cases hq : tmps[t]? with
            | none => rw [hq] at h2; simp [undef] at h2
            | some u => rw [hq] at h2; simp at h2; rw [h2]
          simp only [Region.wanted, hg, yielded, hd', Option.bind_some, h3]
          cases b <;> cases want <;> rfl
        have hlk : ∀ t', look ((t, .sc (.bool b)) :: env) t' = look env t' := by
          intro t'
          rw [look_cons]
          by_cases e : t = t'
          · subst e; rw [if_pos rfl, hl]
          · rw [if_neg e]
        refine ⟨b == want, (t, .sc (.bool b)) :: env, ?_, hlk, hy⟩
        cases b <;> cases want <;> simpa using h
      · rename_i vs
        refine ⟨false, env, by simpa using h, fun _ => rfl, fun m tmps hr => ?_⟩
        have h1 := hr t hgs
        rw [hl] at h1
        have h2 := Rv_sc.1 h1
        have h3 : ∀ b, tmps[t]? ≠ some (.bool b) := by
          intro b hb
          rw [Array.getD_eq_getD_getElem?, hb] at h2
          simp at h2
        simp only [Region.wanted, hg, yielded, hd', Option.bind_some]
        cases hq : tmps[t]? with
        | none => simp
        | some u =>
          cases u <;> first
            | rfl
            | (rename_i b; exact absurd hq (h3 b))

theorem look_put {N : Nat} {env env' : List (Nat × PV)} {dst : Option Nat} {p : PV} (h : putE N env dst p = some env') : (∀ t, look env' t = if dst = some t then p else look env t) ∧ ∀ d, dst = some d → d < N := by
  rcases putE_some h with ⟨rfl, rfl⟩ | ⟨d, rfl, hd, rfl⟩
  · exact ⟨fun t => by simp, fun d h => by cases h⟩
  · refine ⟨fun t => ?_, fun d' h => by cases h; exact hd⟩
    rw [look_cons]
    by_cases e : d = t
    · rw [if_pos e, if_pos (by rw [e])]
    · rw [if_neg e, if_neg (fun h => e (by cases h; rfl))]

theorem Sim.dis' {x : Ctx} {m : Inj} {env : Nat → PV} {hp : Nat → Option Blk} {a : Act} {w : World} (S : SimF x m env hp a w) (rd : List Nat) : Dis m w (fun i => if i ∈ rd then hp i else none) := by
  refine ⟨?_, S.dis.gw, ?_⟩
  rotate_left
  · intro i B b base t hi ho hm
    replace hi : (if i ∈ rd then hp i else none) = some B := hi
    split at hi
    · exact S.dis.high i B b base t hi ho hm
    · cases hi
  intro i j Bi Bj hij hi hj hdi hdj ho b base t base2 t2 hm hm2
  replace hi : (if i ∈ rd then hp i else none) = some Bi := hi
  replace hj : (if j ∈ rd then hp j else none) = some Bj := hj
  split at hi
  · split at hj
    · exact S.dis.apart i j Bi Bj hij hi hj hdi hdj ho b base t base2 t2 hm hm2
    · cases hj
  · cases hi

/-- A skipped operation. -/
theorem SimF.skip {x : Ctx} {m : Inj} {env env1 env' : Nat → PV} {hp : Nat → Option Blk} {a : Act} {w : World} {dst : Option Nat} (S : SimF x m env hp a w) (hl : ∀ t, env1 t = env t)
    (he : ∀ t, env' t = if dst = some t then .sc undef else env1 t) (hN : ∀ d, dst = some d → d < x.N) (hW : ∀ d, dst = some d → x.W d) : SimF x m env' hp (a.put dst undef) w :=
  SimF.step (n := 0) S (Post.pure (rd := []) (hp := hp) (w := w) (n := 0) (p := .sc undef) (v := undef) (m := m) (Rv_sc.2 rfl))
    ⟨fun i B h => by simp at h, fun k h => by simp at h, fun i _ _ => rfl, fun k h => by simp at h⟩ (fun t => by rw [hl]; exact S.env t) he hN hW

theorem evOps_sound {T : Table} (hT : TableOK P T) {x : Ctx} {ops : List Oper} {K : St → Option R} {r : R} {Q : Exit → Act → World → Prop} : ∀ (l : List Oper) (st : St), evOps P T x.N ops l st K = some r → (∀ o ∈ l, ∀ d, o.dst = some d → x.W d) →
    (∀ m st' a w, K st' = some r → Sim x m st' a w → Q .normal a w) → ∀ m a w, Sim x m st a w → wpList P ops.toArray Q l a w
  | [], st, h, _, hQ, m, a, w, S => hQ m st a w h S
  | o :: l, st, h, hW, hQ, m, a, w, S => by
    simp only [evOps] at h
    obtain ⟨b, env1, hb, hlk, hw⟩ := evGuard_sound h
    have hwant := hw m a.tmps (fun t _ => S.env t)
    have hWo : ∀ d, o.dst = some d → x.W d := hW o List.mem_cons_self
    have hWl : ∀ o' ∈ l, ∀ d, o'.dst = some d → x.W d := fun o' ho => hW o' (List.mem_cons_of_mem _ ho)
    cases b with
    | true =>
      simp only [if_true] at hb
      obtain ⟨p, c, hk, hop⟩ := evOp_sound hT rfl hb
      obtain ⟨env', hp, hk2⟩ := bindO_some hk
      obtain ⟨hl2, hN⟩ := look_put hp
      simp only [wpList, hwant, if_true]
      left
      have hx : ∀ y ∈ o.op.operands, Rv m (opd env1 y) (a.eval y) := fun y _ => opd_rv (fun t => by rw [hlk]; exact S.env t) y
      refine (hop m w a.eval o rfl hx (fun i _ B hB => S.rep i B hB) (fun i h1 _ => S.top i (by rw [getB_eq]; exact List.getElem?_eq_none h1)) (Sim.dis' S c.rd)).wp ?_
      rintro v w' ⟨m', hpost⟩
      refine evOps_sound hT l _ hk2 hWl hQ m' _ w' ?_
      exact SimF.step S hpost (apply_upd hpost.upf hpost.upn) (fun t => by rw [hlk]; exact S.env t) hl2 hN hWo
    | false =>
      simp only [Bool.false_eq_true, if_false] at hb
      obtain ⟨env', hp, hk2⟩ := bindO_some hb
      obtain ⟨hl2, hN⟩ := look_put hp
      simp only [wpList, hwant, Bool.false_eq_true, if_false]
      exact evOps_sound hT l _ hk2 hWl hQ m _ w (SimF.skip S hlk hl2 hN hWo)
end
end Go.Proofs.YtokephobkllfgaaDoorEv
