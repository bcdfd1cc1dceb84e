/- What is proved here: one operation of the evaluator says what the machine's own does. No condition but that the table's contracts hold. -/
import Derived.Test.YtokephobkllfgaaDoorEvLa
namespace Go.Proofs.YtokephobkllfgaaDoorEv
open Go
set_option linter.unusedSimpArgs false
section
variable {P : Program} {R : Type} {n : Nat}

/-- What an operation comes to: a value in a world, at once or by a call. -/
def Does (P : Program) (r : Result Next) (S : Value → World → Prop) : Prop :=
  match r with
  | .ok (.value v) w' => S v w'
  | .ok .skip w' => S undef w'
  | .ok (.enter f args) w' => Calls P f args w' fun e w'' => ∃ v, e = .returned v ∧ S v w''
  | _ => False
theorem Does.wp {o : Oper} {a : Act} {w : World} {S : Value → World → Prop} {next : Act → World → Prop} {Q : Exit → Act → World → Prop} (h : Does P ((execOp a.eval o).run P w) S)
    (hn : ∀ v w', S v w' → next (a.put o.dst v) w') : o.wp P a w next Q := by
  unfold Oper.wp
  generalize (execOp a.eval o).run P w = r at h
  cases r with
  | ok nx w' =>
    cases nx <;> simp only [Does] at h <;> simp only [Oper.upon]
    · exact hn _ _ h
    · exact hn _ _ h
    · exact Calls.mono h (fun e w'' ⟨v, he, hs⟩ => by subst he; exact hn _ _ hs)
  | halt x w' => simp only [Does] at h
theorem Does.value {s : Sem Value} {w w' : World} {v : Value} {S : Value → World → Prop} (h : s.run P w = .ok v w') (hs : S v w') : Does P ((do pure (.value (← s)) : Sem Next).run P w) S := by
  simp only [Sem.run_bind, h, Result.andThen_ok, Sem.run_pure, Does]; exact hs

theorem opd_rv {m : Inj} {env : List (Nat × PV)} {a : Act} (h : ∀ t, Rv m (look env t) (a.tmps.getD t undef)) (x : Operand) : Rv m (opd env x) (a.eval x) := by
  cases x with
  | tmp t => exact h t
  | const v => exact Rv_ofV v
  | global g => exact Rv_sc.2 rfl
  | func f => unfold opd Rv; exact ⟨[], rfl, Rvs.nil⟩
theorem map_rvs {m : Inj} {rho : Operand → PV} {rhov : Operand → Value} : ∀ (l : List Operand), (∀ x ∈ l, Rv m (rho x) (rhov x)) → Rvs m (l.map rho) (l.map rhov)
  | [], _ => Rvs.nil
  | x :: r, h => Rvs.cons (h x List.mem_cons_self) (map_rvs r fun y hy => h y (List.mem_cons_of_mem _ hy))
theorem opt_rv {m : Inj} {rho : Operand → PV} {rhov : Operand → Value} (o : Option Operand) (h : ∀ x, o = some x → Rv m (rho x) (rhov x)) : OptRv m (o.map rho) (o.map rhov) := by
  cases o with
  | none => exact ⟨fun p hp => (by cases hp), fun _ => rfl⟩
  | some x => exact ⟨fun p hp => by cases hp; exact ⟨_, rfl, h x rfl⟩, fun hp => (by cases hp)⟩

theorem evCall_sound {T : Table} (hT : TableOK P T) {q : Bool} {H : List Blk} (hnH : n = H.length) {f : Nat} {xs : List PV} {K : PV → Chg → Option R} {r : R} (h : evCall T q n H f xs K = some r) :
    ∃ p c, K p c = some r ∧ ∀ m w vs, Rvs m xs vs → Reads m w H c.rd → Dis m w (fun i => if i ∈ c.rd then getB H i else none) →
      Does P ((callFunc f vs.toArray).run P w) fun v w' => ∃ m', Post m w (getB H) n p c v m' w' := by
  unfold evCall at h
  simp only [] at h
  obtain ⟨hg, h1⟩ := guardB_some h
  obtain ⟨⟨b, alts⟩, hr, h2a⟩ := bindO_some h1
  simp only [] at h2a
  obtain ⟨hb, h2b⟩ := guardB_some h2a
  subst hb
  obtain ⟨⟨rp, rH⟩, hpick, h2⟩ := evAlts_some h2b
  simp only [] at h2
  simp only [Bool.and_eq_true] at hg
  obtain ⟨hnd, hlt⟩ := hg
  cases hz : zipUp (backN (reach 64 H (refsL xs) []) n) (reach 64 H (refsL xs) []) rH with
  | none => rw [hz] at h2; simp at h2
  | some un =>
    obtain ⟨up, nw⟩ := un
    rw [hz] at h2; simp only [] at h2
    have hTT := hT _ _ _ alts hr rp rH hpick
    refine ⟨_, _, h2, fun m w vs hvs hrd hdis => ?_⟩
    obtain ⟨l1, l2⟩ := local_ok (q := q) hnd hrd hdis
    have hsub : ∀ i k x, idx (reach 64 H (refsL xs) []) i = some k → m i = some x → subInj m (reach 64 H (refsL xs) []) k = some x := fun i k x hi hx => by
      simp [subInj, idx_nth hi, hx]
    have htop : ∀ i, (localH q H (reach 64 H (refsL xs) [])).length ≤ i → subInj m (reach 64 H (refsL xs) []) i = none := by
      intro i hi
      simp only [localH, List.length_map] at hi
      simp [subInj, nth_eq, List.getElem?_eq_none hi]
    rcases hTT with ⟨he, hok⟩ | hext
    · rw [he vs.toArray w]
      exact (hok _ w vs htop l1 l2 (hvs.ren hsub)).mono fun e w' ⟨v, mc, hv, hp⟩ => ⟨v, hv, _, back_post hlt hnd hnH hz hp⟩
    · obtain ⟨v, mc, hv, hp⟩ := hext _ w vs htop l1 l2 (hvs.ren hsub)
      rw [hv]
      exact ⟨_, back_post hlt hnd hnH hz hp⟩

theorem evExtract_sound {m : Inj} {w : World} {x p : PV} {i : Nat} {xv : Value} (h : evExtract x i = some p) (hx : Rv m x xv) : ∃ v, (Instr.extract xv i).run P w = .ok v w ∧ Rv m p v := by
  unfold evExtract at h
  cases x <;> simp only [] at h <;> try contradiction
  unfold Rv at hx
  obtain ⟨us, rfl, hr⟩ := hx
  obtain ⟨u, hu, hru⟩ := hr.get h
  exact ⟨u, by simp [Instr.extract, hu], hru⟩
end

section
variable {P : Program} {R : Type} {n : Nat}
theorem zeroCells_one {t : TypeId} {cs : List PV} {i : TypeInfo} {z : Value} (h : zeroCells P t = some cs) (hi : P.info? t = some i) (hz : i.zero = some z) : ∀ v ∈ z.cells.toList, v.oneCell' = true := by
  unfold zeroCells at h
  rw [hi] at h; simp only [Option.bind_some, hz] at h
  exact (cells1_rv (m := fun _ => none) h (Rv_ofV z)).2
theorem gPlace_some {x : PV} {g off : Nat} (h : gPlace x = some (g, off)) : x = .sc (.pointer (some ⟨g, off, none⟩)) := by
  unfold gPlace at h
  split at h
  · cases h; rfl
  · cases h
theorem gLook_mem : ∀ {l : List (Nat × IntKind × List Int)} {g : Nat} {x : IntKind × List Int}, gLook l g = some x → (g, x) ∈ l
  | [], g, x, h => by simp [gLook] at h
  | (g0, y) :: r, g, x, h => by
    unfold gLook at h
    cases hb : Nat.beq g0 g with
    | true =>
      rw [hb] at h
      obtain rfl := Nat.eq_of_beq_eq_true hb
      simp only [cond_true, Option.some.injEq] at h
      subst h; exact List.mem_cons_self
    | false => rw [hb] at h; exact List.mem_cons_of_mem _ (gLook_mem h)
def gInj (g n : Nat) : Inj := fun i => if i = 0 then some (g, 0, n) else none
theorem gPtr (m : Inj) {g off n : Nat} {u : Value} (h : Rv m (.sc (.pointer (some ⟨g, off, none⟩))) u) : Rv (gInj g n) (.ptr 0 off 1 0) u := by
  rw [Rv_sc] at h
  subst h
  unfold Rv
  exact ⟨g, 0, n, rfl, by simp⟩
theorem gBack_some {K : PV → Option R} {g n : Nat} {p : PV} {r : R} (h : gBack K g p = some r) : ∃ q, K (.sc q) = some r ∧ ∀ v, Rv (gInj g n) p v → v = q := by
  unfold gBack at h
  split at h
  · rename_i i e sz j
    cases hb : Nat.beq i 0 with
    | false => rw [hb] at h; cases h
    | true =>
      rw [hb] at h
      obtain rfl := Nat.eq_of_beq_eq_true hb
      refine ⟨_, h, fun v hv => ?_⟩
      unfold Rv at hv
      obtain ⟨b, base, t, h1, rfl⟩ := hv
      unfold gInj at h1
      rw [if_pos rfl] at h1
      cases h1
      rw [Nat.zero_add]
  · cases h
theorem gw_rep {w : World} (hw : GW w) {g : Nat} {x : IntKind × List Int} (h : gLook gTab g = some x) : ∃ n, BRep (gInj g n) w 0 (.row false (.int x.1) x.2) := by
  obtain ⟨el, fz, hh⟩ := hw.2 g x (gLook_mem h)
  refine ⟨(x.2.flatMap (Kd.int x.1).vals).toArray.size, Or.inr (Or.inr ⟨g, 0, _, _, el, fz, by unfold gInj; rw [if_pos rfl], hh, rfl, (fun h => (by cases h)), fun q p hp => ?_⟩)⟩
  simp only [Blk.cs, scs, List.getElem?_map, Option.map_eq_some_iff] at hp
  obtain ⟨v, hv, rfl⟩ := hp
  exact ⟨v, by simpa using hv, Rv_sc.2 rfl⟩
set_option maxHeartbeats 1000000 in
theorem evOp_sound {T : Table} (hT : TableOK P T) {q : Bool} {H : List Blk} (hnH : n = H.length) {rho : Operand → PV} {op : Op} {K : PV → Chg → Option R} {r : R} (h : evOp P T q n H rho op K = some r) :
    ∃ p c, K p c = some r ∧ ∀ m w (rhov : Operand → Value) (o : Oper), o.op = op → (∀ x ∈ op.operands, Rv m (rho x) (rhov x)) → Reads m w H c.rd → (∀ i, n ≤ i → i < n + c.nw.length → m i = none) →
      Dis m w (fun i => if i ∈ c.rd then getB H i else none) → Does P ((execOp rhov o).run P w) fun v w' => ∃ m', Post m w (getB H) n p c v m' w' := by
  have pureCase : ∀ {p : PV}, K p ⟨[], [], []⟩ = some r → (∀ m w (rhov : Operand → Value) (o : Oper), o.op = op → (∀ x ∈ op.operands, Rv m (rho x) (rhov x)) → ∃ v, Rv m p v ∧ ∀ S : Value → World → Prop, S v w → Does P ((execOp rhov o).run P w) S) →
      ∃ p c, K p c = some r ∧ ∀ m w (rhov : Operand → Value) (o : Oper), o.op = op → (∀ x ∈ op.operands, Rv m (rho x) (rhov x)) → Reads m w H c.rd → (∀ i, n ≤ i → i < n + c.nw.length → m i = none) →
      Dis m w (fun i => if i ∈ c.rd then getB H i else none) → Does P ((execOp rhov o).run P w) fun v w' => ∃ m', Post m w (getB H) n p c v m' w' := by
    intro p hk hh
    refine ⟨p, _, hk, fun m w rhov o ho hx _ _ _ => ?_⟩
    obtain ⟨v, hv, hd⟩ := hh m w rhov o ho hx
    exact hd _ ⟨m, Post.pure hv⟩
  cases op <;> simp only [evOp] at h <;> try contradiction
  case move x =>
    exact pureCase h fun m w rhov o ho hx => ⟨rhov x, hx x (by simp [Op.operands]), fun S hs => by simp only [execOp, ho, Sem.run_pure, Does]; exact hs⟩
  case assign x =>
    exact pureCase h fun m w rhov o ho hx => ⟨rhov x, hx x (by simp [Op.operands]), fun S hs => by simp only [execOp, ho, Sem.run_pure, Does]; exact hs⟩
  case pick c a b =>
    obtain ⟨p, hk, hp⟩ := evPick_sound (P := P) h
    refine pureCase hk fun m w rhov o ho hx => ?_
    obtain ⟨v, hv, hrv⟩ := hp m w _ _ _ (hx c (by simp [Op.operands])) (hx a (by simp [Op.operands])) (hx b (by simp [Op.operands]))
    refine ⟨v, hrv, fun S hs => ?_⟩
    have := Does.value (S := S) hv hs
    simpa [execOp, ho] using this
  case alloc t =>
    unfold evAlloc at h
    cases hz : zeroPV P t with
    | none => rw [hz] at h; simp at h
    | some p0 =>
      rw [hz] at h; simp only [] at h
      cases hb : blkOfT P t true p0 with
      | none => rw [hb] at h; simp at h
      | some B =>
        rw [hb] at h; simp only [] at h
        refine ⟨_, _, h, fun m w rhov o ho hx _ hfree _ => ?_⟩
        unfold zeroPV at hz
        cases hc : zeroCells P t with
        | none => rw [hc] at hz; simp at hz
        | some cs =>
          rw [hc] at hz; simp only [] at hz
          obtain ⟨i, zv, hi, hzv, hr⟩ := zeroCells_rv (m := m) hc
          obtain ⟨d, hd, hh⟩ := ofCells_rv hz hr
          have hm := hfree n (Nat.le_refl _) (by simp)
          have hrun : ∀ {u : Value} {v : Value} {w' : World}, u.cells = zv.cells → (newVar t u).run P w = .ok ⟨w.heap.size, 0, none⟩ w' → (Instr.alloc t true (.tuple #[])).run P w = .ok (.pointer (some ⟨w.heap.size, 0, none⟩)) w' := by
            intro u v w' hu hr
            have e1 : newVar t zv = newVar t u := by unfold newVar; rw [hu]
            simp [Instr.alloc, zeroValue, typeInfo, hi, hzv, e1, hr]
          rcases hh with ⟨_, hr2⟩ | ⟨_, u, hu, hr2⟩
          · obtain ⟨v, m', w', h1, rfl, h3⟩ := newVar_post (P := P) (t := t) (hp := getB H) hb hr2 hm
            have := Does.value (S := fun v w' => ∃ m', Post m w (getB H) n (ptrTo n B) ⟨[], [], [B]⟩ v m' w') (hrun (v := undef) (by simp [Value.cells]) h1) ⟨m', h3⟩
            simpa [execOp, ho] using this
          · obtain ⟨v, m', w', h1, rfl, h3⟩ := newVar_post (P := P) (t := t) (hp := getB H) hb hr2 hm
            have hcu : u.cells = zv.cells := by
              have e2 : u.oneCell' = true := zeroCells_one hc hi hzv u (by rw [hu]; simp)
              rw [oneCell_cells e2]
              apply Array.ext'
              rw [hu]
            have := Does.value (S := fun v w' => ∃ m', Post m w (getB H) n (ptrTo n B) ⟨[], [], [B]⟩ v m' w') (hrun (v := undef) hcu h1) ⟨m', h3⟩
            simpa [execOp, ho] using this
  case box t x =>
    unfold evAlloc at h
    simp only [] at h
    cases hb : blkOfT P t true (rho x) with
    | none => rw [hb] at h; simp at h
    | some B =>
      rw [hb] at h; simp only [] at h
      refine ⟨_, _, h, fun m w rhov o ho hx _ hfree _ => ?_⟩
      obtain ⟨v, m', w', h1, rfl, h3⟩ := newVar_post (P := P) (t := t) (hp := getB H) hb (hx x (by simp [Op.operands])) (hfree n (Nat.le_refl _) (by simp))
      have := Does.value (P := P) (s := Instr.box t (rhov x)) (w := w) (w' := w') (v := .pointer (some ⟨w.heap.size, 0, none⟩)) (S := fun v w' => ∃ m', Post m w (getB H) n (ptrTo n B) ⟨[], [], [B]⟩ v m' w') (by simp only [Instr.box, Sem.run_bind, h1, Result.andThen_ok, Sem.run_pure]) ⟨m', h3⟩
      simpa [execOp, ho] using this
  case build t ps =>
    obtain ⟨p, hp, hk⟩ := bindO_some h
    refine pureCase hk fun m w rhov o ho hx => ?_
    obtain ⟨v, hv, hrv⟩ := evBuild_sound (m := m) (w := w) (rhov := rhov) hp (fun x hm => hx x.2 (by simp only [Op.operands]; simp; exact ⟨x.1, by simpa using hm⟩))
    refine ⟨v, hrv, fun S hs => ?_⟩
    have e1 : (ps.map fun x => (x.1, rhov x.2)) = (ps.toList.map fun x => (x.1, rhov x.2)).toArray := by apply Array.ext'; simp
    have := Does.value (s := Instr.build t (ps.map fun x => (x.1, rhov x.2))) (S := S) (by rw [e1]; exact hv) hs
    simpa [execOp, ho] using this
  case buildSlice t len ps =>
    obtain ⟨p, B, hk, hp⟩ := evBuildSlice_sound h
    refine ⟨p, _, hk, fun m w rhov o ho hx _ hfree _ => ?_⟩
    obtain ⟨v, m', w', h1, h2⟩ := hp m w (getB H) rhov (hfree n (Nat.le_refl _) (by simp)) (fun x hm => hx x.2 (by simp only [Op.operands]; simp; exact ⟨x.1, by simpa using hm⟩))
    have e1 : (ps.map fun x => (x.1, rhov x.2)) = (ps.toList.map fun x => (x.1, rhov x.2)).toArray := by apply Array.ext'; simp
    have := Does.value (s := Instr.buildSlice t len (ps.map fun x => (x.1, rhov x.2))) (S := fun v w' => ∃ m', Post m w (getB H) n p ⟨[], [], [B]⟩ v m' w') (by rw [e1]; exact h1) ⟨m', h2⟩
    simpa [execOp, ho] using this
  case load t a =>
    unfold evLoadG at h
    cases hg : gPlace (rho a) with
    | some y =>
      obtain ⟨g, off⟩ := y
      rw [hg] at h; simp only [] at h
      have hpl := gPlace_some hg
      obtain ⟨x, hx1, h1⟩ := bindO_some h
      obtain ⟨p, i, B, hk, hB, hp⟩ := evLoad_sound h1
      have hi : i = 0 ∧ B = .row false (.int x.1) x.2 := by
        cases i with
        | zero => simp [getB] at hB; exact ⟨rfl, hB.symm⟩
        | succ i => simp [getB] at hB
      obtain ⟨rfl, rfl⟩ := hi
      unfold scOnly at hk
      split at hk
      · rename_i v0
        refine ⟨_, _, hk, fun m w rhov o ho hx hrd _ hdis => ?_⟩
        obtain ⟨n1, hb⟩ := gw_rep hdis.gw hx1
        have ha := hx a (by simp [Op.operands])
        rw [hpl] at ha
        obtain ⟨v, hv, hrv⟩ := hp _ w _ hb (gPtr m (n := n1) ha)
        have := Does.value (S := fun v w' => ∃ m', Post m w (getB H) n (.sc v0) ⟨[], [], []⟩ v m' w') hv ⟨m, Post.pure (Rv_sc.2 (Rv_sc.1 hrv))⟩
        simpa [execOp, ho] using this
      · cases hk
    | none =>
    rw [hg] at h; simp only [] at h
    obtain ⟨p, i, B, hk, hB, hp⟩ := evLoad_sound h
    refine ⟨p, _, hk, fun m w rhov o ho hx hrd _ _ => ?_⟩
    obtain ⟨v, hv, hrv⟩ := hp m w _ (hrd i (by simp) B hB) (hx a (by simp [Op.operands]))
    have := Does.value (S := fun v w' => ∃ m', Post m w (getB H) n p ⟨[i], [], []⟩ v m' w') hv ⟨m, Post.pure hrv⟩
    simpa [execOp, ho] using this
  case store t a x =>
    obtain ⟨i, B, B', hk, hB, ⟨ho1, ho2⟩, hp⟩ := evStore_sound h
    refine ⟨_, _, hk, fun m w rhov o ho hx hrd _ _ => ?_⟩
    obtain ⟨w', h1, h2, h3⟩ := hp m w _ _ (hrd i (by simp) B hB) (hx a (by simp [Op.operands])) (hx x (by simp [Op.operands]))
    have : (execOp rhov o).run P w = .ok .skip w' := by simp [execOp, ho, h1]
    rw [this]
    refine ⟨m, Rv_sc.2 rfl, fun _ _ => rfl, ?_, fun k B h => by simp at h, ?_, fun k b base t B h => by simp at h, fun k l b base t base2 t2 B B2 h => by simp at h, ?_, fun i B B' h h' => by simp at h h'; rw [h.2, h'.2], fun i' B' h => by simp at h; exact ⟨B, by rw [h.1]; exact hB⟩⟩
    · intro i1 B1 h
      simp only [List.mem_singleton, Prod.mk.injEq] at h
      obtain ⟨rfl, rfl⟩ := h
      exact h2
    · intro i1 B1 h _
      simp only [List.mem_singleton, Prod.mk.injEq] at h
      obtain ⟨rfl, rfl⟩ := h
      exact ⟨B, hB, fun e => by rw [e] at ho1; simp [Blk.own] at ho1, by rw [ho1, ho2]⟩
    · refine h3.mono ?_
      rintro b _ ⟨base, t0, hm⟩
      exact ⟨i, B', B, base, t0, by simp, hB, ho1, hm⟩
  case nilCheck x =>
    obtain ⟨p, hp, hk⟩ := bindO_some h
    refine pureCase hk fun m w rhov o ho hx => ?_
    have hx0 := hx x (by simp [Op.operands])
    unfold evNil at hp
    split at hp
    · rename_i i e sz j hrx
      cases hp
      rw [hrx] at hx0
      have hx1 := hx0
      unfold Rv at hx0
      obtain ⟨b, base, tt, hm, hv⟩ := hx0
      exact ⟨rhov x, hx1, fun S hs => by simp only [execOp, ho, hv, Sem.run_pure, Does]; rw [← hv]; exact hs⟩
    · rename_i f caps hrx
      cases hp
      rw [hrx] at hx0
      have hx1 := hx0
      unfold Rv at hx0
      obtain ⟨us, hv, _⟩ := hx0
      exact ⟨rhov x, hx1, fun S hs => by simp only [execOp, ho, hv, Sem.run_pure, Does]; rw [← hv]; exact hs⟩
    · cases hp
  case binOp b t x y ty =>
    obtain ⟨p, hk, hp⟩ := evBin_sound h
    refine pureCase hk fun m w rhov o ho hx => ?_
    obtain ⟨v, hv, hrv⟩ := hp m w _ _ (hx x (by simp [Op.operands])) (hx y (by simp [Op.operands])) x y
    refine ⟨v, hrv, fun S hs => ?_⟩
    have := Does.value (S := S) hv hs
    simpa [execOp, ho] using this
  case unOp u t x =>
    obtain ⟨p, hk, hp⟩ := evUn_sound (P := P) h
    refine pureCase hk fun m w rhov o ho hx => ?_
    obtain ⟨v, hv, hrv⟩ := hp m w _ (hx x (by simp [Op.operands]))
    refine ⟨v, hrv, fun S hs => ?_⟩
    have := Does.value (S := S) hv hs
    simpa [execOp, ho] using this
  case convert s d x =>
    obtain ⟨p, c, hk, hp⟩ := evConv_sound h
    refine ⟨p, c, hk, fun m w rhov o ho hx hrd hfree _ => ?_⟩
    obtain ⟨v, m', w', hv, hpost⟩ := hp m w _ (hx x (by simp [Op.operands])) hrd hfree
    have := Does.value (S := fun v w' => ∃ m', Post m w (getB H) n p c v m' w') hv ⟨m', hpost⟩
    simpa [execOp, ho] using this
  case makeFunc fn first caps =>
    cases fn <;> simp only [] at h <;> try contradiction
    rename_i f
    cases hf : first.isEmpty with
    | false => rw [hf] at h; simp at h
    | true =>
      rw [hf] at h; simp only [cond_true] at h
      refine pureCase h fun m w rhov o ho hx => ?_
      have hfe : first = #[] := Array.isEmpty_iff.1 hf
      subst hfe
      refine ⟨.func (.func f) #[] (caps.map rhov), ?_, fun S hs => ?_⟩
      · unfold Rv
        exact ⟨caps.toList.map rhov, by congr 1; apply Array.ext'; simp, map_rvs _ fun x hm => hx x (by simp only [Op.operands]; simp; simpa using hm)⟩
      · simp only [execOp, ho, Instr.makeFunc, Sem.run_bind, Sem.run_pure, Result.andThen_ok, Does]
        simpa using hs
  case makeSlice t l c =>
    obtain ⟨p, B, hk, hp⟩ := evMakeSlice_sound h
    refine ⟨p, _, hk, fun m w rhov o ho hx _ hfree _ => ?_⟩
    obtain ⟨v, m', w', h1, h2⟩ := hp m w (getB H) _ _ (hfree n (Nat.le_refl _) (by simp)) (hx l (by simp [Op.operands])) (hx c (by simp [Op.operands]))
    have := Does.value (S := fun v w' => ∃ m', Post m w (getB H) n p ⟨[], [], [B]⟩ v m' w') h1 ⟨m', h2⟩
    simpa [execOp, ho] using this
  case slice t x lo hi mx =>
    obtain ⟨p, hk, hp⟩ := evSlice_sound h
    refine pureCase hk fun m w rhov o ho hx => ?_
    obtain ⟨v, hv, hrv⟩ := hp m w _ _ _ _ (hx x (by simp [Op.operands])) (opt_rv lo (rhov := rhov) fun y hy => hx y (by subst hy; simp [Op.operands])) (opt_rv hi (rhov := rhov) fun y hy => hx y (by subst hy; simp [Op.operands])) (opt_rv mx (rhov := rhov) fun y hy => hx y (by subst hy; simp [Op.operands]))
    refine ⟨v, hrv, fun S hs => ?_⟩
    have := Does.value (S := S) hv hs
    simpa [execOp, ho] using this
  case fieldAddr t x f =>
    unfold evFieldAddrG at h
    cases hg : gPlace (rho x) with
    | some y =>
      obtain ⟨g, off⟩ := y
      rw [hg] at h; simp only [] at h
      have hpl := gPlace_some hg
      obtain ⟨p, hp, h1⟩ := bindO_some h
      obtain ⟨q, hk, hq⟩ := gBack_some (n := 0) h1
      refine pureCase hk fun m w rhov o ho hx => ?_
      have ha := hx x (by simp [Op.operands])
      rw [hpl] at ha
      obtain ⟨v, hv, hrv⟩ := evFieldAddr_sound (w := w) hp (gPtr m (n := 0) ha)
      refine ⟨v, Rv_sc.2 (hq v hrv), fun S hs => ?_⟩
      have := Does.value (S := S) hv hs
      simpa [execOp, ho] using this
    | none =>
    rw [hg] at h; simp only [] at h
    obtain ⟨p, hp, hk⟩ := bindO_some h
    refine pureCase hk fun m w rhov o ho hx => ?_
    obtain ⟨v, hv, hrv⟩ := evFieldAddr_sound (w := w) hp (hx x (by simp [Op.operands]))
    refine ⟨v, hrv, fun S hs => ?_⟩
    have := Does.value (S := S) hv hs
    simpa [execOp, ho] using this
  case field t x f =>
    obtain ⟨p, hp, hk⟩ := bindO_some h
    refine pureCase hk fun m w rhov o ho hx => ?_
    obtain ⟨v, hv, hrv⟩ := evField_sound (w := w) hp (hx x (by simp [Op.operands]))
    refine ⟨v, hrv, fun S hs => ?_⟩
    have := Does.value (S := S) hv hs
    simpa [execOp, ho] using this
  case indexAddr t x i =>
    unfold evIndexAddrG at h
    cases hg : gPlace (rho x) with
    | some y =>
      obtain ⟨g, off⟩ := y
      rw [hg] at h; simp only [] at h
      have hpl := gPlace_some hg
      split at h
      case h_2 => cases h
      rename_i v0 hix
      obtain ⟨p, h1, hp⟩ := evIndexAddr_sound h
      obtain ⟨q, hk, hq⟩ := gBack_some (n := 0) h1
      refine pureCase hk fun m w rhov o ho hx => ?_
      have ha := hx x (by simp [Op.operands])
      rw [hpl] at ha
      have hi := hx i (by simp [Op.operands])
      rw [hix] at hi
      obtain ⟨v, hv, hrv⟩ := hp _ w _ _ (gPtr m (n := 0) ha) (Rv_sc.2 (Rv_sc.1 hi))
      refine ⟨v, Rv_sc.2 (hq v hrv), fun S hs => ?_⟩
      have := Does.value (S := S) hv hs
      simpa [execOp, ho] using this
    | none =>
    rw [hg] at h; simp only [] at h
    obtain ⟨p, hk, hp⟩ := evIndexAddr_sound h
    refine pureCase hk fun m w rhov o ho hx => ?_
    obtain ⟨v, hv, hrv⟩ := hp m w _ _ (hx x (by simp [Op.operands])) (hx i (by simp [Op.operands]))
    refine ⟨v, hrv, fun S hs => ?_⟩
    have := Does.value (S := S) hv hs
    simpa [execOp, ho] using this
  case index t x i =>
    obtain ⟨p, hk, hp⟩ := evIndex_sound h
    refine pureCase hk fun m w rhov o ho hx => ?_
    obtain ⟨v, hv, hrv⟩ := hp m w _ _ (hx x (by simp [Op.operands])) (hx i (by simp [Op.operands]))
    refine ⟨v, hrv, fun S hs => ?_⟩
    have := Does.value (S := S) hv hs
    simpa [execOp, ho] using this
  case extract x i =>
    obtain ⟨p, hp, hk⟩ := bindO_some h
    refine pureCase hk fun m w rhov o ho hx => ?_
    obtain ⟨v, hv, hrv⟩ := evExtract_sound (P := P) (w := w) hp (hx x (by simp [Op.operands]))
    refine ⟨v, hrv, fun S hs => ?_⟩
    have := Does.value (S := S) hv hs
    simpa [execOp, ho] using this
  case call c =>
    obtain ⟨callee, args, ats⟩ := c
    cases callee with
    | invoke recv mth => simp at h
    | value f =>
      simp only [] at h
      split at h
      · rename_i g caps hg
        obtain ⟨p, c, hk, hc⟩ := evCall_sound hT hnH h
        refine ⟨p, c, hk, fun m w rhov o ho hx hrd _ hdis => ?_⟩
        have hf := hx f (by simp [Op.operands, Call.operands])
        rw [hg] at hf
        unfold Rv at hf
        obtain ⟨us, hfv, hus⟩ := hf
        have hargs := map_rvs (rhov := rhov) args.toList (fun x hm => hx x (by simp only [Op.operands, Call.operands]; simp; right; simpa using hm))
        have hcall := hc m w (args.toList.map rhov ++ us) (hargs.append hus) hrd hdis
        have hex : (execOp rhov o).run P w = (callFunc g (args.map rhov ++ us.toArray)).run P w := by
          simp only [execOp, ho, resolve, hfv, Deferred.ofValue, invoke, Sem.run_bind, Sem.run_pure, Array.empty_append, pure_bind]
          try rfl
        rw [hex]
        have e1 : (args.map rhov ++ us.toArray) = (args.toList.map rhov ++ us).toArray := by apply Array.ext'; simp
        rw [e1]
        exact hcall
      · cases h
    | builtin b =>
      cases b <;> simp only [] at h <;> try contradiction
      case append =>
        split at h
        · rename_i t t2 s x hats hargs
          have e1 : ats = #[t, t2] := by apply Array.ext'; simpa using hats
          have e2 : args = #[s, x] := by apply Array.ext'; simpa using hargs
          subst e1; subst e2
          cases hu : P.underlying t2 with
          | none => rw [hu] at h; simp at h
          | some d =>
            rw [hu] at h
            cases d <;> simp only [cond_true, cond_false] at h <;> try contradiction
            rename_i e2
            cases hself : selfApp H (rho s) (rho x) with
            | true =>
              rw [hself] at h; simp only [cond_true] at h
              obtain ⟨p, i, B, B', hk, hB, ⟨ho1, ho2⟩, hp⟩ := evAppendSelf_sound h
              refine ⟨p, _, hk, fun m w rhov o ho hx hrd hfree _ => ?_⟩
              obtain ⟨v, w', h1, h2, h3, h4⟩ := hp m w _ _ t2 o.type e2 hu (hrd i (by simp) B hB) (hx s (by simp [Op.operands, Call.operands])) (hx x (by simp [Op.operands, Call.operands]))
              have := Does.value (S := fun v w' => ∃ m', Post m w (getB H) n p ⟨[i], [(i, B')], []⟩ v m' w') h1 ⟨m, Post.upd1 hB ho1 ho2 h2 h3 h4⟩
              simpa [execOp, ho, resolve, invoke, builtin] using this
            | false =>
            rw [hself] at h; simp only [cond_false] at h
            obtain ⟨p, c, B, hk, hnw, e0, _, hp⟩ := evAppend_sound h
            refine ⟨p, c, hk, fun m w rhov o ho hx hrd hfree _ => ?_⟩
            obtain ⟨v, m', w', h1, h2⟩ := hp m w _ _ t2 o.type e2 hu (hfree n (Nat.le_refl _) (by rw [hnw]; simp)) hrd (hx s (by simp [Op.operands, Call.operands])) (hx x (by simp [Op.operands, Call.operands]))
            have := Does.value (S := fun v w' => ∃ m', Post m w (getB H) n p c v m' w') h1 ⟨m', h2⟩
            simpa [execOp, ho, resolve, invoke, builtin] using this
        · cases h
      case clear =>
        split at h
        · rename_i t x hats hargs
          have e1 : ats = #[t] := by apply Array.ext'; simpa using hats
          have e2 : args = #[x] := by apply Array.ext'; simpa using hargs
          subst e1; subst e2
          obtain ⟨i, B, B', hk, hB, ⟨ho1, ho2⟩, hp⟩ := evClear_sound h
          refine ⟨_, _, hk, fun m w rhov o ho hx hrd hfree _ => ?_⟩
          obtain ⟨w', h1, h3, h4⟩ := hp m w _ o.type (hrd i (by simp) B hB) (hx x (by simp [Op.operands, Call.operands]))
          have := Does.value (S := fun v w' => ∃ m', Post m w (getB H) n (.tup []) ⟨[i], [(i, B')], []⟩ v m' w') h1 ⟨m, Post.upd1 hB ho1 ho2 (by unfold Rv; exact ⟨[], rfl, Rvs.nil⟩) h3 h4⟩
          simpa [execOp, ho, resolve, invoke, builtin] using this
        · cases h
      case len =>
        split at h
        · rename_i t x hats hargs
          have e1 : ats = #[t] := by apply Array.ext'; simpa using hats
          have e2 : args = #[x] := by apply Array.ext'; simpa using hargs
          subst e1; subst e2
          obtain ⟨p, hp, hk⟩ := bindO_some h
          refine pureCase hk fun m w rhov o ho hx => ?_
          obtain ⟨v, hv, hrv⟩ := evLen_sound (w := w) (ty := o.type) hp (hx x (by simp [Op.operands, Call.operands]))
          refine ⟨v, hrv, fun S hs => ?_⟩
          have := Does.value (S := S) hv hs
          simpa [execOp, ho, resolve, invoke, builtin] using this
        · cases h
      case max =>
        split at h
        · rename_i x rest hargs
          obtain ⟨p, hp, hk⟩ := bindO_some h
          refine pureCase hk fun m w rhov o ho hx => ?_
          have hmem : ∀ y ∈ x :: rest, Rv m (rho y) (rhov y) := fun y hy => hx y (by
            simp only [Op.operands, Call.operands]; simp; rw [← Array.mem_toList_iff, hargs]; exact hy)
          obtain ⟨v, hv, hrv⟩ := evMaxN_sound (P := P) (w := w) _ hp (hmem x (by simp)) (map_rvs (rhov := rhov) rest fun y hy => hmem y (by simp [hy]))
          refine ⟨v, hrv, fun S hs => ?_⟩
          have := Does.value (P := P) (s := Builtin.max_ ats o.type (args.map rhov)) (S := S) (by unfold Builtin.max_; rw [show (args.map rhov).toList = rhov x :: rest.map rhov by rw [Array.toList_map, hargs]; rfl]; exact hv) hs
          simpa [execOp, ho, resolve, invoke, builtin] using this
        · cases h
      case min =>
        split at h
        · rename_i x rest hargs
          obtain ⟨p, hp, hk⟩ := bindO_some h
          refine pureCase hk fun m w rhov o ho hx => ?_
          have hmem : ∀ y ∈ x :: rest, Rv m (rho y) (rhov y) := fun y hy => hx y (by
            simp only [Op.operands, Call.operands]; simp; rw [← Array.mem_toList_iff, hargs]; exact hy)
          obtain ⟨v, hv, hrv⟩ := evMinN_sound (P := P) (w := w) _ hp (hmem x (by simp)) (map_rvs (rhov := rhov) rest fun y hy => hmem y (by simp [hy]))
          refine ⟨v, hrv, fun S hs => ?_⟩
          have := Does.value (P := P) (s := Builtin.min_ ats o.type (args.map rhov)) (S := S) (by unfold Builtin.min_; rw [show (args.map rhov).toList = rhov x :: rest.map rhov by rw [Array.toList_map, hargs]; rfl]; exact hv) hs
          simpa [execOp, ho, resolve, invoke, builtin] using this
        · cases h
end
end Go.Proofs.YtokephobkllfgaaDoorEv
