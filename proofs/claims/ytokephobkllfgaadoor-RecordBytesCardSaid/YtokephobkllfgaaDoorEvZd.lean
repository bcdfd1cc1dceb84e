/- What is proved here: arguments that came in and can be read as data, slices, arrays and structs with slices in them among them, stand as shapes say; how a law's row is had from what the law answers over shapes. Conditions: the value reads as data and each string and slice in it is within the form's reach. -/
import Derived.Test.YtokephobkllfgaaDoorEvZc
import Derived.OpenShut
namespace Go.Proofs.YtokephobkllfgaaDoorEv
open Go Go.RowKit

def SlAt (W : World) (k : Kd) (v : Value) (x : List k.den × Bool) : Prop :=
  ∃ pl : Option (Nat × Nat × Nat), Rv (fun _ => pl) (slV 0 k x) v ∧ BRep (fun _ => pl) W 0 (.row false k x.1)
def CellOK (W : World) : (s : Sp) → s.den → List Value → Prop
  | .v s, x, cs => cs = s.kd.vals x
  | .ro k, x, cs => ∃ v, cs = [v] ∧ SlAt W k v x
  | .ar k n, x, cs => cs = x.flatMap k.vals ∧ x.length = n
  | _, _, _ => False
def CellsOK (W : World) : (cs : List Sp) → denS cs → List Value → Prop
  | [], _, l => l = []
  | s :: r, x, l => ∃ a b, l = a ++ b ∧ CellOK W s x.1 a ∧ CellsOK W r x.2 b
def ArgOK (W : World) : (s : Shp) → s.den → Value → Prop
  | .s (.v s), x, v => v = s.val x
  | .s (.ro k), x, v => SlAt W k v x
  | .s (.ar k n), x, v => v = .agg (x.flatMap k.vals).toArray ∧ x.length = n
  | .ag cs, x, v => ∃ l : List Value, v = .agg l.toArray ∧ CellsOK W cs x l
  | _, _, _ => False
def ArgsOK (W : World) : (ks : List Shp) → denA ks → List Value → Prop
  | [], _, l => l = []
  | s :: r, x, l => ∃ v t, l = v :: t ∧ ArgOK W s x.1 v ∧ ArgsOK W r x.2 t

/-- Where the blocks of a shape lie. -/
def Placed (W : World) (n : Nat) (Q : Inj → Prop) (Bs : List Blk) : Prop :=
  ∃ pls : List (Option (Nat × Nat × Nat)), pls.length = Bs.length ∧ ∀ m : Inj, (∀ (j : Nat) (p : Option (Nat × Nat × Nat)), pls[j]? = some p → m (n + j) = p) → Q m ∧ ∀ (j : Nat) (B : Blk), Bs[j]? = some B → BRep m W (n + j) B ∧ B.own = false
theorem Placed.app {W : World} {n : Nat} {Q R S : Inj → Prop} {As Bs : List Blk} (h : Placed W n Q As) (k : Placed W (n + As.length) R Bs) (hs : ∀ m, Q m → R m → S m) : Placed W n S (As ++ Bs) := by
  obtain ⟨p, hp, hp2⟩ := h
  obtain ⟨q, hq, hq2⟩ := k
  refine ⟨p ++ q, by simp [hp, hq], fun m hm => ?_⟩
  obtain ⟨a1, a2⟩ := hp2 m (fun j x hx => hm j x (by rw [List.getElem?_append_left (List.getElem?_eq_some_iff.1 hx).1]; exact hx))
  obtain ⟨b1, b2⟩ := hq2 m (fun j x hx => by
    have := hm (p.length + j) x (by rw [List.getElem?_append_right (by omega)]; simpa using hx)
    rwa [hp, ← Nat.add_assoc] at this)
  refine ⟨hs m a1 b1, fun j B hB => ?_⟩
  by_cases hj : j < As.length
  · rw [List.getElem?_append_left hj] at hB; exact a2 j B hB
  · rw [List.getElem?_append_right (by omega)] at hB
    have := b2 _ B hB
    rwa [show n + As.length + (j - As.length) = n + j by omega] at this
theorem Placed.pure {W : World} {n : Nat} {Q : Inj → Prop} (h : ∀ m, Q m) : Placed W n Q [] := ⟨[], rfl, fun m _ => ⟨h m, fun j B hB => by simp at hB⟩⟩
theorem slAt_placed {W : World} {n : Nat} {k : Kd} {v : Value} {x : List k.den × Bool} (h : SlAt W k v x) : Placed W n (fun m => Rv m (slV n k x) v) [.row false k x.1] := by
  obtain ⟨pl, h1, h2⟩ := h
  refine ⟨[pl], rfl, fun m hm => ?_⟩
  have h0 : m n = pl := by simpa using hm 0 pl rfl
  constructor
  · unfold slV Rv at h1 ⊢
    rw [h0]; exact h1
  · intro j B hB
    cases j with
    | succ j => simp at hB
    | zero =>
      simp at hB; subst hB
      refine ⟨?_, rfl⟩
      rcases h2 with h | ⟨h, o, k2, h3⟩ | ⟨b, base, t, c, e, fz, g1, g2, g3, g4, g5⟩
      · cases h
      · exact Or.inr (Or.inl ⟨by rw [Nat.add_zero, h0]; exact h, o, k2, h3⟩)
      · refine Or.inr (Or.inr ⟨b, base, t, c, e, fz, by rw [Nat.add_zero, h0]; exact g1, g2, g3, g4, fun q p hq => ?_⟩)
        obtain ⟨u, hu, hr⟩ := g5 q p hq
        simp only [Blk.cs, scs, List.getElem?_map, Option.map_eq_some_iff] at hq
        obtain ⟨v, _, rfl⟩ := hq
        exact ⟨u, hu, by unfold Rv at hr ⊢; exact hr⟩
theorem cell_placed {W : World} {n : Nat} : ∀ {s : Sp} {x : s.den} {l : List Value}, CellOK W s x l → Placed W n (fun m => Rvs m (cellSp n s x).1 l) (cellSp n s x).2
  | .v s, x, l, h => by
    unfold CellOK at h; subst h
    exact Placed.pure fun m => Rvs_scs _
  | .ro k, x, l, h => by
    unfold CellOK at h
    obtain ⟨v, rfl, hs⟩ := h
    obtain ⟨p, hp, hq⟩ := slAt_placed (n := n) hs
    exact ⟨p, hp, fun m hm => ⟨Rvs.one (hq m hm).1, (hq m hm).2⟩⟩
  | .ar k c, x, l, h => by
    unfold CellOK at h
    obtain ⟨rfl, _⟩ := h
    exact Placed.pure fun m => Rvs_scs _
  | .ow _, x, l, h => by unfold CellOK at h; exact h.elim
  | .io _, x, l, h => by unfold CellOK at h; exact h.elim
  | .con _, x, l, h => by unfold CellOK at h; exact h.elim
  | .bx _, x, l, h => by unfold CellOK at h; exact h.elim
  | .ba _, x, l, h => by unfold CellOK at h; exact h.elim
  | .ia _, x, l, h => by unfold CellOK at h; exact h.elim
theorem cells_placed {W : World} : ∀ {cs : List Sp} {n : Nat} {x : denS cs} {l : List Value}, CellsOK W cs x l → Placed W n (fun m => Rvs m (showC n cs x).1 l) (showC n cs x).2
  | [], n, x, l, h => by unfold CellsOK at h; subst h; exact Placed.pure fun m => Rvs.nil
  | s :: r, n, x, l, h => by
    unfold CellsOK at h
    obtain ⟨a, b, rfl, h1, h2⟩ := h
    exact (cell_placed (n := n) h1).app (cells_placed h2) fun m => Rvs.append
theorem arg_placed {W : World} {n : Nat} : ∀ {s : Shp} {x : s.den} {v : Value}, ArgOK W s x v → Placed W n (fun m => Rv m (showShp n s x).1 v) (showShp n s x).2
  | .s (.v s), x, v, h => by unfold ArgOK at h; subst h; exact Placed.pure fun m => s.rv m x
  | .s (.ro k), x, v, h => by unfold ArgOK at h; exact slAt_placed h
  | .s (.ar k c), x, v, h => by
    unfold ArgOK at h
    obtain ⟨rfl, hl⟩ := h
    exact Placed.pure fun m => by show Rv m (.arr k c x) _; unfold Rv; exact ⟨hl, rfl⟩
  | .ag cs, x, v, h => by
    unfold ArgOK at h
    obtain ⟨l, rfl, h⟩ := h
    obtain ⟨p, hp, hq⟩ := cells_placed (n := n) h
    exact ⟨p, hp, fun m hm => ⟨by show Rv m (.agg (showC n cs x).1) _; unfold Rv; exact ⟨l, rfl, (hq m hm).1⟩, (hq m hm).2⟩⟩
  | .s (.ow _), x, l, h => by unfold ArgOK at h; exact h.elim
  | .s (.io _), x, l, h => by unfold ArgOK at h; exact h.elim
  | .s (.con _), x, l, h => by unfold ArgOK at h; exact h.elim
  | .s (.bx _), x, l, h => by unfold ArgOK at h; exact h.elim
  | .s (.ba _), x, l, h => by unfold ArgOK at h; exact h.elim
  | .s (.ia _), x, l, h => by unfold ArgOK at h; exact h.elim
  | .fn _ _, x, l, h => by unfold ArgOK at h; exact h.elim
  | .ob _, x, l, h => by unfold ArgOK at h; exact h.elim
  | .un, x, l, h => by unfold ArgOK at h; exact h.elim
  | .ss _, x, l, h => by unfold ArgOK at h; exact h.elim
  | .om _ _ _ _, x, l, h => by unfold ArgOK at h; exact h.elim
theorem args_placed {W : World} : ∀ {ks : List Shp} {n : Nat} {x : denA ks} {l : List Value}, ArgsOK W ks x l → Placed W n (fun m => Rvs m (showA n ks x).1 l) (showA n ks x).2
  | [], n, x, l, h => by unfold ArgsOK at h; subst h; exact Placed.pure fun m => Rvs.nil
  | s :: r, n, x, l, h => by
    unfold ArgsOK at h
    obtain ⟨v, t, rfl, h1, h2⟩ := h
    exact (arg_placed (n := n) h1).app (args_placed h2) fun m => Rvs.cons

/-- A law on what came in. -/
theorem law_belowV {P : Program} {f : Nat} {ks : List Shp} {d : denA ks} {vs : List Value} {H' : List Blk} {W : World} (h : CallOK P f (showA 0 ks d).1 (showA 0 ks d).2 (.sc (.bool true)) H') (ha : ArgsOK W ks d vs) (hgw : GW W) :
    Calls P f vs.toArray W fun e w' => e = .returned (.bool true) ∧ RowKit.Below W.heap.size W w' := by
  obtain ⟨pls, hl, hp⟩ := args_placed (n := 0) ha
  obtain ⟨h1, h2⟩ := hp (fun i => match pls[i]? with
    | some p => p
    | none => none) (fun j p hj => by rw [Nat.zero_add]; simp only [hj])
  have hown : ∀ {i B}, getB (showA 0 ks d).2 i = some B → B.own = false := fun {i B} hB => (h2 i B (by rw [← getB_eq]; exact hB)).2
  refine (h _ W vs (fun i hi => by rw [List.getElem?_eq_none (by omega)]) (fun i B hB => ?_) ⟨fun i j Bi Bj _ hi _ _ _ ho => (by rw [hown hi] at ho; cases ho), hgw, fun i B b base t hi ho => (by rw [hown hi] at ho; cases ho)⟩ h1).mono ?_
  · have := (h2 i B (by rw [← getB_eq]; exact hB)).1
    rwa [Nat.zero_add] at this
  · rintro e w' ⟨v, m', rfl, hp⟩
    have hv := hp.val
    unfold Rv at hv
    subst hv
    have hf := hp.frame
    exact ⟨rfl, hf.os, hf.tape, hf.output, hf.size, fun k hk => hf.block k hk (by rintro ⟨i, B, _, _, hB, ho, _⟩; rw [hown hB] at ho; cases ho)⟩

/-! ### Reading -/
def szSp : Sp → Nat
  | .v s => s.kd.sz
  | .ar k n => n * k.sz
  | _ => 1
section
variable {H : Type} {enc : TypeId × Value → H} {P : Program} {W : World}
/-- A slice's block is there. -/
def HasSl (W : World) (v : Value) : Prop := ∀ a len cap, v = .slice (some a) len cap → a.spot = none ∧ ∃ c el fz, W.heap[a.block]? = some (.cells c el fz) ∧ a.off ≤ c.size
theorem rowAt_le {p : Program} {fits : TypeId → Bool} {d : Nat} {e : TypeId} {count off n : Nat} (h : rowAt p fits d e count off n = true) : off ≤ count * p.cellsOf e := by
  cases d with
  | zero => simp [rowAt] at h
  | succ d =>
    unfold rowAt at h
    simp only [] at h
    split at h
    · cases h
    · rename_i hs
      have hd := Nat.div_add_mod off (p.cellsOf e)
      have hm := Nat.mod_lt off (Nat.pos_of_ne_zero hs)
      simp only [Bool.or_eq_true, Bool.and_eq_true, beq_iff_eq, decide_eq_true_eq] at h
      have hc : off / p.cellsOf e < count ∨ (off % p.cellsOf e = 0 ∧ off / p.cellsOf e ≤ count) := by
        rcases h with ⟨⟨h1, h2⟩, _⟩ | ⟨h1, _⟩
        · right; exact ⟨h1, by omega⟩
        · left; exact h1
      rcases hc with h1 | ⟨h1, h2⟩
      · have := Nat.mul_le_mul_right (p.cellsOf e) (Nat.succ_le_of_lt h1)
        rw [Nat.succ_mul, Nat.mul_comm (off / p.cellsOf e)] at this
        omega
      · have := Nat.mul_le_mul_right (p.cellsOf e) h2
        rw [Nat.mul_comm (off / p.cellsOf e)] at this
        omega
theorem liesAt_le {p : Program} {e : TypeId} {count off : Nat} : ∀ {d : Nat} {u : TypeId} {n : Nat}, liesAt p d e count off u n = true → off ≤ count * p.cellsOf e
  | 0, u, n, h => by simp [liesAt] at h
  | d + 1, u, n, h => by
    unfold liesAt at h
    rw [Bool.or_eq_true] at h
    rcases h with h | h
    · exact rowAt_le h
    · split at h
      · exact liesAt_le h
      · cases h
theorem has_of_okWide {r : Reach} {base : Nat} {u : TypeId} {v : Value} (h : Cell.okWide P W r base u v) : HasSl W v := by
  rintro a len cap rfl
  have h2 : Cell.ok P W r base u (.slice (some a) len cap) := by
    unfold Cell.okWide at h
    split at h <;> first | exact h | simp_all
  unfold Cell.ok at h2
  split at h2 <;> try (simp_all; done)
  rename_i e a' len' cap' hu hv
  simp only [Value.slice.injEq, Option.some.injEq] at hv
  obtain ⟨rfl, rfl, rfl⟩ := hv
  obtain ⟨_, _, _, hsp, row, cells, hshape, hl⟩ := h2
  refine ⟨hsp, ?_⟩
  unfold World.shape? at hshape
  split at hshape
  · rename_i c el fz hh
    simp only [Option.some.injEq, Prod.mk.injEq] at hshape
    obtain ⟨rfl, rfl⟩ := hshape
    refine ⟨c, el, fz, hh, ?_⟩
    have h3 := liesAt_le hl
    have h4 := Nat.div_mul_le_self c.size (P.cellsOf el)
    omega
  · cases hshape

/-- Whatever reads as type t is so as the shape says. -/
def OpensC (enc : TypeId × Value → H) (P : Program) (W : World) (t : TypeId) (s : Sp) (G : s.den → Prop) : Prop :=
  P.cellsOf t = szSp s ∧ ∀ fuel cs x, DataW.trod enc P W 0 (fun _ => true) true fuel t cs = some x → (∀ v ∈ cs, HasSl W v) → (∀ n ∈ x.1.weights P t, n ≤ reachBytes) → ∃ y, CellOK W s y cs ∧ G y
theorem opensC_v {t : TypeId} {st : Bool} {k : Kd} {G : k.den → Prop} (h : Opens enc P W t k G) : OpensC enc P W t (.v ⟨st, k⟩) G :=
  ⟨h.1, fun fuel cs x hx _ hw => by
    obtain ⟨y, h1, h2⟩ := h.2 fuel cs x hx hw
    exact ⟨y, h1, h2⟩⟩
theorem weights_all {e : TypeId} : ∀ {xs : List (DataW H)} {x : DataW H}, x ∈ xs → ∀ n ∈ x.weights P e, n ∈ DataW.weightsAll P e xs
  | y :: ys, x, h, n, hn => by
    simp only [DataW.weightsAll, List.mem_append]
    rcases List.mem_cons.1 h with rfl | h
    · exact Or.inl hn
    · exact Or.inr (weights_all h n hn)
def gSlice {k : Kd} (B : Nat) (G : k.den → Prop) : List k.den × Bool → Prop := fun x => x.1.length * B ≤ 140737488351232 ∧ (∀ y ∈ x.1, G y) ∧ (x.2 = true → x.1 = [])
theorem collect {α : Type} {Q : Nat → α → Prop} {G : α → Prop} {len : Nat} (each : ∀ i, i < len → ∃ y, Q i y ∧ G y) : ∃ xs : List α, xs.length = len ∧ (∀ x ∈ xs, G x) ∧ ∀ (j : Nat) (p : α), xs[j]? = some p → Q j p := by
  have all : ∀ m, m ≤ len → ∃ xs : List α, xs.length = m ∧ (∀ x ∈ xs, G x) ∧ ∀ (j : Nat) (p : α), xs[j]? = some p → Q j p := by
    intro m
    induction m with
    | zero => exact fun _ => ⟨[], rfl, fun x hx => by simp at hx, fun j p hj => by simp at hj⟩
    | succ m ih =>
      intro hm
      obtain ⟨xs, h1, h2, h3⟩ := ih (by omega)
      obtain ⟨y, hq, hg⟩ := each m (by omega)
      refine ⟨xs ++ [y], by simp [h1], ?_, ?_⟩
      · intro x hx
        rcases List.mem_append.1 hx with hx | hx
        · exact h2 x hx
        · rw [List.mem_singleton.1 hx]; exact hg
      · intro j p hj
        rcases Nat.lt_or_ge j xs.length with hlt | hge
        · rw [List.getElem?_append_left hlt] at hj
          exact h3 j p hj
        · rw [List.getElem?_append_right hge] at hj
          have hj0 : j - xs.length = 0 := by
            rcases Nat.eq_zero_or_pos (j - xs.length) with h0 | h0
            · exact h0
            · rw [List.getElem?_eq_none (by simp; omega)] at hj; simp at hj
          rw [hj0] at hj
          simp only [List.getElem?_cons_zero, Option.some.injEq] at hj
          subst hj
          have : j = m := by omega
          subst this
          exact hq
  exact all len (Nat.le_refl _)
theorem addr_plain (b o q : Nat) : (⟨b, o, none⟩ : Addr).add q = ⟨b, o + q, none⟩ := by unfold Addr.add; split <;> simp_all
theorem cell_in {b o : Nat} {v : Value} (h : W.cell? ⟨b, o, none⟩ = some v) {c : Array Value} {el : TypeId} {fz : Nat × Nat} (hh : W.heap[b]? = some (.cells c el fz)) : c[o]? = some v := by
  simpa [World.cell?, hh] using h
theorem opensC_ro {t e : TypeId} {k : Kd} {G : k.den → Prop} (hu : P.underlying t = some (.slice e)) (hc : P.cellsOf t = 1) {B : Nat} (hB : P.bytesOf e = B) (h : Opens enc P W e k G) : OpensC enc P W t (.ro k) (gSlice B G) := by
  refine ⟨hc, fun fuel cs x hx hhas hw => ?_⟩
  rcases DataW.trod_slice hu hx with ⟨rfl, rfl⟩ | ⟨a, len, cap, elems, rest, n, _, rfl, hxe, _, hlc, hcm, hl, hel, hsp, _⟩
  · exact ⟨([], true), ⟨_, rfl, none, by unfold slV Rv; exact Or.inl ⟨rfl, rfl, none, rfl, rfl⟩, Or.inr (Or.inl ⟨rfl, false, k, rfl⟩)⟩, by simp, fun x hx => by simp at hx, fun _ => rfl⟩
  · obtain ⟨hspot, c, el, fz, hh, hoff⟩ := hhas _ (List.mem_singleton.2 rfl) a len cap rfl
    obtain ⟨ab, ao, asp⟩ := a
    simp only at hspot hh hoff
    subst hspot
    have hwt : ∀ (i : Nat) (z : DataW H × List MemPlace), elems[i]? = some z → ∀ m ∈ z.1.weights P e, m ≤ reachBytes := fun i z hi m hm => hw m (by
      rw [hxe]
      simp only [DataW.weights, hu, List.mem_cons, List.mem_append]
      exact Or.inr (Or.inl (weights_all (List.mem_map.2 ⟨_, List.mem_of_getElem? hi, rfl⟩) m hm)))
    obtain ⟨xs, h1, h2, h3⟩ := collect (α := k.den) (Q := fun i y => W.cells? 0 ((⟨ab, ao, none⟩ : Addr).add (i * P.cellsOf e)) (P.cellsOf e) = some (k.vals y)) (G := G) (len := len) (fun i hi => by
      have hi' : i < elems.length := by omega
      have g1 := hel i hi
      rw [List.getElem?_eq_getElem hi'] at g1
      obtain ⟨c, hcs, ht⟩ := Option.bind_eq_some_iff.1 g1
      obtain ⟨y, hy, hg⟩ := h.2 _ _ _ ht (hwt i _ (List.getElem?_eq_getElem hi'))
      exact ⟨y, by rw [hcs, hy], hg⟩)
    have hplain : ∀ q, (⟨ab, ao, none⟩ : Addr).add q = ⟨ab, ao + q, none⟩ := addr_plain ab ao
    have hsz := k.sz_pos
    have hcell : ∀ (q : Nat) (u : Value), (xs.flatMap k.vals)[q]? = some u → c[ao + q]? = some u := by
      intro q u hq
      have e1 : q = q / k.sz * k.sz + q % k.sz := by have := Nat.div_add_mod q k.sz; rw [Nat.mul_comm] at this; exact this.symm
      rw [e1, Kd.get_flat k xs _ _ (Nat.mod_lt _ hsz)] at hq
      obtain ⟨y, hy, hv⟩ := Option.bind_eq_some_iff.1 hq
      obtain ⟨_, hlen, hcl⟩ := World.cells?_some (h3 _ y hy)
      have h4 := hcl (q % k.sz) (by rw [h.1]; exact Nat.mod_lt _ hsz)
      rw [hplain, h.1] at h4
      have hp2 := addr_plain ab (ao + q / k.sz * k.sz) (q % k.sz)
      rw [hp2, hv] at h4
      have := cell_in h4 hh
      rwa [Nat.add_assoc, ← e1] at this
    have hreach : xs.length * B ≤ 140737488351232 := by
      have := hw ((elems.length + rest.length) * P.bytesOf e) (by rw [hxe]; simp [DataW.weights, hu])
      rw [hB] at this
      have h5 : xs.length * B ≤ (elems.length + rest.length) * B := Nat.mul_le_mul_right _ (by omega)
      unfold reachBytes at this
      omega
    have hfit : ao + cap * k.sz ≤ c.size := by
      obtain ⟨hr, hrest⟩ := hsp rfl
      rcases Nat.eq_zero_or_pos cap with h0 | h0
      · subst h0; omega
      have hex : ∃ cc, W.cells? 0 ((⟨ab, ao, none⟩ : Addr).add ((cap - 1) * P.cellsOf e)) (P.cellsOf e) = some cc := by
        rcases Nat.lt_or_ge len cap with hlt | hge
        · have g1 := hrest (cap - len - 1) (by omega)
          rw [List.getElem?_eq_getElem (by omega)] at g1
          obtain ⟨cc, hcc, _⟩ := Option.bind_eq_some_iff.1 g1
          exact ⟨cc, by rw [show cap - 1 = len + (cap - len - 1) by omega]; exact hcc⟩
        · have g1 := hel (cap - 1) (by omega)
          rw [List.getElem?_eq_getElem (by omega)] at g1
          obtain ⟨cc, hcc, _⟩ := Option.bind_eq_some_iff.1 g1
          exact ⟨cc, hcc⟩
      obtain ⟨cc, hcc⟩ := hex
      obtain ⟨_, hlen, hcl⟩ := World.cells?_some hcc
      have h4 := hcl (k.sz - 1) (by rw [h.1]; omega)
      rw [hplain, h.1] at h4
      have hp2 := addr_plain ab (ao + (cap - 1) * k.sz) (k.sz - 1)
      rw [hp2] at h4
      have hlt : ao + (cap - 1) * k.sz + (k.sz - 1) < c.size := by
        rcases Nat.lt_or_ge (ao + (cap - 1) * k.sz + (k.sz - 1)) c.size with h | hge
        · exact h
        · exfalso
          rw [World.cell?] at h4
          simp only [hh] at h4
          rw [if_neg (by simp), Array.getElem?_eq_none hge] at h4
          have hcl2 : k.sz - 1 < cc.length := by rw [h.1] at hlen; omega
          rw [List.getElem?_eq_getElem hcl2] at h4; cases h4
      have : cap * k.sz = (cap - 1) * k.sz + k.sz := by rw [← Nat.succ_mul]; congr 1; omega
      omega
    refine ⟨(xs, false), ⟨_, rfl, some (ab, ao, c.size), ?_, ?_⟩, hreach, h2, fun h => by cases h⟩
    · unfold slV Rv
      refine Or.inr ⟨rfl, ab, ao, c.size, cap, ao, rfl, by rw [h1], Nat.le_refl _, (show xs.length ≤ cap ∧ cap ≤ 9223372036854775807 from ⟨by omega, by unfold maxLen at hcm; omega⟩), fun h => (nomatch h), fun _ => by simp, hfit⟩
    · refine Or.inr (Or.inr ⟨ab, ao, c.size, c, el, fz, rfl, hh, rfl, fun h => by simp [Blk.own] at h, fun q p hq => ?_⟩)
      simp only [Blk.cs, scs, List.getElem?_map, Option.map_eq_some_iff] at hq
      obtain ⟨v, hv, rfl⟩ := hq
      exact ⟨v, hcell q v hv, Rv_sc.2 rfl⟩
theorem opensC_ar {t e : TypeId} {k : Kd} {n : Nat} {G : k.den → Prop} (hu : P.underlying t = some (.array n e)) (hc : P.cellsOf t = n * k.sz) (h : Opens enc P W e k G) : OpensC enc P W t (.ar k n) (fun x => ∀ y ∈ x, G y) := by
  refine ⟨hc, fun fuel cs x hx _ hw => ?_⟩
  obtain ⟨zs, m, _, hxe, hl, hlen, hel⟩ := DataW.trod_array hu hx
  obtain ⟨xs, h1, h2, h3⟩ := collect (α := k.den) (Q := fun i y => (cs.drop (i * P.cellsOf e)).take (P.cellsOf e) = k.vals y) (G := G) (len := n) (fun i hi => by
    have hi' : i < zs.length := by omega
    have g1 := hel i hi
    rw [List.getElem?_eq_getElem hi'] at g1
    exact h.2 _ _ _ g1 (fun q hq => hw q (by
      rw [hxe]
      simp only [DataW.weights, hu]
      exact weights_all (List.mem_map.2 ⟨_, List.getElem_mem hi', rfl⟩) q hq)))
  refine ⟨xs, ⟨?_, h1⟩, h2⟩
  apply List.ext_getElem?
  intro q
  have hsz := k.sz_pos
  have e1 : q = q / k.sz * k.sz + q % k.sz := by have := Nat.div_add_mod q k.sz; rw [Nat.mul_comm] at this; exact this.symm
  rw [e1, Kd.get_flat k xs _ _ (Nat.mod_lt _ hsz)]
  rcases Nat.lt_or_ge (q / k.sz) n with hlt | hge
  · obtain ⟨y, hy⟩ : ∃ y, xs[q / k.sz]? = some y := ⟨xs[q / k.sz]'(by omega), List.getElem?_eq_getElem _⟩
    rw [hy]
    have := h3 _ y hy
    simp only [Option.bind_some]
    rw [← this, h.1, List.getElem?_take, if_pos (Nat.mod_lt _ hsz), List.getElem?_drop]
  · rw [List.getElem?_eq_none (show xs.length ≤ q / k.sz by omega)]
    simp only [Option.bind_none]
    apply List.getElem?_eq_none
    rw [hl, hc]
    have := Nat.mul_le_mul_right k.sz hge
    omega
/-- An array of arrays, told in a row. -/
theorem opensC_aa {t e : TypeId} {k : Kd} {n l c : Nat} {G : k.den → Prop} (hu : P.underlying t = some (.array n e)) (hn : c = n * l) (hc : P.cellsOf t = c * k.sz) (h : OpensC enc P W e (.ar k l) (fun x => ∀ y ∈ x, G y)) : OpensC enc P W t (.ar k c) (fun x => ∀ y ∈ x, G y) := by
  refine ⟨hc, fun fuel cs x hx hhas hw => ?_⟩
  obtain ⟨zs, m, _, hxe, hl, hlen, hel⟩ := DataW.trod_array hu hx
  obtain ⟨xs, h1, h2, h3⟩ := collect (α := List k.den) (Q := fun i y => (cs.drop (i * P.cellsOf e)).take (P.cellsOf e) = y.flatMap k.vals ∧ y.length = l) (G := fun x => ∀ y ∈ x, G y) (len := n) (fun i hi => by
    have hi' : i < zs.length := by omega
    have g1 := hel i hi
    rw [List.getElem?_eq_getElem hi'] at g1
    exact h.2 _ _ _ g1 (fun v hv => hhas v (List.mem_of_mem_drop (List.mem_of_mem_take hv))) (fun q hq => hw q (by
      rw [hxe]
      simp only [DataW.weights, hu]
      exact weights_all (List.mem_map.2 ⟨_, List.getElem_mem hi', rfl⟩) q hq)))
  have hce : P.cellsOf e = l * k.sz := h.1
  have hfl : ∀ (ys : List (List k.den)) (j : Nat), (∀ (i : Nat) y, ys[i]? = some y → (cs.drop ((j + i) * (l * k.sz))).take (l * k.sz) = y.flatMap k.vals) → (cs.drop (j * (l * k.sz))).take (ys.length * (l * k.sz)) = (ys.flatten).flatMap k.vals := by
    intro ys
    induction ys with
    | nil => intro j _; simp
    | cons y ys ih =>
      intro j hy
      have e1 := hy 0 y rfl
      have e2 := ih (j + 1) (fun i z hz => by
        have := hy (i + 1) z (by simpa using hz)
        rwa [show j + (i + 1) = j + 1 + i by omega] at this)
      rw [List.length_cons, Nat.succ_mul, Nat.add_comm, List.take_add, List.drop_drop, List.flatten_cons, List.flatMap_append]
      rw [Nat.add_zero] at e1
      rw [e1, ← e2, show j * (l * k.sz) + l * k.sz = (j + 1) * (l * k.sz) by rw [Nat.succ_mul]]
  refine ⟨xs.flatten, ⟨?_, ?_⟩, fun y hy => ?_⟩
  · have := hfl xs 0 (fun i y hy => by rw [Nat.zero_add, ← hce]; exact (h3 i y hy).1)
    rw [Nat.zero_mul, List.drop_zero, h1] at this
    rw [← this, List.take_of_length_le]
    rw [hl, hc, hn, Nat.mul_assoc]; exact Nat.le_refl _
  · rw [hn, ← h1]
    have : ∀ ys : List (List k.den), (∀ y ∈ ys, y.length = l) → ys.flatten.length = ys.length * l := by
      intro ys
      induction ys with
      | nil => intro _; simp
      | cons y ys ih =>
        intro hy
        rw [List.flatten_cons, List.length_append, ih (fun z hz => hy z (List.mem_cons_of_mem _ hz)), hy y List.mem_cons_self, List.length_cons, Nat.succ_mul, Nat.add_comm]
    refine this xs (fun y hy => ?_)
    obtain ⟨i, hi⟩ := List.mem_iff_getElem?.1 hy
    exact (h3 i y hi).2
  · obtain ⟨z, hz, hyz⟩ := List.mem_flatten.1 hy
    exact h2 z hz y hyz

/-- An argument, out of the row's own facts. -/
theorem opensC_arg {t : TypeId} {s : Sp} {G : s.den → Prop} {v : Value} {x : DataW H} {p : List MemPlace} {ts : List TypeId} {ds : List (DataW H)} {j : Nat} (h : OpensC enc P W t s G) (hh : ∀ u ∈ v.cells.toList, HasSl W u)
    (hsz : (DataW.weightsEach P ts ds).all (· ≤ reachBytes) = true) (ht : ts[j]? = some t) (hd : ds[j]? = some x) (hv : DataW.Trod enc P W 0 (fun _ => true) true t v x p) : ∃ y, CellOK W s y v.cells.toList ∧ G y := by
  obtain ⟨fuel, hf⟩ := hv
  exact h.2 fuel _ _ hf hh (fun n hn => by simpa using List.all_eq_true.1 hsz _ (DataW.weights_mem_each ht hd n hn))
theorem has_slice {t e : TypeId} {r : Reach} {base : Nat} {v : Value} (hu : P.underlying t = some (.slice e)) (h : Value.okWide P W r base t v) : ∀ u ∈ v.cells.toList, HasSl W u := by
  obtain ⟨a, len, cap, rfl⟩ := WideShapes.okWide_slice hu h
  intro u hm
  simp only [Value.cells, List.mem_singleton] at hm
  subst hm
  unfold Value.okWide at h
  rw [hu] at h
  exact has_of_okWide h
theorem has_row {t : TypeId} {r : Reach} {base : Nat} {cs : Array Value} (h : Row.okWide P W r base t cs) : ∀ u ∈ cs.toList, HasSl W u := by
  intro u hm
  obtain ⟨_, _, _, h3⟩ := h
  obtain ⟨i, hi⟩ := List.mem_iff_getElem?.1 hm
  obtain ⟨_, _, h4⟩ := h3 i u (by rw [← Array.getElem?_toList]; exact hi)
  exact has_of_okWide h4
end
end Go.Proofs.YtokephobkllfgaaDoorEv
