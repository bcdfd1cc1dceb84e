/- What is laid here: an argument that is a slice of slices, opened out of what can be read: each slice in it stands as data, wherever it lies; and a law on what stands in any blocks. No condition. -/
import Derived.Test.YtokephobkllfgaaDoorEvZe
namespace Go.Proofs.YtokephobkllfgaaDoorEv
open Go Go.RowKit

theorem law_belowP {P : Program} {f : Nat} {ps : List PV} {H : List Blk} {vs : List Value} {H' : List Blk} {W : World} (h : CallOK P f ps H (.sc (.bool true)) H') (ha : Placed W 0 (fun m => Rvs m ps vs) H) (hgw : GW W) :
    Calls P f vs.toArray W fun e w' => e = .returned (.bool true) ∧ RowKit.Below W.heap.size W w' := by
  obtain ⟨pls, hl, hp⟩ := ha
  obtain ⟨h1, h2⟩ := hp (fun i => match pls[i]? with
    | some p => p
    | none => none) (fun j p hj => by rw [Nat.zero_add]; simp only [hj])
  have hown : ∀ {i B}, getB H i = some B → B.own = false := fun {i B} hB => (h2 i B (by rw [← getB_eq]; exact hB)).2
  refine (h _ W vs (fun i hi => by rw [List.getElem?_eq_none (by omega)]) (fun i B hB => ?_) ⟨fun i j Bi Bj _ hi _ _ _ ho => (by rw [hown hi] at ho; cases ho), hgw, fun i B b base t hi ho => (by rw [hown hi] at ho; cases ho)⟩ h1).mono ?_
  · have := (h2 i B (by rw [← getB_eq]; exact hB)).1
    rwa [Nat.zero_add] at this
  · rintro e w' ⟨v, m', rfl, hp⟩
    have hv := hp.val
    unfold Rv at hv
    subst hv
    have hf := hp.frame
    exact ⟨rfl, hf.os, hf.tape, hf.output, hf.size, fun k hk => hf.block k hk (by rintro ⟨i, B, _, _, hB, ho, _⟩; rw [hown hB] at ho; cases ho)⟩
theorem ss_placed {W : World} {n : Nat} {cs : List Sp} {x : denS cs} {l : List Value} {ab ao cap : Nat} {c : Array Value} {el : TypeId} {fz : Nat × Nat} (hh : W.heap[ab]? = some (.cells c el fz)) (hc : CellsOK W cs x l) (hcap : cs.length ≤ cap ∧ cap ≤ 9223372036854775807) (hfit : ao + cap ≤ c.size)
    (hcell : ∀ (q : Nat) u, l[q]? = some u → c[ao + q]? = some u) :
    Placed W n (fun m => Rv m (.sl n 0 1 cs.length cs.length false false) (.slice (some ⟨ab, ao, none⟩) cs.length cap)) (.fix false (showC (n + 1) cs x).1 :: (showC (n + 1) cs x).2) := by
  obtain ⟨p, hp, hq⟩ := cells_placed (n := n + 1) hc
  refine ⟨some (ab, ao, c.size) :: p, by simp [hp], fun m hm => ?_⟩
  have h0 : m n = some (ab, ao, c.size) := by simpa using hm 0 _ rfl
  obtain ⟨a1, a2⟩ := hq m (fun j x hx => by
    have := hm (j + 1) x (by simpa using hx)
    rwa [show n + (j + 1) = n + 1 + j by omega] at this)
  constructor
  · unfold Rv
    exact Or.inr ⟨rfl, ab, ao, c.size, cap, ao, h0, rfl, Nat.le_refl _, hcap, fun h => (nomatch h), fun _ => by simp, by omega⟩
  · intro j B hB
    cases j with
    | zero =>
      simp at hB; subst hB
      refine ⟨Or.inr (Or.inr ⟨ab, ao, c.size, c, el, fz, by rw [Nat.add_zero]; exact h0, hh, rfl, fun h => by simp [Blk.own] at h, fun q p hq => ?_⟩), rfl⟩
      obtain ⟨u, hu, hr⟩ := a1.get hq
      exact ⟨u, hcell q u hu, hr⟩
    | succ j =>
      have := a2 j B (by simpa using hB)
      rwa [show n + 1 + j = n + (j + 1) by omega] at this
/-- A slice of which nothing is read but its length. -/
theorem len_placed {W : World} {k : Kd} {ab ao len cap : Nat} {c : Array Value} {el : TypeId} {fz : Nat × Nat} (hh : W.heap[ab]? = some (.cells c el fz)) (hcap : len ≤ cap ∧ cap ≤ 9223372036854775807) (hfit : ao + cap ≤ c.size) :
    Placed W 0 (fun m => Rv m (.sl 0 0 1 len len false false) (.slice (some ⟨ab, ao, none⟩) len cap)) [.row false k []] := by
  refine ⟨[some (ab, ao, c.size)], rfl, fun m hm => ?_⟩
  have h0 : m 0 = some (ab, ao, c.size) := by simpa using hm 0 _ rfl
  constructor
  · unfold Rv
    exact Or.inr ⟨rfl, ab, ao, c.size, cap, ao, h0, rfl, Nat.le_refl _, hcap, fun h => (nomatch h), fun _ => by simp, by omega⟩
  · intro j B hB
    cases j with
    | zero =>
      simp at hB; subst hB
      exact ⟨Or.inr (Or.inr ⟨ab, ao, c.size, c, el, fz, h0, hh, rfl, fun h => by simp [Blk.own] at h, fun q p hq => by simp [Blk.cs, scs] at hq⟩), rfl⟩
    | succ j => simp at hB
theorem none_placed {W : World} {k : Kd} (a : Option Addr) : Placed W 0 (fun m => Rv m (.sl 0 0 1 0 0 false a.isNone) (.slice a 0 0)) [.row false k []] := by
  refine ⟨[none], rfl, fun m hm => ?_⟩
  have h0 : m 0 = none := by simpa using hm 0 _ rfl
  constructor
  · unfold Rv
    exact Or.inl ⟨rfl, rfl, a, rfl, rfl⟩
  · intro j B hB
    cases j with
    | zero =>
      simp at hB; subst hB
      exact ⟨Or.inr (Or.inl ⟨h0, false, k, rfl⟩), rfl⟩
    | succ j => simp at hB

section
variable {H : Type} {enc : TypeId × Value → H} {P : Program} {W : World}
theorem cell_heap {a : Addr} {v : Value} (h : W.cell? a = some v) : a.spot = none ∧ ∃ c el fz, W.heap[a.block]? = some (.cells c el fz) ∧ a.off < c.size := by
  have hs := World.cell?_spot h
  refine ⟨hs, ?_⟩
  unfold World.cell? at h
  split at h
  · rename_i c el fz hh
    rw [hs] at h
    simp only [Option.isSome_none, Bool.false_eq_true, if_false] at h
    exact ⟨c, el, fz, hh, (Array.getElem?_eq_some_iff.1 h).1⟩
  · cases h
/-- A slice that can be read stands as data. -/
theorem slAt_of {t e : TypeId} {k : Kd} {G : k.den → Prop} (hu : P.underlying t = some (.slice e)) (hc : P.cellsOf t = 1) {B : Nat} (hB : P.bytesOf e = B) (h : Opens enc P W e k G) {fuel : Nat} {cs : List Value} {x : DataW H × List MemPlace}
    (hx : DataW.trod enc P W 0 (fun _ => true) true fuel t cs = some x) (hw : ∀ n ∈ x.1.weights P t, n ≤ reachBytes) : ∃ y v, cs = [v] ∧ SlAt W k v y ∧ gSlice B G y := by
  have fin : (∀ v ∈ cs, HasSl W v) → ∃ y v, cs = [v] ∧ SlAt W k v y ∧ gSlice B G y := fun hh => by
    obtain ⟨y, ⟨v, h1, h2⟩, h3⟩ := (opensC_ro hu hc hB h).2 fuel cs x hx hh hw
    exact ⟨y, v, h1, h2, h3⟩
  rcases DataW.trod_slice hu hx with ⟨rfl, rfl⟩ | ⟨a, len, cap, elems, rest, n, _, rfl, hxe, _, hlc, hcm, hl, hel, hsp, _⟩
  · exact fin (fun v hv => by rw [List.mem_singleton.1 hv]; rintro a len cap h; cases h)
  · rcases Nat.eq_zero_or_pos cap with h0 | h0
    · obtain rfl : cap = 0 := h0
      obtain rfl : len = 0 := by omega
      refine ⟨([], false), _, rfl, ⟨none, ?_, Or.inr (Or.inl ⟨rfl, false, k, rfl⟩)⟩, ?_, fun x hx => by simp at hx, fun h => by cases h⟩
      · unfold slV Rv; exact Or.inl ⟨rfl, rfl, some a, rfl, rfl⟩
      · simp
    · have hcell0 : ∃ cc, W.cells? 0 (a.add (0 * P.cellsOf e)) (P.cellsOf e) = some cc := by
        rcases Nat.eq_zero_or_pos len with g | g
        · have g1 := (hsp rfl).2 0 (by omega)
          rw [List.getElem?_eq_getElem (by rw [(hsp rfl).1]; omega)] at g1
          obtain ⟨cc, hcc, _⟩ := Option.bind_eq_some_iff.1 g1
          have g2 : len = 0 := g
          subst g2
          exact ⟨cc, hcc⟩
        · have g1 := hel 0 g
          rw [List.getElem?_eq_getElem (by omega)] at g1
          obtain ⟨cc, hcc, _⟩ := Option.bind_eq_some_iff.1 g1
          exact ⟨cc, hcc⟩
      obtain ⟨cc, hcc⟩ := hcell0
      obtain ⟨_, hlen, hcl⟩ := World.cells?_some hcc
      have h4 := hcl 0 (by rw [h.1]; exact k.sz_pos)
      have hs0 : 0 < cc.length := by rw [hlen, h.1]; exact k.sz_pos
      rw [List.getElem?_eq_getElem hs0, Nat.zero_mul] at h4
      have e0 : (a.add 0).add 0 = a := by unfold Addr.add; simp
      rw [e0] at h4
      obtain ⟨h5, c, el, fz, h6, h7⟩ := cell_heap h4
      exact fin (fun v hv => by
        rw [List.mem_singleton.1 hv]
        rintro a' len' cap' he
        cases he
        exact ⟨h5, c, el, fz, h6, by omega⟩)
/-- A slice of slices. -/
def SlsAt (W : World) (k : Kd) (B : Nat) (G : k.den → Prop) (v : Value) : Prop :=
  (∃ a, v = .slice a 0 0) ∨ ∃ (ab ao cap : Nat) (fs : List (List k.den × Bool)) (l : List Value) (c : Array Value) (el : TypeId) (fz : Nat × Nat), v = .slice (some ⟨ab, ao, none⟩) fs.length cap ∧ (fs.length ≤ cap ∧ cap ≤ 9223372036854775807) ∧ W.heap[ab]? = some (.cells c el fz) ∧ ao + cap ≤ c.size ∧
    (∀ f ∈ fs, gSlice B G f) ∧ l.length = fs.length ∧ (∀ (q : Nat) u, l[q]? = some u → c[ao + q]? = some u) ∧ ∀ (q : Nat) f u, fs[q]? = some f → l[q]? = some u → SlAt W k u f
theorem slsAt_of {t e e2 : TypeId} {k : Kd} {G : k.den → Prop} (hu : P.underlying t = some (.slice e)) (hu2 : P.underlying e = some (.slice e2)) (hc : P.cellsOf e = 1) {B : Nat} (hB : P.bytesOf e2 = B) (h : Opens enc P W e2 k G) {v : Value} {x : DataW H} {p : List MemPlace} {ts : List TypeId} {ds : List (DataW H)} {j : Nat}
    (hsz : (DataW.weightsEach P ts ds).all (· ≤ reachBytes) = true) (ht : ts[j]? = some t) (hd : ds[j]? = some x) (hv : DataW.Trod enc P W 0 (fun _ => true) true t v x p) (hone : v.cells.toList = [v]) : SlsAt W k B G v := by
  obtain ⟨fuel, hx⟩ := hv
  have hw : ∀ n ∈ x.weights P t, n ≤ reachBytes := fun n hn => by simpa using List.all_eq_true.1 hsz _ (DataW.weights_mem_each ht hd n hn)
  rw [hone] at hx
  rcases DataW.trod_slice hu hx with ⟨h1, _⟩ | ⟨a, len, cap, elems, rest, n, _, h1, hxe, _, hlc, hcm, hl, hel, hsp, _⟩
  · rw [(List.cons.inj h1).1]; exact Or.inl ⟨none, rfl⟩
  · obtain rfl := (List.cons.inj h1).1
    rcases Nat.eq_zero_or_pos cap with h0 | h0
    · obtain rfl : cap = 0 := h0
      obtain rfl : len = 0 := by omega
      exact Or.inl ⟨some a, rfl⟩
    right
    have hwt : ∀ (i : Nat) (z : DataW H × List MemPlace), elems[i]? = some z → ∀ m ∈ z.1.weights P e, m ≤ reachBytes := fun i z hi m hm => hw m (by
      have hx1 : x = .slice (elems.map (·.1)) (rest.map (·.1)) := congrArg (·.1) hxe
      rw [hx1]
      simp only [DataW.weights, hu, List.mem_cons, List.mem_append]
      exact Or.inr (Or.inl (weights_all (List.mem_map.2 ⟨_, List.mem_of_getElem? hi, rfl⟩) m hm)))
    obtain ⟨prs, hpl, h2, h3⟩ := collect (α := (List k.den × Bool) × Value) (Q := fun i y => W.cell? (a.add i) = some y.2 ∧ SlAt W k y.2 y.1) (G := fun y => gSlice B G y.1) (len := len) (fun i hi => by
      have hi' : i < elems.length := by omega
      have g1 := hel i hi
      rw [List.getElem?_eq_getElem hi', hc, Nat.mul_one] at g1
      obtain ⟨c, hcs, ht⟩ := Option.bind_eq_some_iff.1 g1
      obtain ⟨y, v, hcv, hs, hg⟩ := slAt_of hu2 hc hB h ht (hwt i _ (List.getElem?_eq_getElem hi'))
      subst hcv
      obtain ⟨_, hlen, hcl⟩ := World.cells?_some hcs
      have h4 := hcl 0 (by omega)
      have e0 : (a.add i).add 0 = a.add i := by unfold Addr.add; simp
      rw [e0] at h4
      exact ⟨(y, v), ⟨h4, hs⟩, hg⟩)
    have hlast : ∃ v, W.cell? (a.add (cap - 1)) = some v := by
      have hex : ∃ cc, W.cells? 0 (a.add ((cap - 1) * P.cellsOf e)) (P.cellsOf e) = some cc := by
        rcases Nat.lt_or_ge len cap with hlt | hge
        · have g1 := (hsp rfl).2 (cap - len - 1) (by omega)
          rw [List.getElem?_eq_getElem (by rw [(hsp rfl).1]; omega)] at g1
          obtain ⟨cc, hcc, _⟩ := Option.bind_eq_some_iff.1 g1
          exact ⟨cc, by rw [show cap - 1 = len + (cap - len - 1) by omega]; exact hcc⟩
        · have g1 := hel (cap - 1) (by omega)
          rw [List.getElem?_eq_getElem (by omega)] at g1
          obtain ⟨cc, hcc, _⟩ := Option.bind_eq_some_iff.1 g1
          exact ⟨cc, hcc⟩
      obtain ⟨cc, hcc⟩ := hex
      rw [hc, Nat.mul_one] at hcc
      obtain ⟨_, hlen, hcl⟩ := World.cells?_some hcc
      have h4 := hcl 0 (by omega)
      have e0 : (a.add (cap - 1)).add 0 = a.add (cap - 1) := by unfold Addr.add; simp
      rw [e0, List.getElem?_eq_getElem (by omega)] at h4
      exact ⟨_, h4⟩
    have hfirst : ∃ v, W.cell? a = some v := by
      have hex : ∃ cc, W.cells? 0 (a.add (0 * P.cellsOf e)) (P.cellsOf e) = some cc := by
        rcases Nat.eq_zero_or_pos len with g | g
        · have g1 := (hsp rfl).2 0 (by omega)
          rw [List.getElem?_eq_getElem (by rw [(hsp rfl).1]; omega)] at g1
          obtain ⟨cc, hcc, _⟩ := Option.bind_eq_some_iff.1 g1
          have g2 : len = 0 := g
          subst g2
          exact ⟨cc, hcc⟩
        · have g1 := hel 0 g
          rw [List.getElem?_eq_getElem (by omega)] at g1
          obtain ⟨cc, hcc, _⟩ := Option.bind_eq_some_iff.1 g1
          exact ⟨cc, hcc⟩
      obtain ⟨cc, hcc⟩ := hex
      rw [hc, Nat.mul_one] at hcc
      obtain ⟨_, hlen, hcl⟩ := World.cells?_some hcc
      have h4 := hcl 0 (by omega)
      have e0 : (a.add 0).add 0 = a := by unfold Addr.add; simp
      rw [e0, List.getElem?_eq_getElem (by omega)] at h4
      exact ⟨_, h4⟩
    obtain ⟨v0, hv0⟩ := hfirst
    obtain ⟨v1, hv1⟩ := hlast
    obtain ⟨ab, ao, asp⟩ := a
    have hspot : asp = none := by
      exact (cell_heap hv0).1
    subst hspot
    rw [addr_plain] at hv1
    obtain ⟨_, c, el, fz, hh, hlt⟩ := cell_heap hv1
    simp only at hh hlt
    refine ⟨ab, ao, cap, prs.map (·.1), prs.map (·.2), c, el, fz, by rw [List.length_map, hpl], by rw [List.length_map, hpl]; exact ⟨hlc, by unfold maxLen at hcm; omega⟩, hh, by omega, fun f hf => ?_, by simp, fun q u hq => ?_, fun q f u hf hq => ?_⟩
    · obtain ⟨y, hy, rfl⟩ := List.mem_map.1 hf
      exact h2 y hy
    · rw [List.getElem?_map, Option.map_eq_some_iff] at hq
      obtain ⟨y, hy, rfl⟩ := hq
      have := (h3 q y hy).1
      rw [addr_plain] at this
      exact cell_in this hh
    · rw [List.getElem?_map, Option.map_eq_some_iff] at hq hf
      obtain ⟨y, hy, rfl⟩ := hq
      obtain ⟨y', hy', rfl⟩ := hf
      rw [hy] at hy'; cases hy'
      exact (h3 q y hy).2
end
end Go.Proofs.YtokephobkllfgaaDoorEv
