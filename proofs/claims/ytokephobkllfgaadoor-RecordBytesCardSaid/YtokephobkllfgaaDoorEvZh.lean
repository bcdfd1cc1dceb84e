/- What is proved here: a struct that came in and has slices or arrays among its fields stands as a shape says, field by field. Conditions: the value reads as data and each slice in it points into the memory (a row's own facts). -/
import Derived.Test.YtokephobkllfgaaDoorEvZd
namespace Go.Proofs.YtokephobkllfgaaDoorEv
open Go Go.RowKit
variable {H : Type} {enc : TypeId × Value → H} {P : Program} {W : World}
def szSs : List Sp → Nat
  | [] => 0
  | s :: r => szSp s + szSs r
def gSs (ss : List Sp) (G : denS ss → Prop) : denS ss → Prop := G
/-- The fields from a place on read as a list of shapes says. -/
def OpensFS (enc : TypeId × Value → H) (P : Program) (W : World) (fs : List Field) (off : Nat) (ss : List Sp) (G : denS ss → Prop) : Prop :=
  ∀ (cs : List Value) (xs : List (DataW H)), off + szSs ss ≤ cs.length → xs.length = fs.length → (∀ v ∈ cs, HasSl W v) →
    (∀ (i : Nat) (f : Field), fs[i]? = some f → ∃ n x, DataW.trod enc P W 0 (fun _ => true) true n f.type ((cs.drop f.offset).take (P.cellsOf f.type)) = some x ∧ xs[i]? = some x.1) →
    (∀ m ∈ DataW.weightsEach P (fs.map (·.type)) xs, m ≤ reachBytes) → ∃ y, CellsOK W ss y ((cs.drop off).take (szSs ss)) ∧ G y
theorem opensFS_nil {off : Nat} : OpensFS enc P W [] off [] (fun _ => True) := by
  intro cs xs hl hx hh hf hw
  refine ⟨(), ?_, trivial⟩
  show (cs.drop off).take 0 = []
  rw [List.take_zero]
theorem opensFS_cons {f : Field} {fs : List Field} {off : Nat} {s : Sp} {ss : List Sp} {Ga : s.den → Prop} {Gb : denS ss → Prop} (ho : f.offset = off) (h : OpensC enc P W f.type s Ga) (r : OpensFS enc P W fs (off + szSp s) ss Gb) :
    OpensFS enc P W (f :: fs) off (s :: ss) (fun y => Ga y.1 ∧ Gb y.2) := by
  intro cs xs hl hx hh hf hw
  have hsz : szSs (s :: ss) = szSp s + szSs ss := rfl
  obtain ⟨n, x, ht, hxi⟩ := hf 0 f rfl
  rw [ho, h.1] at ht
  match xs, hx with
  | x0 :: xs, hx =>
    simp only [List.getElem?_cons_zero, Option.some.injEq] at hxi
    subst hxi
    simp only [List.map_cons, DataW.weightsEach, List.mem_append] at hw
    obtain ⟨y, hy, hg⟩ := h.2 _ _ _ ht (fun v hv => hh v (List.mem_of_mem_drop (List.mem_of_mem_take hv))) (fun m hm => hw m (Or.inl hm))
    obtain ⟨z, hz, hg'⟩ := r cs xs (by omega) (by simpa using hx) hh (fun i g hi => by simpa using hf (i + 1) g (by simpa using hi)) (fun m hm => hw m (Or.inr hm))
    refine ⟨(y, z), ?_, hg, hg'⟩
    rw [hsz, List.take_add, List.drop_drop]
    exact ⟨_, _, rfl, hy, hz⟩
/-- A struct argument, out of the row's own facts. -/
theorem opensS_arg {t : TypeId} {fs : Array Field} {ss : List Sp} {G : denS ss → Prop} {x : DataW H} {p : List MemPlace} {ts : List TypeId} {ds : List (DataW H)} {j : Nat} (hu : P.underlying t = some (.struct fs)) (hc : P.cellsOf t = szSs ss)
    (h : OpensFS enc P W fs.toList 0 ss G) {cs : Array Value} (hh : ∀ u ∈ cs.toList, HasSl W u) (hsz : (DataW.weightsEach P ts ds).all (· ≤ reachBytes) = true) (ht : ts[j]? = some t) (hd : ds[j]? = some x)
    (hv : DataW.Trod enc P W 0 (fun _ => true) true t (.agg cs) x p) : ∃ y, ArgOK W (.ag ss) y (.agg cs) ∧ G y := by
  obtain ⟨fuel, hf⟩ := hv
  have hw : ∀ n ∈ x.weights P t, n ≤ reachBytes := fun n hn => by simpa using List.all_eq_true.1 hsz _ (DataW.weights_mem_each ht hd n hn)
  have hf : DataW.trod enc P W 0 (fun _ => true) true fuel t cs.toList = some (x, p) := hf
  obtain ⟨xs, n, _, hxe, hl, hlen, hff⟩ := DataW.trod_struct hu hf
  have hxe : x = .agg (xs.map (·.1)) := (Prod.mk.inj hxe).1
  subst hxe
  obtain ⟨y, hy, hg⟩ := h cs.toList (xs.map (·.1)) (by omega) (by simpa using hlen) hh (fun i f hi => by
      have hi' : i < xs.length := by
        rcases Nat.lt_or_ge i xs.length with h0 | h0
        · exact h0
        · rw [List.getElem?_eq_none (by simp; omega)] at hi; simp at hi
      have h1 := hff i f (by simpa using hi)
      rw [List.getElem?_eq_getElem hi'] at h1
      exact ⟨n, _, h1, by simp [List.getElem?_eq_getElem hi']⟩)
    (fun m hm => hw m (by simpa [DataW.weights, hu] using hm))
  refine ⟨y, ⟨cs.toList, by simp, ?_⟩, hg⟩
  rw [List.drop_zero, ← hc, ← hl, List.take_length] at hy
  exact hy
/-! ### Functions that the model gives itself -/
/-- An entry by a plain function on one value. -/
def entX (g : Value → Option Value) : TabEnt := fun xs H =>
  match xs with
  | [.sc v] => (match g v with
    | some u => some (true, [(true, (.sc u, H))])
    | none => none)
  | _ => none
theorem entX_ok {f : Nat} {g : Value → Option Value} (h : ∀ v u, g v = some u → ∀ w, (callFunc f #[v]).run P w = .ok (.value u) w) : EntOK P f (entX g) := by
  intro xs H0 alts he r H' hr
  unfold entX at he
  split at he
  · rename_i v
    cases hg : g v with
    | none => rw [hg] at he; cases he
    | some u =>
      rw [hg] at he
      simp only [Option.some.injEq, Prod.mk.injEq, true_and] at he
      subst he
      have hr : some (PV.sc u, H0) = some (r, H') := hr
      obtain ⟨rfl, rfl⟩ := Prod.mk.inj (Option.some.inj hr)
      refine Or.inr fun m w vs htop hrep hdis hvs => ?_
      obtain ⟨x, rfl, hx⟩ := Rvs.of_one hvs
      obtain rfl := Rv_sc.1 hx
      refine ⟨u, m, h _ _ hg w, Rv_sc.2 rfl, fun i _ => rfl, htop, hrep, Nat.le_refl _, fun i B _ hB hd => ⟨B, hB, hd, rfl⟩, fun i b base t B hi hB => ?_, fun i j b base t b2 t2 B B2 hi hj hB => ?_, Fr.refl _ _⟩
      · have := getB_lt hB; omega
      · have := getB_lt hB; omega
  · cases he
end Go.Proofs.YtokephobkllfgaaDoorEv
