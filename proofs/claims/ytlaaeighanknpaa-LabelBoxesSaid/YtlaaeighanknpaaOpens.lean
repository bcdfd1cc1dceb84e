/- What is proved here: a value that came in and can be read as data has the cells of its kind, whatever its type's shape: numbers, bools, strings, slices and structs of these. Conditions: the value reads as data and each string and slice in it is within the form's reach. -/
import Derived.Test.YtlaaeighanknpaaWWords
import Derived.ChangeArms
import Derived.SizedLaws
import Derived.WideShapes
import Derived.DataElems
import Derived.ChangeShapes
namespace Go.Proofs.Ytlaaeighanknpaa.Open
open Go.RowKit Go.Proofs.YtlaaeighanknpaaW.PrintWords

section
variable {H : Type} {enc : TypeId × Value → H} {P : Program} {W : World} {α β : Type}

/-- Whatever reads as type t has the cells of kind d, and what is read is so as G says. -/
def Opens (enc : TypeId × Value → H) (P : Program) (W : World) (t : TypeId) (d : Kd α) (G : α → Prop) : Prop :=
  P.cellsOf t = d.sz ∧ ∀ fuel cs x, DataW.trod enc P W 0 (fun _ => true) true fuel t cs = some x → (∀ n ∈ x.1.weights P t, n ≤ reachBytes) → ∃ y, d.K W y cs ∧ G y

/-- What is told of what was read, by its shape. -/
def both (Ga : α → Prop) (Gb : β → Prop) : α × β → Prop := fun x => Ga x.1 ∧ Gb x.2
def gInt (k : IntKind) : Int → Prop := fun n => (Lit.int k n).wf = true
def gAny (α : Type) : α → Prop := fun _ => True
def gStr : ByteArray → Prop := fun s => s.size ≤ 140737488351232
def gSlice (B : Nat) (G : α → Prop) : List α → Prop := fun xs => xs.length * B ≤ 140737488351232 ∧ ∀ x ∈ xs, G x

theorem opens_int {t : TypeId} {k : IntKind} (hu : P.underlying t = some (.int k)) (hc : P.cellsOf t = 1) : Opens enc P W t (Kd.int k) (gInt k) :=
  ⟨hc, fun fuel cs x h _ => by
    obtain ⟨n, rfl, _, hw⟩ := DataW.trod_int hu h
    exact ⟨n, rfl, hw⟩⟩
theorem opens_bool {t : TypeId} (hu : P.underlying t = some .bool) (hc : P.cellsOf t = 1) : Opens enc P W t Kd.bool (gAny Bool) :=
  ⟨hc, fun fuel cs x h _ => by
    obtain ⟨b, rfl, _⟩ := DataW.trod_bool hu h
    exact ⟨b, rfl, trivial⟩⟩
theorem opens_string {t : TypeId} (hu : P.underlying t = some .string) (hc : P.cellsOf t = 1) : Opens enc P W t Kd.string gStr :=
  ⟨hc, fun fuel cs x h hw => by
    obtain ⟨s, rfl, rfl, _⟩ := DataW.trod_string hu h
    refine ⟨s, rfl, ?_⟩
    have h1 := hw s.data.toList.length (by simp [DataW.weights])
    rw [Array.length_toList] at h1
    exact h1⟩

theorem weights_all {e : TypeId} : ∀ {xs : List (DataW H)} {x : DataW H}, x ∈ xs → ∀ n ∈ x.weights P e, n ∈ DataW.weightsAll P e xs
  | y :: ys, x, h, n, hn => by
    simp only [DataW.weightsAll, List.mem_append]
    rcases List.mem_cons.1 h with rfl | h
    · exact Or.inl hn
    · exact Or.inr (weights_all h n hn)

theorem opens_slice {t e : TypeId} {d : Kd α} {G : α → Prop} (hu : P.underlying t = some (.slice e)) (hc : P.cellsOf t = 1) {B : Nat} (hB : P.bytesOf e = B) (h : Opens enc P W e d G) :
    Opens enc P W t (Kd.slice e d) (gSlice B G) := by
  refine ⟨hc, fun fuel cs x hx hw => ?_⟩
  rcases DataW.trod_slice hu hx with ⟨rfl, rfl⟩ | ⟨a, len, cap, elems, rest, n, _, rfl, rfl, _, hlc, hcm, hl, hel, _, _⟩
  · exact ⟨[], ⟨none, 0, rfl, Nat.le_refl _, rfl, by simp, fun hn => absurd hn (by simp)⟩, by simp, fun x hx => by simp at hx⟩
  · have each : ∀ i, i < len → ∃ c y, W.cells? 0 (a.add (i * P.cellsOf e)) (P.cellsOf e) = some c ∧ d.K W y c ∧ G y := by
      intro i hi
      have hi' : i < elems.length := by omega
      have h1 := hel i hi
      rw [List.getElem?_eq_getElem hi'] at h1
      obtain ⟨c, hcs, ht⟩ := Option.bind_eq_some_iff.1 h1
      obtain ⟨y, hy, hg⟩ := h.2 _ _ _ ht (fun m hm => hw m (by
        simp only [DataW.weights, hu, List.mem_cons, List.mem_append]
        exact Or.inr (Or.inl (weights_all (List.mem_map.2 ⟨_, List.getElem_mem hi', rfl⟩) m hm))))
      exact ⟨c, y, hcs, hy, hg⟩
    have all : ∀ m, m ≤ len → ∃ xs : List α, xs.length = m ∧ (∀ x ∈ xs, G x) ∧ ∀ j p, xs[j]? = some p → ∃ c, W.cells? 0 (a.add (j * P.cellsOf e)) (P.cellsOf e) = some c ∧ d.K W p c := by
      intro m
      induction m with
      | zero => exact fun _ => ⟨[], rfl, fun x hx => by simp at hx, fun j p hj => by simp at hj⟩
      | succ m ih =>
        intro hm
        obtain ⟨xs, h1, h2, h3⟩ := ih (by omega)
        obtain ⟨c, y, hc1, hc2, hg⟩ := each m (by omega)
        refine ⟨xs ++ [y], by simp [h1], ?_, ?_⟩
        · intro x hx
          rcases List.mem_append.1 hx with hx | hx
          · exact h2 x hx
          · rw [List.mem_singleton.1 hx]; exact hg
        · intro j p hj
          rcases Nat.lt_or_ge j xs.length with hlt | hge
          · rw [List.getElem?_append_left hlt] at hj
            exact h3 j p hj
          · rw [List.getElem?_append_right hge] at hj
            have hj0 : j - xs.length = 0 := by
              rcases Nat.eq_zero_or_pos (j - xs.length) with h0 | h0
              · exact h0
              · rw [List.getElem?_eq_none (by simp; omega)] at hj; simp at hj
            rw [hj0] at hj
            simp only [List.getElem?_cons_zero, Option.some.injEq] at hj
            subst hj
            have : j = m := by omega
            subst this
            exact ⟨c, hc1, hc2⟩
    obtain ⟨xs, h1, h2, h3⟩ := all len (Nat.le_refl _)
    refine ⟨xs, ⟨some a, cap, by rw [h1], by omega, rfl, by rw [h1]; unfold maxLen at hcm; omega, fun _ => ⟨a, rfl, fun j p hj => ?_⟩⟩, ?_, h2⟩
    · obtain ⟨c, hc1, hc2⟩ := h3 j p hj
      refine ⟨c, d.K_len hc2, hc2, fun i u hu' => ?_⟩
      obtain ⟨_, hlen, hcell⟩ := World.cells?_some hc1
      have hi : i < c.length := by
        rcases Nat.lt_or_ge i c.length with h0 | h0
        · exact h0
        · rw [List.getElem?_eq_none h0] at hu'; simp at hu'
      have h4 := hcell i (by omega)
      rw [Addr.add_add, h.1] at h4
      rw [h4]; exact hu'
    · have := hw ((elems.length + rest.length) * P.bytesOf e) (by simp [DataW.weights, hu])
      rw [hB] at this
      have h5 : xs.length * B ≤ (elems.length + rest.length) * B := Nat.mul_le_mul_right _ (by omega)
      unfold reachBytes at this
      omega

/-- The fields of a struct from one on, read one after the other. -/
def OpensF (enc : TypeId × Value → H) (P : Program) (W : World) (fs : List Field) (off : Nat) (d : Kd α) (G : α → Prop) : Prop :=
  ∀ (cs : List Value) (xs : List (DataW H)), off + d.sz ≤ cs.length → xs.length = fs.length →
    (∀ (i : Nat) (f : Field), fs[i]? = some f → ∃ n x, DataW.trod enc P W 0 (fun _ => true) true n f.type ((cs.drop f.offset).take (P.cellsOf f.type)) = some x ∧ xs[i]? = some x.1) →
    (∀ m ∈ DataW.weightsEach P (fs.map (·.type)) xs, m ≤ reachBytes) → ∃ y, d.K W y ((cs.drop off).take d.sz) ∧ G y

theorem opensF_one {f : Field} {off : Nat} {d : Kd α} {G : α → Prop} (ho : f.offset = off) (h : Opens enc P W f.type d G) : OpensF enc P W [f] off d G := by
  intro cs xs hl hx hf hw
  obtain ⟨n, x, ht, hxi⟩ := hf 0 f rfl
  rw [ho, h.1] at ht
  match xs, hx with
  | [x0], _ =>
    simp only [List.getElem?_cons_zero, Option.some.injEq] at hxi
    subst hxi
    exact h.2 _ _ _ ht (fun m hm => hw m (by simp [DataW.weightsEach, hm]))

theorem opensF_cons {f : Field} {fs : List Field} {off : Nat} {a : Kd α} {b : Kd β} {Ga : α → Prop} {Gb : β → Prop} (ho : f.offset = off) (h : Opens enc P W f.type a Ga) (r : OpensF enc P W fs (off + a.sz) b Gb) :
    OpensF enc P W (f :: fs) off (Kd.pair a b) (both Ga Gb) := by
  intro cs xs hl hx hf hw
  have hsz : (Kd.pair a b).sz = a.sz + b.sz := rfl
  obtain ⟨n, x, ht, hxi⟩ := hf 0 f rfl
  rw [ho, h.1] at ht
  match xs, hx with
  | x0 :: xs, hx =>
    simp only [List.getElem?_cons_zero, Option.some.injEq] at hxi
    subst hxi
    simp only [List.map_cons, DataW.weightsEach, List.mem_append] at hw
    obtain ⟨y, hy, hg⟩ := h.2 _ _ _ ht (fun m hm => hw m (Or.inl hm))
    obtain ⟨z, hz, hg'⟩ := r cs xs (by omega) (by simpa using hx) (fun i g hi => by simpa using hf (i + 1) g (by simpa using hi)) (fun m hm => hw m (Or.inr hm))
    refine ⟨(y, z), ⟨_, _, ?_, hy, hz⟩, hg, hg'⟩
    rw [hsz, List.take_add, List.drop_drop]

theorem opens_struct {t : TypeId} {fs : Array Field} {d : Kd α} {G : α → Prop} (hu : P.underlying t = some (.struct fs)) (hc : P.cellsOf t = d.sz) (h : OpensF enc P W fs.toList 0 d G) : Opens enc P W t d G := by
  refine ⟨hc, fun fuel cs x hx hw => ?_⟩
  obtain ⟨xs, n, _, rfl, hl, hlen, hf⟩ := DataW.trod_struct hu hx
  obtain ⟨y, hy, hg⟩ := h cs (xs.map (·.1)) (by omega) (by simpa using hlen) (fun i f hi => by
      have hi' : i < xs.length := by
        rcases Nat.lt_or_ge i xs.length with h0 | h0
        · exact h0
        · rw [List.getElem?_eq_none (by simp; omega)] at hi; simp at hi
      have h1 := hf i f (by simpa using hi)
      rw [List.getElem?_eq_getElem hi'] at h1
      exact ⟨n, _, h1, by simp [List.getElem?_eq_getElem hi']⟩)
    (fun m hm => hw m (by simpa [DataW.weights, hu] using hm))
  refine ⟨y, ?_, hg⟩
  have : (cs.drop 0).take d.sz = cs := by rw [List.drop_zero, ← hc, ← hl, List.take_length]
  rwa [this] at hy

theorem opens_iso {t : TypeId} {d : Kd α} {G : α → Prop} (f : β → α) (g : α → β) (hfg : ∀ y, f (g y) = y) (h : Opens enc P W t d G) : Opens enc P W t (Kd.iso d f) (fun x => G (f x)) := by
  refine ⟨h.1, fun fuel cs x hx hw => ?_⟩
  obtain ⟨y, hy, hg⟩ := h.2 fuel cs x hx hw
  exact ⟨g y, by show d.K W (f (g y)) cs; rw [hfg]; exact hy, by show G (f (g y)); rw [hfg]; exact hg⟩

/-- An argument, out of the row's own facts. -/
theorem opens_arg {t : TypeId} {d : Kd α} {G : α → Prop} {v : Value} {x : DataW H} {p : List MemPlace} {ts : List TypeId} {ds : List (DataW H)} {j : Nat} (h : Opens enc P W t d G)
    (hsz : (DataW.weightsEach P ts ds).all (· ≤ reachBytes) = true) (ht : ts[j]? = some t) (hd : ds[j]? = some x) (hv : DataW.Trod enc P W 0 (fun _ => true) true t v x p) :
    ∃ y, d.K W y v.cells.toList ∧ G y := by
  obtain ⟨fuel, hf⟩ := hv
  exact h.2 fuel _ _ hf (fun n hn => by simpa using List.all_eq_true.1 hsz _ (DataW.weights_mem_each ht hd n hn))

end
end Go.Proofs.Ytlaaeighanknpaa.Open
