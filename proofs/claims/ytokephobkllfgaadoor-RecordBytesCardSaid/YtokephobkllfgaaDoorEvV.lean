/- What is proved here: a value that came in and can be read as data has the cells of its kind; how a law's row is had from what the law answers on plain values. Conditions: the value reads as data and each string in it is within the form's reach. -/
import Derived.Test.YtokephobkllfgaaDoorEvU
import Derived.ChangeArms
import Derived.SizedLaws
import Derived.WideShapes
import Derived.DataElems
import Derived.ChangeShapes
namespace Go.Proofs.YtokephobkllfgaaDoorEv
open Go Go.RowKit

def Sh.val (s : Sh) (x : s.den) : Value :=
  match s.st with
  | true => .agg (s.kd.vals x).toArray
  | false => (match s.kd.vals x with
    | [v] => v
    | _ => undef)
def valL : (ks : List Sh) → dens ks → List Value
  | [], _ => []
  | s :: r, v => s.val v.1 :: valL r v.2
theorem Rvs_scs' (m : Inj) : ∀ vs : List Value, Rvs m (scs vs) vs
  | [] => by unfold scs Rvs; rfl
  | v :: vs => by
    have := Rvs_scs' m vs
    show Rvs m (PV.sc v :: scs vs) (v :: vs)
    unfold Rvs
    exact ⟨v, vs, rfl, by unfold Rv; rfl, this⟩
theorem Sh.rv (m : Inj) (s : Sh) (x : s.den) : Rv m (s.pv x) (s.val x) := by
  obtain ⟨st, kd⟩ := s
  cases st with
  | true =>
    show Rv m (PV.agg (scs (kd.vals x))) (.agg (kd.vals x).toArray)
    unfold Rv
    exact ⟨kd.vals x, rfl, Rvs_scs' m _⟩
  | false =>
    show Rv m (oneSc (kd.vals x)) (match kd.vals x with
      | [v] => v
      | _ => undef)
    cases kd.vals x with
    | nil => show Rv m PV.undef _; unfold Rv; trivial
    | cons v r =>
      cases r with
      | nil => show Rv m (PV.sc v) v; unfold Rv; rfl
      | cons _ _ => show Rv m PV.undef _; unfold Rv; trivial
theorem showL_rvs (m : Inj) : ∀ (ks : List Sh) (v : dens ks), Rvs m (showL ks v) (valL ks v)
  | [], _ => by unfold showL valL Rvs; rfl
  | s :: r, v => by
    unfold showL valL Rvs
    exact ⟨_, _, rfl, s.rv m v.1, showL_rvs m r v.2⟩

section
variable {H : Type} {enc : TypeId × Value → H} {P : Program} {W : World}

/-- Whatever reads as type t has the cells of kind k, and what is read is so as G says. -/
def Opens (enc : TypeId × Value → H) (P : Program) (W : World) (t : TypeId) (k : Kd) (G : k.den → Prop) : Prop :=
  P.cellsOf t = k.sz ∧ ∀ fuel cs x, DataW.trod enc P W 0 (fun _ => true) true fuel t cs = some x → (∀ n ∈ x.1.weights P t, n ≤ reachBytes) → ∃ y, cs = k.vals y ∧ G y

def gInt (k : IntKind) : (Kd.int k).den → Prop := fun n => (Lit.int k n).wf = true
def gStr : (Kd.str).den → Prop := fun s => s.size ≤ 140737488351232
def gBool : (Kd.bool).den → Prop := fun _ => True
def both {a b : Kd} (Ga : a.den → Prop) (Gb : b.den → Prop) : (Kd.pair a b).den → Prop := fun x => Ga x.1 ∧ Gb x.2

theorem opens_int {t : TypeId} {k : IntKind} (hu : P.underlying t = some (.int k)) (hc : P.cellsOf t = 1) : Opens enc P W t (.int k) (gInt k) :=
  ⟨hc, fun fuel cs x h _ => by
    obtain ⟨n, rfl, _, hw⟩ := DataW.trod_int hu h
    exact ⟨n, rfl, hw⟩⟩
theorem opens_bool {t : TypeId} (hu : P.underlying t = some .bool) (hc : P.cellsOf t = 1) : Opens enc P W t .bool gBool :=
  ⟨hc, fun fuel cs x h _ => by
    obtain ⟨b, rfl, _⟩ := DataW.trod_bool hu h
    exact ⟨b, rfl, trivial⟩⟩
theorem opens_string {t : TypeId} (hu : P.underlying t = some .string) (hc : P.cellsOf t = 1) : Opens enc P W t .str gStr :=
  ⟨hc, fun fuel cs x h hw => by
    obtain ⟨s, rfl, rfl, _⟩ := DataW.trod_string hu h
    refine ⟨s, rfl, ?_⟩
    have h1 := hw s.data.toList.length (by simp [DataW.weights])
    rw [Array.length_toList] at h1
    exact h1⟩

/-- The fields of a struct from one on, read one after the other. -/
def OpensF (enc : TypeId × Value → H) (P : Program) (W : World) (fs : List Field) (off : Nat) (d : Kd) (G : d.den → Prop) : Prop :=
  ∀ (cs : List Value) (xs : List (DataW H)), off + d.sz ≤ cs.length → xs.length = fs.length →
    (∀ (i : Nat) (f : Field), fs[i]? = some f → ∃ n x, DataW.trod enc P W 0 (fun _ => true) true n f.type ((cs.drop f.offset).take (P.cellsOf f.type)) = some x ∧ xs[i]? = some x.1) →
    (∀ m ∈ DataW.weightsEach P (fs.map (·.type)) xs, m ≤ reachBytes) → ∃ y, (cs.drop off).take d.sz = d.vals y ∧ G y

theorem opensF_one {f : Field} {off : Nat} {d : Kd} {G : d.den → Prop} (ho : f.offset = off) (h : Opens enc P W f.type d G) : OpensF enc P W [f] off d G := by
  intro cs xs hl hx hf hw
  obtain ⟨n, x, ht, hxi⟩ := hf 0 f rfl
  rw [ho, h.1] at ht
  match xs, hx with
  | [x0], _ =>
    simp only [List.getElem?_cons_zero, Option.some.injEq] at hxi
    subst hxi
    exact h.2 _ _ _ ht (fun m hm => hw m (by simp [DataW.weightsEach, hm]))

theorem opensF_cons {f : Field} {fs : List Field} {off : Nat} {a b : Kd} {Ga : a.den → Prop} {Gb : b.den → Prop} (ho : f.offset = off) (h : Opens enc P W f.type a Ga) (r : OpensF enc P W fs (off + a.sz) b Gb) :
    OpensF enc P W (f :: fs) off (.pair a b) (both Ga Gb) := by
  intro cs xs hl hx hf hw
  have hsz : (Kd.pair a b).sz = a.sz + b.sz := rfl
  obtain ⟨n, x, ht, hxi⟩ := hf 0 f rfl
  rw [ho, h.1] at ht
  match xs, hx with
  | x0 :: xs, hx =>
    simp only [List.getElem?_cons_zero, Option.some.injEq] at hxi
    subst hxi
    simp only [List.map_cons, DataW.weightsEach, List.mem_append] at hw
    obtain ⟨y, hy, hg⟩ := h.2 _ _ _ ht (fun m hm => hw m (Or.inl hm))
    obtain ⟨z, hz, hg'⟩ := r cs xs (by omega) (by simpa using hx) (fun i g hi => by simpa using hf (i + 1) g (by simpa using hi)) (fun m hm => hw m (Or.inr hm))
    refine ⟨(y, z), ?_, hg, hg'⟩
    rw [hsz, List.take_add, List.drop_drop, hy, hz]
    rfl

theorem opens_struct {t : TypeId} {fs : Array Field} {d : Kd} {G : d.den → Prop} (hu : P.underlying t = some (.struct fs)) (hc : P.cellsOf t = d.sz) (h : OpensF enc P W fs.toList 0 d G) : Opens enc P W t d G := by
  refine ⟨hc, fun fuel cs x hx hw => ?_⟩
  obtain ⟨xs, n, _, rfl, hl, hlen, hf⟩ := DataW.trod_struct hu hx
  obtain ⟨y, hy, hg⟩ := h cs (xs.map (·.1)) (by omega) (by simpa using hlen) (fun i f hi => by
      have hi' : i < xs.length := by
        rcases Nat.lt_or_ge i xs.length with h0 | h0
        · exact h0
        · rw [List.getElem?_eq_none (by simp; omega)] at hi; simp at hi
      have h1 := hf i f (by simpa using hi)
      rw [List.getElem?_eq_getElem hi'] at h1
      exact ⟨n, _, h1, by simp [List.getElem?_eq_getElem hi']⟩)
    (fun m hm => hw m (by simpa [DataW.weights, hu] using hm))
  refine ⟨y, ?_, hg⟩
  have : (cs.drop 0).take d.sz = cs := by rw [List.drop_zero, ← hc, ← hl, List.take_length]
  rwa [this] at hy

/-- An argument, out of the row's own facts. -/
theorem opens_arg {t : TypeId} {d : Kd} {G : d.den → Prop} {cs : Array Value} {x : DataW H} {p : List MemPlace} {ts : List TypeId} {ds : List (DataW H)} {j : Nat} (h : Opens enc P W t d G)
    (hsz : (DataW.weightsEach P ts ds).all (· ≤ reachBytes) = true) (ht : ts[j]? = some t) (hd : ds[j]? = some x) (hv : DataW.Trod enc P W 0 (fun _ => true) true t (.agg cs) x p) :
    ∃ y, cs = (d.vals y).toArray ∧ G y := by
  obtain ⟨fuel, hf⟩ := hv
  obtain ⟨y, hy, hg⟩ := h.2 fuel _ _ hf (fun n hn => by simpa using List.all_eq_true.1 hsz _ (DataW.weights_mem_each ht hd n hn))
  exact ⟨y, by apply Array.ext'; simpa [Value.cells] using hy, hg⟩
end
end Go.Proofs.YtokephobkllfgaaDoorEv
