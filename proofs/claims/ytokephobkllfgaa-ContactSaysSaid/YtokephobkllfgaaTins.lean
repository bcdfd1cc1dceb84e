/- What is laid here: slices.Insert of one element, for elements of k cells, over any program that bears the library's own text of it. The walk is the shelf's at []string, turned to k cells. No condition but the facts of InsL. -/
import Derived.Shelf.Spec.SlicesInsertGrow
import Derived.Shelf.SlGeneric
set_option linter.unusedVariables false
set_option linter.unusedSimpArgs false
namespace Go.Proofs.YtokephobkllfgaaIn
open Go Go.Proofs Go.Shelf Go.RowKit Go.Lib
variable {P : Program} {ρ : Ren} {k : Nat} {zc : List Value} {zv : Value} {ib : Nat}
/-- What the walk takes of a program: the two functions' text, and the facts of the types in it; an element has k cells. -/
structure InsL (P : Program) (ρ : Ren) (k : Nat) (zv : Value) (ib : Nat) : Prop where
  mixed : P.follows Departure.mixedOrders = true
  f22 : Bears P (ρ.f 22) (Body2.n22 ρ)
  f29 : ∀ (args : Array Value) (w : World), Sem.run P (callFunc (ρ.f 29) args) w = (Sem.run P (Extern.SlicesOverlaps.overlaps #[ρ.t 24, ρ.t 24] #[ρ.t 4] args) w).andThen fun v w' => Result.ok (Next.value v) w'
  t0 : P.underlying (ρ.t 0) = some (TypeDesc.tuple #[])
  a0 : ∀ (w : World), Sem.run P (isAgg (ρ.t 0)) w = Result.ok false w
  z0 : ∀ (w : World), Sem.run P (Go.sizeOf (ρ.t 0)) w = Result.ok 1 w
  v0 : ∀ (w : World), Sem.run P (zeroValue (ρ.t 0)) w = Result.ok (Value.tuple #[]) w
  t3 : P.underlying (ρ.t 3) = some (TypeDesc.int IntKind.i64)
  a3 : ∀ (w : World), Sem.run P (isAgg (ρ.t 3)) w = Result.ok false w
  z3 : ∀ (w : World), Sem.run P (Go.sizeOf (ρ.t 3)) w = Result.ok 1 w
  v3 : ∀ (w : World), Sem.run P (zeroValue (ρ.t 3)) w = Result.ok (Value.int IntKind.i64 0) w
  t4 : P.underlying (ρ.t 4) = some TypeDesc.bool
  a4 : ∀ (w : World), Sem.run P (isAgg (ρ.t 4)) w = Result.ok false w
  z4 : ∀ (w : World), Sem.run P (Go.sizeOf (ρ.t 4)) w = Result.ok 1 w
  v4 : ∀ (w : World), Sem.run P (zeroValue (ρ.t 4)) w = Result.ok (Value.bool false) w
  z9 : ∀ (w : World), Sem.run P (Go.sizeOf (ρ.t 9)) w = Result.ok k w
  t24 : P.underlying (ρ.t 24) = some (TypeDesc.slice (ρ.t 9))
  a24 : ∀ (w : World), Sem.run P (isAgg (ρ.t 24)) w = Result.ok false w
  z24 : ∀ (w : World), Sem.run P (Go.sizeOf (ρ.t 24)) w = Result.ok 1 w
  v24 : ∀ (w : World), Sem.run P (zeroValue (ρ.t 24)) w = Result.ok (Value.slice none 0 0) w
  i9 : Option.map (fun i => (i.zero, i.size, i.bytes)) (P.info? (ρ.t 9)) = some (some zv, k, ib)
theorem run_copy_cellsK (w : World) (dT sT ty elem : TypeId) (b o dLen dCap : Nat) (a : Addr) (sLen sCap size q : Nat) (cs : List Value)
    (hu : P.underlying dT = some (.slice elem)) (hs : (P.info? elem).map (·.size) = some size) (hq : q = Nat.min sLen dLen) (hn : cs.length = q * size)
    (hsrc : ∀ j v, cs[j]? = some v → w.cell? (a.add j) = some v) (hc : ∀ j, j < cs.length → (w.cell? ⟨b, o + j, none⟩).isSome = true) (hf : ∀ j, j < cs.length → w.frozen? ⟨b, o + j, none⟩ = false) (h1 : ∀ v ∈ cs, v.oneCell' = true) :
    (Builtin.copy_ #[dT, sT] ty #[.slice (some ⟨b, o, none⟩) dLen dCap, .slice (some a) sLen sCap]).run P w = .ok (goInt q) (w.setCells b o cs) := by
  subst hq
  have hl := run_firstCells_some (P := P) w size (Nat.min sLen dLen) a sLen sCap cs hn hsrc
  have hst := run_storeCells_cells (P := P) b o cs 0 w (by simpa using hc) (by simpa using hf) h1
  cases hq : P.info? elem with
  | none => simp [hq] at hs
  | some i =>
    have hi : i.size = size := by simpa [hq] using hs
    simp [Builtin.copy_, run_underlying hu, Builtin.lenOf, sizeOf, typeInfo, hq, hi, hl, hst]
theorem mul_lt {j n k : Nat} (h : j < n * k) : 0 < k := by
  rcases Nat.eq_zero_or_pos k with h0 | h0
  · subst h0; simp at h
  · exact h0
set_option maxHeartbeats 4000000 in
set_option maxRecDepth 100000 in
/-- THERE IS ROOM, i < len(s): in place. -/
theorem ins_shift (L : InsL P ρ k zv ib) (b off n c i vb voff vc : Nat) (cs vs : List Value) (w : World) (hi : i < n) (hroom : n + 1 ≤ c) (hc63 : c ≤ 9223372036854775807) (hvb : vb ≠ b)
    (hcl : cs.length = n * k) (hvl : vs.length = k)
    (hcs : ∀ j v, cs[j]? = some v → w.cell? ⟨b, off + j, none⟩ = some v) (hsp : ∀ j, j < (n + 1) * k → (w.cell? ⟨b, off + j, none⟩).isSome = true) (hfz : ∀ j, j < (n + 1) * k → w.frozen? ⟨b, off + j, none⟩ = false)
    (hvs : ∀ j v, vs[j]? = some v → w.cell? ⟨vb, voff + j, none⟩ = some v) (h1c : ∀ v ∈ cs, v.oneCell' = true) (h1v : ∀ v ∈ vs, v.oneCell' = true)
    (tA tB : TypeId) (kA kB : Nat) (hsa : w.shape? vb = some (tA, kA)) (hsb : w.shape? b = some (tB, kB)) (hkB : kB ≠ 0) (hfa : w.frozen? ⟨vb, voff, none⟩ = false) (hfe : w.frozen? ⟨vb, kA, none⟩ = false) :
    Calls P (ρ.f 22) #[.slice (some ⟨b, off, none⟩) n c, .int .i64 i, .slice (some ⟨vb, voff, none⟩) 1 vc] w fun e w' =>
      e = .returned (.slice (some ⟨b, off, none⟩) (n + 1) c) ∧ w' = (w.drew.setCells b (off + (i + 1) * k) (cs.drop (i * k))).setCells b (off + i * k) vs := by
  have t0 := L.t0; have a0 := L.a0; have z0 := L.z0; have v0 := L.v0; have t3 := L.t3; have a3 := L.a3; have z3 := L.z3; have v3 := L.v3; have t4 := L.t4; have a4 := L.a4; have z4 := L.z4; have v4 := L.v4; have z9 := L.z9; have t24 := L.t24; have a24 := L.a24; have z24 := L.z24; have v24 := L.v24
  have u0 := run_underlying L.t0; have u3 := run_underlying L.t3; have u4 := run_underlying L.t4; have u24 := run_underlying L.t24
  have hz2 : ¬ ((i : Int) = (n : Int)) := by omega
  have hsz : (P.info? (ρ.t 9)).map (·.size) = some k := by
    obtain ⟨i0, hi0, h0, h1, h2⟩ := info_parts L.i9
    rw [hi0]; simp [h1]
  have hov : ∀ lb cb, (callFunc (ρ.f 29) #[.slice (some ⟨vb, voff, none⟩) 1 vc, .slice (some ⟨b, off + (i + 1) * k, none⟩) lb cb]).run P w = .ok (.value (.bool false)) w := fun lb cb => by
    rw [L.f29, Lib.run_overlaps_apart w (ρ.t 24) (ρ.t 4) (ρ.t 9) L.t24 k L.z9 ⟨vb, voff, none⟩ ⟨b, off + (i + 1) * k, none⟩ 1 vc lb cb hvb tA tB kA kB hsa hsb hkB hfa hfe]
    rfl
  have e1 : (n + 1) * k = n * k + k := by rw [Nat.add_mul, Nat.one_mul]
  have e2 : (i + 1) * k = i * k + k := by rw [Nat.add_mul, Nat.one_mul]
  have e3 : (i + 1) * k ≤ n * k := Nat.mul_le_mul_right k (by omega)
  have e4 : (n - i) * k = n * k - i * k := Nat.sub_mul _ _ _
  have hdl : (cs.drop (i * k)).length = (n - i) * k := by rw [List.length_drop, hcl, e4]
  have mixed := L.mixed
  have hw1 : IntKind.i64.wrap ((i : Int) + 1) = (i : Int) + 1 := by rw [IntKind.wrap_i64]; omega
  have hw2 : IntKind.i64.wrap ((n : Int) + 1) = (n : Int) + 1 := by rw [IntKind.wrap_i64]; omega
  have hb1 : (0 : Int) ≤ (i : Int) + 1 := by omega
  have hin : i ≤ n := by omega
  have htn : ((i : Int) + 1).toNat = i + 1 := by omega
  have htm : ((n : Int) + 1).toNat = n + 1 := by omega
  have hb2 : ¬ (c = i + 1) := by omega
  have hb3 : (i : Int) ≤ (n : Int) + 1 := by omega
  have hb4 : ¬ (c = i) := by omega
  have hcp1 : ∀ ty dc sc, (Builtin.copy_ #[(ρ.t 24), (ρ.t 24)] ty #[.slice (some ⟨b, off + (i + 1) * k, none⟩) (n - i) dc, .slice (some ⟨b, off + i * k, none⟩) (n + 1 - i) sc]).run P w.drew = .ok (goInt (n - i : Nat)) (w.drew.setCells b (off + (i + 1) * k) (cs.drop (i * k))) := fun ty dc sc =>
    run_copy_cellsK w.drew _ _ ty (ρ.t 9) b (off + (i + 1) * k) (n - i) dc ⟨b, off + i * k, none⟩ (n + 1 - i) sc k (n - i) (cs.drop (i * k)) L.t24 hsz (by simp only [Nat.min_def]; split <;> omega) hdl
      (fun j v hj => by rw [Addr.add_lit, Nat.add_assoc]; exact hcs (i * k + j) v (by rwa [List.getElem?_drop] at hj))
      (fun j hj => by rw [Nat.add_assoc]; exact hsp _ (by omega)) (fun j hj => by rw [Nat.add_assoc]; exact hfz _ (by omega)) (fun v hv => h1c v (List.mem_of_mem_drop hv))
  obtain ⟨W1, hW1⟩ : ∃ W1, W1 = w.drew.setCells b (off + (i + 1) * k) (cs.drop (i * k)) := ⟨_, rfl⟩
  have hsp1 : ∀ q, q < (n + 1) * k → (W1.cell? ⟨b, off + q, none⟩).isSome = true := fun q hq => by
    rw [hW1]
    exact isSome_setCells b _ _ _ (fun j hj => by rw [Nat.add_assoc]; exact hsp _ (by omega)) _ (hsp q hq)
  have hcp2 : ∀ (W : World), (∀ x, W.cell? x = W1.cell? x) → (∀ x, W.frozen? x = W1.frozen? x) → ∀ ty dc, (Builtin.copy_ #[(ρ.t 24), (ρ.t 24)] ty #[.slice (some ⟨b, off + i * k, none⟩) (n + 1 - i) dc, .slice (some ⟨vb, voff, none⟩) 1 vc]).run P W = .ok (goInt (1 : Nat)) (W.setCells b (off + i * k) vs) := fun W hWc hWf ty dc =>
    run_copy_cellsK W _ _ ty (ρ.t 9) b (off + i * k) (n + 1 - i) dc ⟨vb, voff, none⟩ 1 vc k 1 vs L.t24 hsz (by simp only [Nat.min_def]; split <;> omega) (by rw [hvl, Nat.one_mul])
      (fun j v hj => by
        rw [Addr.add_lit, hWc, hW1, World.cell?_setCells_out b _ _ _ _ (fun h _ => absurd h hvb)]
        exact hvs j v hj)
      (fun j hj => by rw [hWc, Nat.add_assoc]; exact hsp1 _ (by omega)) (fun j hj => by rw [hWf, hW1, World.frozen?_setCells, Nat.add_assoc]; exact hfz _ (by omega)) h1v
  rw [← hW1] at hcp1
  clear e1 e2 e3 e4 hdl hsp1 hsp hfz hcs hvs
  obtain ⟨nm, _, F22⟩ := L.f22
  go_enter F22, Body2.n22_ntmps ρ
  go_wp2_with (simp only [hov])
  go_region_law_o (refine step_copy_runI rfl _ _ (ρ.t 24) (ρ.t 24) rfl _ _ (by simp [Act.eval, Act.put]) (by simp [Act.eval, Act.put]) (hcp1 _ _ _) ?_)
  go_wp2_with (at_builtin; refine wpList_copy_runI _ rfl _ _ (ρ.t 24) (ρ.t 24) rfl _ _ rfl rfl (hcp2 _ (fun _ => rfl) (fun _ => rfl) _ _) ?_)
  go_ret
  first | exact ⟨rfl, rfl⟩ | exact ⟨rfl, by rw [hW1]⟩
set_option maxHeartbeats 4000000 in
set_option maxRecDepth 100000 in
/-- AT THE END, THERE IS ROOM. -/
theorem ins_end_room (L : InsL P ρ k zv ib) (b off n c vb voff vc : Nat) (vs : List Value) (w : World) (hroom : n + 1 ≤ c) (hc63 : c ≤ 9223372036854775807)
    (hvl : vs.length = k) (hsp : ∀ j, j < k → (w.cell? ⟨b, off + n * k + j, none⟩).isSome = true) (hfz : ∀ j, j < k → w.frozen? ⟨b, off + n * k + j, none⟩ = false)
    (hvs : ∀ j v, vs[j]? = some v → w.cell? ⟨vb, voff + j, none⟩ = some v) (h1v : ∀ v ∈ vs, v.oneCell' = true) :
    Calls P (ρ.f 22) #[.slice (some ⟨b, off, none⟩) n c, .int .i64 n, .slice (some ⟨vb, voff, none⟩) 1 vc] w fun e w' =>
      e = .returned (.slice (some ⟨b, off, none⟩) (n + 1) c) ∧ w' = w.setCells b (off + n * k) vs := by
  have t0 := L.t0; have a0 := L.a0; have z0 := L.z0; have v0 := L.v0; have t3 := L.t3; have a3 := L.a3; have z3 := L.z3; have v3 := L.v3; have t4 := L.t4; have a4 := L.a4; have z4 := L.z4; have v4 := L.v4; have z9 := L.z9; have t24 := L.t24; have a24 := L.a24; have z24 := L.z24; have v24 := L.v24
  have u0 := run_underlying L.t0; have u3 := run_underlying L.t3; have u4 := run_underlying L.t4; have u24 := run_underlying L.t24
  have mixed := L.mixed
  obtain ⟨i0, hi0, hz0, hzs, hzb⟩ := info_parts L.i9
  have hsrc : Src P i0.size (ρ.t 24) (.slice (some ⟨vb, voff, none⟩) 1 vc) 1 vs w := by
    rw [hzs]; exact Src.ofSlice w L.t24 ⟨vb, voff, none⟩ 1 vc vs (by omega) (fun j u hj => by rw [Addr.add_lit]; exact hvs j u hj) h1v
  have hrun : ∀ ty, (Builtin.append_ #[(ρ.t 24), (ρ.t 24)] ty #[.slice (some ⟨b, off, none⟩) n c, .slice (some ⟨vb, voff, none⟩) 1 vc]).run P w = .ok (.slice (some ⟨b, off, none⟩) (n + 1) c) (w.setCells b (off + n * k) vs) := fun ty => by
    have := run_append_room_src (P := P) w (ρ.t 24) (ρ.t 24) ty (ρ.t 9) i0 L.t24 hi0 b off n c _ 1 vs hsrc hroom (by rw [hvl, hzs]; exact hsp) (by rw [hvl, hzs]; exact hfz)
    rwa [hzs] at this
  obtain ⟨nm, _, F22⟩ := L.f22
  go_enter F22, Body2.n22_ntmps ρ
  go_wp2_with (at_builtin; refine Lib.wpList_append_run _ rfl _ _ _ _ rfl _ _ rfl rfl _ _ (hrun _) ?_)
  go_ret
  exact ⟨rfl, rfl⟩
set_option maxHeartbeats 4000000 in
set_option maxRecDepth 100000 in
/-- AT THE END, NO ROOM (the nil slice too): a new row. -/
theorem ins_end_grow (L : InsL P ρ k zv ib) (base : Option Addr) (n c vb voff vc : Nat) (cs vs : List Value) (w : World) (hroom : c < n + 1) (hnc : n ≤ c) (hbig : (n + 1) * ib ≤ 140737488355328) (hn63 : n < 4611686018427387904)
    (hcl : cs.length = n * k) (hvl : vs.length = k) (hnil : base = none → n = 0)
    (hcs : ∀ a, base = some a → ∀ j v, cs[j]? = some v → w.cell? (a.add j) = some v)
    (hvs : ∀ j v, vs[j]? = some v → w.cell? ⟨vb, voff + j, none⟩ = some v) (h1v : ∀ v ∈ vs, v.oneCell' = true) :
    Calls P (ρ.f 22) #[.slice base n c, .int .i64 n, .slice (some ⟨vb, voff, none⟩) 1 vc] w fun e w' =>
      e = .returned (.slice (some ⟨w.heap.size, 0, none⟩) (n + 1) (grownCap w (n + 1) c (ρ.t 9))) ∧
      w' = w.drew.alloc (.cells ((cs ++ vs).toArray ++ Builtin.zeroCells zv.cells (grownCap w (n + 1) c (ρ.t 9) - (n + 1))) (ρ.t 9)) := by
  have t0 := L.t0; have a0 := L.a0; have z0 := L.z0; have v0 := L.v0; have t3 := L.t3; have a3 := L.a3; have z3 := L.z3; have v3 := L.v3; have t4 := L.t4; have a4 := L.a4; have z4 := L.z4; have v4 := L.v4; have z9 := L.z9; have t24 := L.t24; have a24 := L.a24; have z24 := L.z24; have v24 := L.v24
  have u0 := run_underlying L.t0; have u3 := run_underlying L.t3; have u4 := run_underlying L.t4; have u24 := run_underlying L.t24
  have mixed := L.mixed
  obtain ⟨i0, hi0, hz0, hzs, hzb⟩ := info_parts L.i9
  have hsrc : Src P i0.size (ρ.t 24) (.slice (some ⟨vb, voff, none⟩) 1 vc) 1 vs w := by
    rw [hzs]; exact Src.ofSlice w L.t24 ⟨vb, voff, none⟩ 1 vc vs (by omega) (fun j u hj => by rw [Addr.add_lit]; exact hvs j u hj) h1v
  have hold : (Builtin.firstCells i0.size n (.slice base n c)).run P w.drew = .ok cs.toArray w.drew := by
    cases base with
    | none =>
      have h0 := hnil rfl
      subst h0
      have hc0 : cs = [] := List.length_eq_zero_iff.1 (by rw [hcl, Nat.zero_mul])
      rw [hc0]
      exact run_firstCells_none w.drew i0.size 0 0 c
    | some a => exact run_firstCells_some w.drew i0.size n a n c cs (by rw [hzs]; exact hcl) (fun j v hj => hcs a rfl j v hj)
  have hrun : ∀ ty, (Builtin.append_ #[(ρ.t 24), (ρ.t 24)] ty #[.slice base n c, .slice (some ⟨vb, voff, none⟩) 1 vc]).run P w = _ := fun ty =>
    run_append_grow_src w (ρ.t 24) (ρ.t 24) ty (ρ.t 9) i0 _ L.t24 hi0 hz0 base n c cs hold _ 1 vs hsrc hroom (by omega) (by rw [hzb]; exact growslice_fits hroom hbig)
  obtain ⟨ROW, hROW⟩ : ∃ ROW : Array Value, ROW = (cs ++ vs).toArray ++ Builtin.zeroCells zv.cells (grownCap w (n + 1) c (ρ.t 9) - (n + 1)) := ⟨_, rfl⟩
  rw [← hROW] at hrun ⊢
  clear hROW hz0
  obtain ⟨nm, _, F22⟩ := L.f22
  go_enter F22, Body2.n22_ntmps ρ
  cases base with
  | none =>
    have h0 := hnil rfl
    subst h0
    go_wp2_with (at_builtin; refine Lib.wpList_append_run _ rfl _ _ _ _ rfl _ _ rfl rfl _ _ (hrun _) ?_)
    go_ret
    exact ⟨rfl, rfl⟩
  | some a =>
    obtain ⟨ab, ao, asp⟩ := a
    go_wp2_with (at_builtin; refine Lib.wpList_append_run _ rfl _ _ _ _ rfl _ _ rfl rfl _ _ (hrun _) ?_)
    all_goals (go_ret; exact ⟨rfl, rfl⟩)
theorem zeroCells_size (cs : Array Value) : ∀ n, (Builtin.zeroCells cs n).size = n * cs.size
  | 0 => by simp [Builtin.zeroCells]
  | n + 1 => by
    have := zeroCells_size cs n
    simp only [Builtin.zeroCells] at this ⊢
    simp [List.replicate_succ] at this ⊢
set_option maxHeartbeats 4000000 in
set_option maxRecDepth 100000 in
/-- i < len(s), NO ROOM: a new row. -/
theorem ins_grow (L : InsL P ρ k zv ib) (hzk : zv.cells.size = k) (b off n c i vb voff vc : Nat) (cs vs : List Value) (w : World) (hi : i < n) (hnc : n ≤ c) (hroom : c < n + 1) (hbig : (n + 1) * ib ≤ 140737488355328) (hib : 0 < ib) (hk0 : 0 < k)
    (hcl : cs.length = n * k) (hvl : vs.length = k)
    (hcs : ∀ j v, cs[j]? = some v → w.cell? ⟨b, off + j, none⟩ = some v)
    (hvs : ∀ j v, vs[j]? = some v → w.cell? ⟨vb, voff + j, none⟩ = some v) (h1c : ∀ v ∈ cs, v.oneCell' = true) (h1v : ∀ v ∈ vs, v.oneCell' = true) :
    Calls P (ρ.f 22) #[.slice (some ⟨b, off, none⟩) n c, .int .i64 i, .slice (some ⟨vb, voff, none⟩) 1 vc] w fun e w' =>
      e = .returned (.slice (some ⟨w.heap.size, 0, none⟩) (n + 1) (grownCap w (n + 1) c (ρ.t 9))) ∧ ∃ ROW : Array Value, ROW.size = grownCap w (n + 1) c (ρ.t 9) * k ∧ (∀ j v, j < i * k → cs[j]? = some v → ROW[j]? = some v) ∧
      w' = (((w.alloc (.cells ROW (ρ.t 9))).drew.setCells w.heap.size (i * k) vs).drew).setCells w.heap.size ((i + 1) * k) (cs.drop (i * k)) := by
  have t0 := L.t0; have a0 := L.a0; have z0 := L.z0; have v0 := L.v0; have t3 := L.t3; have a3 := L.a3; have z3 := L.z3; have v3 := L.v3; have t4 := L.t4; have a4 := L.a4; have z4 := L.z4; have v4 := L.v4; have z9 := L.z9; have t24 := L.t24; have a24 := L.a24; have z24 := L.z24; have v24 := L.v24
  have u0 := run_underlying L.t0; have u3 := run_underlying L.t3; have u4 := run_underlying L.t4; have u24 := run_underlying L.t24
  have mixed := L.mixed
  obtain ⟨i0, hi0, hz0, hzs, hzb⟩ := info_parts L.i9
  have hz2 : ¬ ((i : Int) = (n : Int)) := by omega
  have hz3 : (c : Int) < (n : Int) + 1 := by omega
  have hsz : (P.info? (ρ.t 9)).map (·.size) = some k := by rw [hi0]; simp [hzs]
  have e1 : (n + 1) * k = n * k + k := by rw [Nat.add_mul, Nat.one_mul]
  have e2 : (i + 1) * k = i * k + k := by rw [Nat.add_mul, Nat.one_mul]
  have e3 : (i + 1) * k ≤ n * k := Nat.mul_le_mul_right k (by omega)
  have e4 : (n - i) * k = n * k - i * k := Nat.sub_mul _ _ _
  have hn63 : n + 1 ≤ 140737488355328 := Nat.le_trans (Nat.le_mul_of_pos_right _ hib) hbig
  have hbw : b < w.heap.size := block_lt_of_cell (hcs 0 _ (List.getElem?_eq_getElem (by omega)))
  have hvw : vb < w.heap.size := block_lt_of_cell (hvs 0 _ (List.getElem?_eq_getElem (by omega)))
  have hkk : IntKind.i64.wrap (IntKind.i64.wrap ((n : Int) + 1) - (i : Int)) = ((n + 1 - i : Nat) : Int) := by
    rw [IntWalk.i64_in ((n : Int) + 1) (by omega), IntWalk.i64_in ((n : Int) + 1 - (i : Int)) (by omega)]; omega
  have hik : i + (n + 1 - i) = n + 1 := by omega
  have hold : (Builtin.firstCells i0.size i (.slice (some ⟨b, off, none⟩) i c)).run P w.drew = .ok (cs.take (i * k)).toArray w.drew :=
    run_firstCells_some w.drew i0.size i ⟨b, off, none⟩ i c (cs.take (i * k)) (by rw [List.length_take, hzs]; omega) (fun j v hj => by
      rw [Addr.add_lit]
      rw [List.getElem?_take] at hj
      split at hj
      · exact hcs j v hj
      · cases hj)
  have hrz : ∀ ty, (Builtin.append_ #[(ρ.t 24), (ρ.t 3)] ty #[.slice (some ⟨b, off, none⟩) i c, .int .i64 ((n + 1 - i : Nat) : Int)]).run P w =
      .ok (.slice (some ⟨w.heap.size, 0, none⟩) (n + 1) (grownCap w (n + 1) c (ρ.t 9))) (w.drew.alloc (.cells ((cs.take (i * k)).toArray ++ Builtin.zeroCells zv.cells (n + 1 - i) ++ Builtin.zeroCells zv.cells (grownCap w (n + 1) c (ρ.t 9) - (n + 1))) (ρ.t 9))) := fun ty => by
    have h := Lib.run_append_grow_zeros w (ρ.t 24) (ρ.t 3) ty (ρ.t 9) i0 _ .i64 .i64 L.t24 L.t3 hi0 hz0 (some ⟨b, off, none⟩) i c (cs.take (i * k)) hold (n + 1 - i) (by omega) (by omega) (by omega) (by omega)
      (by
        rw [hzb]
        exact Nat.le_trans (Nat.mul_le_mul_right ib (show n + 1 - i ≤ n + 1 by omega)) (Nat.le_trans hbig (by omega))) (by rw [hzb, hik]; exact growslice_fits hroom hbig)
    rw [hik] at h
    exact h
  obtain ⟨G, hG⟩ : ∃ G, G = grownCap w (n + 1) c (ρ.t 9) := ⟨_, rfl⟩
  have hGn : n + 1 ≤ G := by rw [hG]; exact grownCap_ge w _ _ _
  have hG63 : G ≤ 9223372036854775807 := by
    have := grownCap_le_maxLen w (n + 1) c (ρ.t 9) (by unfold maxLen; omega)
    rw [← hG] at this
    unfold maxLen at this
    omega
  obtain ⟨ROW, hROW⟩ : ∃ ROW : Array Value, ROW = (cs.take (i * k)).toArray ++ Builtin.zeroCells zv.cells (n + 1 - i) ++ Builtin.zeroCells zv.cells (G - (n + 1)) := ⟨_, rfl⟩
  rw [← hG] at hrz ⊢
  rw [← hROW] at hrz
  have hRs : ROW.size = G * k := by
    rw [hROW, Array.size_append, Array.size_append, zeroCells_size, zeroCells_size, hzk]
    have q1 : (cs.take (i * k)).toArray.size = i * k := by simp; omega
    rw [q1, ← Nat.add_mul, ← Nat.add_mul]
    congr 1; omega
  have hRi : ∀ j v, j < i * k → cs[j]? = some v → ROW[j]? = some v := fun j v hj hv => by
    rw [hROW, Array.append_assoc, Array.getElem?_append_left (by simp; omega)]
    simp [hj, hv]
  have hRl : (n + 1) * k ≤ ROW.size := by rw [hRs]; exact Nat.mul_le_mul_right k hGn
  clear hROW
  obtain ⟨W1, hW1⟩ : ∃ W1, W1 = w.drew.alloc (.cells ROW (ρ.t 9)) := ⟨_, rfl⟩
  rw [← hW1] at hrz
  have hN : ∀ j, j < (n + 1) * k → (W1.cell? ⟨w.heap.size, j, none⟩).isSome = true := fun j hj => by
    rw [hW1, World.cell?_alloc_at (w := w.drew) ROW _ w.heap.size j rfl, Array.getElem?_eq_getElem (by omega)]; rfl
  have hNf : ∀ j, W1.frozen? ⟨w.heap.size, j, none⟩ = false := fun j => by rw [hW1]; exact World.frozen?_alloc_at (w := w.drew) ROW _ w.heap.size j rfl
  have hOb : ∀ j v, w.cell? ⟨b, j, none⟩ = some v → W1.cell? ⟨b, j, none⟩ = some v := fun j v h => by rw [hW1, World.cell?_alloc_past (w := w.drew) _ b j hbw]; exact h
  have hOv : ∀ j v, w.cell? ⟨vb, j, none⟩ = some v → W1.cell? ⟨vb, j, none⟩ = some v := fun j v h => by rw [hW1, World.cell?_alloc_past (w := w.drew) _ vb j hvw]; exact h
  have hcpA : ∀ (W : World), (∀ x, W.cell? x = W1.cell? x) → (∀ x, W.frozen? x = W1.frozen? x) → ∀ ty dc, (Builtin.copy_ #[(ρ.t 24), (ρ.t 24)] ty #[.slice (some ⟨w.heap.size, i * k, none⟩) (n + 1 - i) dc, .slice (some ⟨vb, voff, none⟩) 1 vc]).run P W = .ok (goInt (1 : Nat)) (W.setCells w.heap.size (i * k) vs) := fun W hWc hWf ty dc =>
    run_copy_cellsK W _ _ ty (ρ.t 9) w.heap.size (i * k) (n + 1 - i) dc ⟨vb, voff, none⟩ 1 vc k 1 vs L.t24 hsz (by simp only [Nat.min_def]; split <;> omega) (by rw [hvl, Nat.one_mul])
      (fun j v hj => by rw [Addr.add_lit, hWc]; exact hOv _ v (hvs j v hj))
      (fun j hj => by rw [hWc]; exact hN _ (by omega)) (fun j hj => by rw [hWf]; exact hNf _) h1v
  have hGi : ¬ (G = i) := by omega
  have hGim : ¬ (G = i + 1) := by omega
  have hci : ¬ (c = i) := by omega
  have hbN : b ≠ w.heap.size := by omega
  have hdl : (cs.drop (i * k)).length = (n - i) * k := by rw [List.length_drop, hcl, e4]
  have hcpB : ∀ (W : World), (∀ x, W.cell? x = (W1.setCells w.heap.size (i * k) vs).cell? x) → (∀ x, W.frozen? x = (W1.setCells w.heap.size (i * k) vs).frozen? x) → ∀ ty dc sc, (Builtin.copy_ #[(ρ.t 24), (ρ.t 24)] ty #[.slice (some ⟨w.heap.size, (i + 1) * k, none⟩) (n - i) dc, .slice (some ⟨b, off + i * k, none⟩) (n - i) sc]).run P W = .ok (goInt (n - i : Nat)) (W.setCells w.heap.size ((i + 1) * k) (cs.drop (i * k))) := fun W hWc hWf ty dc sc =>
    run_copy_cellsK W _ _ ty (ρ.t 9) w.heap.size ((i + 1) * k) (n - i) dc ⟨b, off + i * k, none⟩ (n - i) sc k (n - i) (cs.drop (i * k)) L.t24 hsz (by simp only [Nat.min_def]; split <;> omega) hdl
      (fun j v hj => by
        rw [Addr.add_lit, hWc, World.cell?_setCells_out _ _ _ _ _ (fun h _ => absurd h hbN), Nat.add_assoc]
        exact hOb _ v (hcs (i * k + j) v (by rwa [List.getElem?_drop] at hj)))
      (fun j hj => by rw [hWc]; exact isSome_setCells _ _ _ _ (fun t ht => hN _ (by omega)) _ (hN _ (by omega)))
      (fun j hj => by rw [hWf, World.frozen?_setCells]; exact hNf _) (fun v hv => h1c v (List.mem_of_mem_drop hv))
  subst hW1
  have hE1 : ∀ x, ((w.alloc (.cells ROW (ρ.t 9))).drew).cell? x = (w.drew.alloc (.cells ROW (ρ.t 9))).cell? x := fun x => rfl
  have hE2 : ∀ x, ((w.alloc (.cells ROW (ρ.t 9))).drew).frozen? x = (w.drew.alloc (.cells ROW (ρ.t 9))).frozen? x := fun x => rfl
  have hF1 : ∀ x, (((w.alloc (.cells ROW (ρ.t 9))).drew.setCells w.heap.size (i * k) vs).drew).cell? x = ((w.drew.alloc (.cells ROW (ρ.t 9))).setCells w.heap.size (i * k) vs).cell? x := fun x => rfl
  have hF2 : ∀ x, (((w.alloc (.cells ROW (ρ.t 9))).drew.setCells w.heap.size (i * k) vs).drew).frozen? x = ((w.drew.alloc (.cells ROW (ρ.t 9))).setCells w.heap.size (i * k) vs).frozen? x := fun x => rfl
  have hw1 : IntKind.i64.wrap ((i : Int) + 1) = (i : Int) + 1 := by rw [IntKind.wrap_i64]; omega
  have hw2 : IntKind.i64.wrap ((n : Int) + 1) = (n : Int) + 1 := by rw [IntKind.wrap_i64]; omega
  have hw3 : IntKind.i64.wrap ((n : Int) + 1 - (i : Int)) = ((n + 1 - i : Nat) : Int) := by rw [hw2] at hkk; exact hkk
  have hb1 : (0 : Int) ≤ (i : Int) + 1 := by omega
  have hin : i ≤ n := by omega
  have htn : ((i : Int) + 1).toNat = i + 1 := by omega
  have hb3 : (i : Int) ≤ (n : Int) := by omega
  clear hkk hik hold hG hRl e1 e2 e3 e4 hN hNf hOb hOv hdl hcs hvs hz0
  obtain ⟨nm, _, F22⟩ := L.f22
  go_enter F22, Body2.n22_ntmps ρ
  go_wp2_with (first
    | (at_builtin; refine Lib.wpList_append_run _ rfl _ _ _ _ rfl _ _ rfl rfl _ _ (hrz _) ?_)
    | (at_builtin; refine wpList_copy_runI _ rfl _ _ (ρ.t 24) (ρ.t 24) rfl _ _ rfl rfl (hcpA _ hE1 hE2 _ _) ?_)
    | (at_builtin; refine wpList_copy_runI _ rfl _ _ (ρ.t 24) (ρ.t 24) rfl _ _ rfl rfl (hcpB _ (fun _ => rfl) (fun _ => rfl) _ _ _) ?_))
  go_region_law_o (refine step_copy_runI rfl _ _ (ρ.t 24) (ρ.t 24) rfl (.slice (some ⟨w.heap.size, (i + 1) * k, none⟩) (n - i) (G - (i + 1))) (.slice (some ⟨b, off + i * k, none⟩) (n - i) (c - i)) (by simp [Act.eval, Act.put]) (by simp [Act.eval, Act.put]) (hcpB _ hF1 hF2 (ρ.t 3) (G - (i + 1)) (c - i)) ?_)
  go_wp2
  go_ret
  exact ⟨rfl, ROW, hRs, hRi, rfl⟩
end Go.Proofs.YtokephobkllfgaaIn
