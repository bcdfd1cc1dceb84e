/- What is laid here: the library's contract of slices.Sort on numbers, told as a contract over shapes. No condition. -/
import Derived.Test.YtpndjpjpmcehbaaTk2
import Derived.Shelf.Small.Bits
import Derived.Shelf.Sort.Plain
import Derived.Ground.NamesProg
namespace Go.Proofs.YtpndjpjpmcehbaaBi
open Go Go.Proofs Go.Shelf Go.Sort Go.RowKit Go.Proofs.YtpndjpjpmcehbaaEv Go.Proofs.YtpndjpjpmcehbaaTk
def laysSort_ren : Go.Shelf.Ren := ⟨fun | 189 => 102 | 125 => 132 | 257 => 131 | 128 => 152 | 129 => 153 | 294 => 143 | 295 => 144 | 296 => 145 | 297 => 146 | 298 => 147 | 299 => 148 | 216 => 149 | 300 => 150 | 301 => 151 | 328 => 170 | 329 => 171 | 330 => 172 | 331 => 173 | 332 => 174 | 215 => 138 | 343 => 181 | n => n, fun | 28 => 24 | 3 => 3 | 46 => 160 | 0 => 0 | 51 => 178 | 53 => 180 | 4 => 4 | 183 => 184 | 182 => 183 | 131 => 189 | 5 => 5 | 9 => 9 | 218 => 201 | 222 => 205 | 228 => 211 | 229 => 212 | n => n, fun | n => n⟩
theorem laysSort : Go.Proofs.Lays.n189 Try.prog laysSort_ren := {
  mixed := by kernel_rfl
  f125 := Try.func132.trans (congrArg some (by kernel_rfl))
  f128 := Try.func152.trans (congrArg some (by kernel_rfl))
  f129 := Try.func153.trans (congrArg some (by kernel_rfl))
  f189 := Try.func102.trans (congrArg some (by kernel_rfl))
  f215 := Try.func138.trans (congrArg some (by kernel_rfl))
  f216 := Try.func149.trans (congrArg some (by kernel_rfl))
  f257 := Try.func131.trans (congrArg some (by kernel_rfl))
  f294 := Try.func143.trans (congrArg some (by kernel_rfl))
  f295 := Try.func144.trans (congrArg some (by kernel_rfl))
  f296 := Try.func145.trans (congrArg some (by kernel_rfl))
  f297 := Try.func146.trans (congrArg some (by kernel_rfl))
  f298 := Try.func147.trans (congrArg some (by kernel_rfl))
  f299 := Try.func148.trans (congrArg some (by kernel_rfl))
  f300 := Try.func150.trans (congrArg some (by kernel_rfl))
  f301 := Try.func151.trans (congrArg some (by kernel_rfl))
  f328 := Try.func170.trans (congrArg some (by kernel_rfl))
  f329 := Try.func171.trans (congrArg some (by kernel_rfl))
  f330 := Try.func172.trans (congrArg some (by kernel_rfl))
  f331 := Try.func173.trans (congrArg some (by kernel_rfl))
  f332 := Try.func174.trans (congrArg some (by kernel_rfl))
  f343 := Try.func181.trans (congrArg some (by kernel_rfl))
  t0 := Try.underlying0
  a0 := Try.isAgg0
  z0 := Try.sizeOf0
  v0 := Try.zeroValue0
  t3 := Try.underlying3
  a3 := Try.isAgg3
  z3 := Try.sizeOf3
  v3 := Try.zeroValue3
  t4 := Try.underlying4
  a4 := Try.isAgg4
  z4 := Try.sizeOf4
  v4 := Try.zeroValue4
  t5 := Try.underlying5
  a5 := Try.isAgg5
  z5 := Try.sizeOf5
  v5 := Try.zeroValue5
  t9 := Try.underlying9
  a9 := Try.isAgg9
  z9 := Try.sizeOf9
  v9 := Try.zeroValue9
  t28 := Try.underlying24
  a28 := Try.isAgg24
  z28 := Try.sizeOf24
  v28 := Try.zeroValue24
  t46 := Try.underlying160
  a46 := Try.isAgg160
  z46 := Try.sizeOf160
  v46 := Try.zeroValue160
  t51 := Try.underlying178
  a51 := Try.isAgg178
  z51 := Try.sizeOf178
  v51 := Try.zeroValue178
  t53 := Try.underlying180
  a53 := Try.isAgg180
  z53 := Try.sizeOf180
  v53 := Try.zeroValue180
  t131 := Try.underlying189
  a131 := Try.isAgg189
  z131 := Try.sizeOf189
  v131 := Try.zeroValue189
  t182 := Try.underlying183
  a182 := Try.isAgg183
  z182 := Try.sizeOf183
  v182 := Try.zeroValue183
  t183 := Try.underlying184
  a183 := Try.isAgg184
  z183 := Try.sizeOf184
  v183 := Try.zeroValue184
  t218 := Try.underlying201
  a218 := Try.isAgg201
  z218 := Try.sizeOf201
  v218 := Try.zeroValue201
  t222 := Try.underlying205
  a222 := Try.isAgg205
  z222 := Try.sizeOf205
  v222 := Try.zeroValue205
  t228 := Try.underlying211
  a228 := Try.isAgg211
  z228 := Try.sizeOf211
  v228 := Try.zeroValue211
  t229 := Try.underlying212
  a229 := Try.isAgg212
  z229 := Try.sizeOf212
  v229 := Try.zeroValue212 }
abbrev iI : Shp := .s (.io I)
def srt (l : List Int) : List Int := l.mergeSort fun x y => decide (x ≤ y)
theorem srt_len (l : List Int) : (srt l).length = l.length := List.length_mergeSort _
theorem flat_I : ∀ (l : List Int), l.flatMap (Kd.vals I) = l.map (Value.int .i64)
  | [] => rfl
  | x :: r => by rw [List.flatMap_cons, List.map_cons, flat_I r]; rfl
theorem row_cs {o : Bool} {l : List Int} {q : Nat} {x : Int} (h : l[q]? = some x) : (Blk.row o I l).cs[q]? = some (.sc (.int .i64 x)) := by
  show (scs (l.flatMap (Kd.vals I)))[q]? = _
  rw [flat_I]
  simp [scs, h]
theorem row_cs' {o : Bool} {l : List Int} {q : Nat} {p : PV} (h : (Blk.row o I l).cs[q]? = some p) : ∃ x, l[q]? = some x ∧ p = .sc (.int .i64 x) := by
  change (scs (l.flatMap (Kd.vals I)))[q]? = _ at h
  rw [flat_I] at h
  simp [scs] at h
  obtain ⟨x, h1, h2⟩ := h
  exact ⟨x, h1, h2.symm⟩
theorem sort_at (blk off cap : Nat) (zs : List Int) (w : World) (hH : Holds (Value.int .i64) w blk off zs.toArray) (hblk : blk < w.heap.size) (hsz : zs.length < 4611686018427387904) :
    Calls Try.prog 102 #[.slice (some ⟨blk, off, none⟩) zs.length cap] w fun e w' => e = .returned (.tuple #[]) ∧ ∃ n os, w' = grow (putRow (Value.int .i64) (Sort.ahead w n) blk off (srt zs).toArray) os :=
  Any.slices_Sort_int laysSort blk off cap zs w hH hblk hsz
theorem e102 : EntOK Try.prog 102 (entV [iI] (spec1 [iI] [] (fun v => decide (1 ≤ v.1.1.length ∧ v.1.1.length ≤ 1000)) (fun _ => ()) fun v => (srt v.1.1, ()))) := by
  refine entV_ok Try.call102 ?_
  rintro ⟨⟨zs, nl⟩, ⟨⟩⟩ hv r H' hp
  have hv : 1 ≤ zs.length ∧ zs.length ≤ 1000 := of_decide_eq_true hv
  have hp : (some (PV.tup [], [Blk.row true I (srt zs)]) : Option (PV × List Blk)) = some (r, H') := hp
  obtain ⟨rfl, rfl⟩ := Prod.mk.inj (Option.some.inj hp)
  intro m w vs hm hB hd hvs
  have hvs : Rvs m [PV.sl 0 0 1 zs.length zs.length false nl] vs := hvs
  have hB : ∀ i B, getB [Blk.row true I zs] i = some B → BRep m w i B := hB
  have hm : ∀ i, 1 ≤ i → m i = none := hm
  obtain ⟨v, rfl, hv1⟩ := Rvs.of_one hvs
  unfold Rv at hv1
  rcases hv1 with ⟨_, h0, _⟩ | ⟨_, b, base, t, cap, off, h1, rfl, h2, h3, _, h5, h6⟩
  · omega
  have h5 := h5 (by omega)
  rw [Nat.zero_mul, Nat.add_zero] at h5
  subst h5
  rcases hB 0 _ rfl with h | ⟨h, _⟩ | ⟨b', base', t', c, e, fz, g1, g2, g3, g4, g5⟩
  · cases h
  · rw [h] at h1; cases h1
  rw [g1] at h1
  obtain ⟨rfl, rfl, rfl⟩ : b' = b ∧ base' = off ∧ t' = t := by simpa using h1
  have hfz : fz = (0, 0) := g4 rfl
  subst hfz
  have hb : b' < w.heap.size := (Array.getElem?_eq_some_iff.1 g2).1
  have hc : ∀ q x, zs[q]? = some x → c[base' + q]? = some (.int .i64 x) := fun q x hq => by
    obtain ⟨u, hu, hr⟩ := g5 q (.sc (.int .i64 x)) (row_cs hq)
    rw [hu, Rv_sc.1 hr]
  have hH : Holds (Value.int .i64) w b' base' zs.toArray := by
    intro j hj
    have hj : j < zs.length := by simpa using hj
    have e1 : zs[j]? = some zs[j] := List.getElem?_eq_getElem hj
    have e2 : zs.toArray[j]! = zs[j] := by rw [getElem!_pos _ j (by simpa using hj)]; simp
    have e3 := hc j _ e1
    rw [e2]
    constructor
    · unfold World.cell?
      show (match w.heap[b']? with | some (.cells c _ _) => if (none : Option _).isSome then none else c[base' + j]? | _ => none) = _
      rw [g2]; exact e3
    · unfold World.frozen?
      show (match w.heap[b']? with | some (.cells _ _ (lo, hi)) => decide (lo ≤ base' + j) && decide (base' + j < hi) | _ => false) = _
      rw [g2]; simp
  refine Calls.mono (sort_at b' base' cap zs w hH hb (by omega)) ?_
  rintro ee w' ⟨rfl, n, os, rfl⟩
  have hh : (grow (putRow (Value.int .i64) (Sort.ahead w n) b' base' (srt zs).toArray) os).heap[b']? = some (.cells (putCells (Value.int .i64) base' (srt zs).toArray c) e (0, 0)) := by
    show (Array.modify w.heap b' (onCells (putCells (Value.int .i64) base' (srt zs).toArray)) ++ os)[b']? = _
    rw [Array.getElem?_append_left (by simpa using hb), Array.getElem?_modify, if_pos rfl, g2]; rfl
  have ho : ∀ k, k < w.heap.size → k ≠ b' → (grow (putRow (Value.int .i64) (Sort.ahead w n) b' base' (srt zs).toArray) os).heap[k]? = w.heap[k]? := fun k hk hne => by
    show (Array.modify w.heap b' (onCells (putCells (Value.int .i64) base' (srt zs).toArray)) ++ os)[k]? = _
    rw [Array.getElem?_append_left (by simpa using hk), Array.getElem?_modify, if_neg (fun e => hne e.symm)]
  refine ⟨_, m, rfl, ⟨by unfold Rv; exact ⟨[], rfl, rfl⟩, fun i _ => rfl, fun i hi => hm i hi, ?_, Nat.le_refl _, ?_, ?_, ?_, ?_⟩⟩
  · intro i B h
    cases i with
    | succ i => simp [getB] at h
    | zero =>
      obtain rfl : Blk.row true I (srt zs) = B := by simpa [getB] using h
      refine Or.inr (Or.inr ⟨b', base', t', _, e, (0, 0), g1, hh, ?_, fun _ => rfl, ?_⟩)
      · rw [← g3]; simp [putCells]
      · intro q p hq
        obtain ⟨x, hx, rfl⟩ := row_cs' hq
        refine ⟨_, ?_, Rv_sc.2 rfl⟩
        have hq2 : q < (srt zs).length := (List.getElem?_eq_some_iff.1 hx).1
        obtain ⟨y, hy⟩ : ∃ y, zs[q]? = some y := ⟨_, List.getElem?_eq_getElem (by rw [srt_len] at hq2; exact hq2)⟩
        have hcs := (Array.getElem?_eq_some_iff.1 (hc q y hy)).1
        unfold putCells
        rw [Array.getElem?_mapIdx, Array.getElem?_eq_getElem hcs]
        simp only [Option.map_some]
        rw [if_pos ⟨by omega, by simpa using hq2⟩, show base' + q - base' = q by omega, getElem!_pos _ q (by simpa using hq2)]
        have := (List.getElem?_eq_some_iff.1 hx).2
        simp [this]
  · intro i B hi h hn
    cases i with
    | succ i => simp [getB] at h
    | zero =>
      obtain rfl : Blk.row true I (srt zs) = B := by simpa [getB] using h
      exact ⟨.row true I zs, rfl, by simp, rfl⟩
  · intro i b2 base2 t2 B hi h
    cases i with
    | succ i => simp [getB] at h
    | zero => exact absurd (show 1 ≤ 0 from hi) (by decide)
  · intro i j b2 base2 t2 base3 t3 B B2 hi hj h
    cases i with
    | succ i => simp [getB] at h
    | zero => exact absurd (show 1 ≤ 0 from hi) (by decide)
  · refine ⟨rfl, rfl, rfl, ?_, fun k hk hn => ho k hk (fun e => hn ⟨0, .row true I zs, base', t', rfl, rfl, by rw [e]; exact g1⟩)⟩
    show w.heap.size ≤ (Array.modify w.heap b' (onCells (putCells (Value.int .i64) base' (srt zs).toArray)) ++ os).size
    simp
end Go.Proofs.YtpndjpjpmcehbaaBi
