/- What is proved: strconv.Itoa at the given program, out of the library's contract, as an entry of the evaluator's tables. Condition: the table of powers of ten lies as the world is said to hold it. -/
import Derived.Test.YtokephobkllfgaaDoorEvZg
import Derived.Test.YtokephobkllfgaaDoorEvZh
import Derived.Test.YtokephobkllfgaaDoorProg
import Derived.Shelf.Strconv.Itoa3
import Derived.Ground.NamesProg
namespace Go.Proofs.YtokephobkllfgaaDoorRb
open Go Go.Proofs Go.Shelf Go.Proofs.YtokephobkllfgaaDoorEv
def laysI_ren : Go.Shelf.Ren := ⟨fun | 171 => 37 | 243 => 56 | 246 => 71 | 283 => 78 | 284 => 79 | 285 => 80 | 286 => 81 | 129 => 95 | 317 => 94 | 318 => 96 | 319 => 97 | 320 => 98 | 337 => 108 | 338 => 109 | n => n, fun | 3 => 3 | 9 => 9 | 2 => 2 | 4 => 4 | 171 => 101 | 0 => 0 | 53 => 30 | 37 => 59 | 5 => 5 | 173 => 104 | 212 => 114 | 51 => 115 | 20 => 20 | 213 => 116 | 46 => 61 | 232 => 139 | 233 => 140 | n => n, fun | 17 => 1 | 18 => 6 | 19 => 7 | n => n⟩
theorem laysI : Go.Proofs.LaysM.n171 Tryd.prog laysI_ren := {
  mixed := by kernel_rfl
  f129 := Tryd.func95.trans (congrArg some (by kernel_rfl))
  f171 := Tryd.func37.trans (congrArg some (by kernel_rfl))
  f243 := Tryd.func56.trans (congrArg some (by kernel_rfl))
  f246 := Tryd.func71.trans (congrArg some (by kernel_rfl))
  f283 := Tryd.func78.trans (congrArg some (by kernel_rfl))
  f284 := Tryd.func79.trans (congrArg some (by kernel_rfl))
  f285 := Tryd.func80.trans (congrArg some (by kernel_rfl))
  f286 := Tryd.func81.trans (congrArg some (by kernel_rfl))
  f317 := Tryd.func94.trans (congrArg some (by kernel_rfl))
  f318 := Tryd.func96.trans (congrArg some (by kernel_rfl))
  f319 := Tryd.func97.trans (congrArg some (by kernel_rfl))
  f320 := Tryd.func98.trans (congrArg some (by kernel_rfl))
  f337 := Tryd.func108.trans (congrArg some (by kernel_rfl))
  f338 := Tryd.func109.trans (congrArg some (by kernel_rfl))
  t0 := Tryd.underlying0
  a0 := Tryd.isAgg0
  z0 := Tryd.sizeOf0
  v0 := Tryd.zeroValue0
  t2 := Tryd.underlying2
  a2 := Tryd.isAgg2
  z2 := Tryd.sizeOf2
  v2 := Tryd.zeroValue2
  t3 := Tryd.underlying3
  a3 := Tryd.isAgg3
  z3 := Tryd.sizeOf3
  v3 := Tryd.zeroValue3
  t4 := Tryd.underlying4
  a4 := Tryd.isAgg4
  z4 := Tryd.sizeOf4
  v4 := Tryd.zeroValue4
  t5 := Tryd.underlying5
  a5 := Tryd.isAgg5
  z5 := Tryd.sizeOf5
  v5 := Tryd.zeroValue5
  t9 := Tryd.underlying9
  a9 := Tryd.isAgg9
  z9 := Tryd.sizeOf9
  v9 := Tryd.zeroValue9
  t20 := Tryd.underlying20
  a20 := Tryd.isAgg20
  z20 := Tryd.sizeOf20
  v20 := Tryd.zeroValue20
  t37 := Tryd.underlying59
  a37 := Tryd.isAgg59
  z37 := Tryd.sizeOf59
  v37 := Tryd.zeroValue59
  t46 := Tryd.underlying61
  a46 := Tryd.isAgg61
  z46 := Tryd.sizeOf61
  v46 := Tryd.zeroValue61
  t51 := Tryd.underlying115
  a51 := Tryd.isAgg115
  z51 := Tryd.sizeOf115
  v51 := Tryd.zeroValue115
  t53 := Tryd.underlying30
  a53 := Tryd.isAgg30
  z53 := Tryd.sizeOf30
  v53 := Tryd.zeroValue30
  t171 := Tryd.underlying101
  a171 := Tryd.isAgg101
  z171 := Tryd.sizeOf101
  v171 := Tryd.zeroValue101
  t173 := Tryd.underlying104
  a173 := Tryd.isAgg104
  z173 := Tryd.sizeOf104
  v173 := Tryd.zeroValue104
  t212 := Tryd.underlying114
  a212 := Tryd.isAgg114
  z212 := Tryd.sizeOf114
  v212 := Tryd.zeroValue114
  t213 := Tryd.underlying116
  a213 := Tryd.isAgg116
  z213 := Tryd.sizeOf116
  t232 := Tryd.underlying139
  a232 := Tryd.isAgg139
  z232 := Tryd.sizeOf139
  v232 := Tryd.zeroValue139
  t233 := Tryd.underlying140
  a233 := Tryd.isAgg140
  z233 := Tryd.sizeOf140
  v233 := Tryd.zeroValue140
  g17 := by kernel_rfl
  g18 := by kernel_rfl
  g19 := by kernel_rfl
  i0 := by kernel_rfl
  i2 := by kernel_rfl
  i3 := by kernel_rfl
  i4 := by kernel_rfl
  i5 := by kernel_rfl
  i9 := by kernel_rfl
  i20 := by kernel_rfl
  i37 := by kernel_rfl
  i46 := by kernel_rfl
  i51 := by kernel_rfl
  i53 := by kernel_rfl
  i171 := by kernel_rfl
  i173 := by kernel_rfl
  i212 := by kernel_rfl
  i232 := by kernel_rfl
  i233 := by kernel_rfl
  m17 := by kernel_rfl
  m18 := by kernel_rfl
  m19 := by kernel_rfl }
def itoS (n : Int) : ByteArray := ⟨(Lib.itoa n).toArray⟩
theorem gw_pow {w : World} (h : GW w) : Lib.TabIs Tryd.prog w "internal/strconv.uint64pow10" .u64 Lib.pow10Tab := by
  obtain ⟨el, fz, e⟩ := h.2 1 (.u64, [1, 10, 100, 1000, 10000, 100000, 1000000, 10000000, 100000000, 1000000000, 10000000000, 100000000000, 1000000000000, 10000000000000, 100000000000000, 1000000000000000, 10000000000000000, 100000000000000000, 1000000000000000000, 10000000000000000000]) (by unfold gTab; exact List.mem_cons_self)
  unfold Lib.TabIs World.var?
  rw [show Tryd.prog.globalNamed "internal/strconv.uint64pow10" = some 1 by kernel_rfl]
  simp only [Option.bind_some]
  rw [e]
  exact congrArg some (by kernel_rfl)
abbrev sI' : Shp := .s (.v ⟨false, .int .i64⟩)
abbrev sS' : Shp := .s (.v ⟨false, .str⟩)
theorem e37 : EntOK Tryd.prog 37 (entV [sI'] (specP [sI'] [sS'] (fun v => bp (-9223372036854775808 ≤ v.1 ∧ v.1 ≤ 9223372036854775807)) fun v => (itoS v.1, ()))) := by
  refine entV_ok Tryd.call37 ?_
  rintro ⟨x, ⟨⟩⟩ hv r H' hp
  have hv := bp_true.1 hv
  have hp : (some (PV.sc (.string (itoS x)), []) : Option (PV × List Blk)) = some (r, H') := hp
  obtain ⟨rfl, rfl⟩ := Prod.mk.inj (Option.some.inj hp)
  intro m w vs hm _ hd hvs
  have hvs : Rvs m [PV.sc (.int .i64 x)] vs := hvs
  obtain ⟨v, rfl, hv1⟩ := Rvs.of_one hvs
  obtain rfl := Rv_sc.1 hv1
  refine Calls.mono (Any.strconv_Itoa laysI x hv.1 hv.2 w (gw_pow hd.gw)) ?_
  rintro e w' ⟨rfl, k, os, rfl⟩
  refine ⟨_, m, rfl, Rv_sc.2 rfl, fun i _ => rfl, fun i _ => hm i (Nat.zero_le i), fun i B h => by simp [getB] at h, Nat.zero_le _, fun i B h => absurd h (Nat.not_lt_zero i), fun i b base t B _ h => by simp [getB] at h, fun i j b base t b2 t2 B B2 _ _ h => by simp [getB] at h, ?_⟩
  refine ⟨rfl, rfl, rfl, ?_, fun k hk _ => ?_, ?_⟩
  · simp [Go.Sort.grow, World.drewN]
  · simp only [Go.Sort.grow, World.drewN] at hk ⊢
    rw [Array.getElem?_append_left hk]
  · simp [Go.Sort.grow, World.drewN]
end Go.Proofs.YtokephobkllfgaaDoorRb
