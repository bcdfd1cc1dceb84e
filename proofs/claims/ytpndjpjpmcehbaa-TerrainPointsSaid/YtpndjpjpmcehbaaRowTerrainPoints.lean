/- What is proved: the law TerrainPoints returns true for every input that can be read, and each argument reads behind the call as it read before; out of its pure statement and the printed contract. No condition. -/
import Derived.Test.YtpndjpjpmcehbaaRows
import Derived.Test.YtpndjpjpmcehbaaPTerrainPointsx8
import Derived.Test.YtpndjpjpmcehbaaPureTerrainPoints
import Derived.Test.YtpndjpjpmcehbaaOpens
import Derived.WalkKit
import Derived.ProofKit
import Derived.OpenShut
import Derived.ShutString
import Derived.ChangeOld
import Derived.Below
import Derived.SizedLaws
namespace Go.Proofs.Ytpndjpjpmcehbaa.terrainPoints
open Go.ChangeShapes Go.WideShapes Go.ChangeAt Go.RowKit Go.Proofs.Ytpndjpjpmcehbaa.Open Go.Proofs.YtpndjpjpmcehbaaW.PrintWords Go.Proofs.YtpndjpjpmcehbaaW.PrintLast Go.Proofs.YtpndjpjpmcehbaaW.PrintMore Go.Proofs.Ytpndjpjpmcehbaa.PTerrainPoints
open Go.ChangeMaps (open_string shut_string)
set_option linter.unusedVariables false
theorem own : ownKnob Try.prog.godebug = none := by kernel_rfl
theorem laidOut : laidOutB Try.prog = true := by kernel_rfl
theorem op23 {H : Type} (enc : TypeId × Value → H) (W : World) : Opens enc Try.prog W 23 (Kd.pair (Kd.int .i64) (Kd.int .i64)) (both (gInt .i64) (gInt .i64)) :=
    (opens_struct Try.underlying23 (by kernel_rfl) (opensF_cons rfl (opens_int Try.underlying3 (by kernel_rfl))
      (opensF_one rfl (opens_int Try.underlying3 (by kernel_rfl)))))
theorem op26 {H : Type} (enc : TypeId × Value → H) (W : World) : Opens enc Try.prog W 26 (Kd.pair (Kd.pair (Kd.int .i64) (Kd.int .i64)) (Kd.pair (Kd.int .i64) (Kd.pair (Kd.int .i64) (Kd.pair (Kd.int .i64) (Kd.slice 3 (Kd.int .i64)))))) (both (both (gInt .i64) (gInt .i64)) (both (gInt .i64) (both (gInt .i64) (both (gInt .i64) (gSlice 8 (gInt .i64)))))) :=
    (opens_struct Try.underlying26 (by kernel_rfl) (opensF_cons rfl (op23 _ _)
      (opensF_cons rfl (opens_int Try.underlying3 (by kernel_rfl))
      (opensF_cons rfl (opens_int Try.underlying3 (by kernel_rfl))
      (opensF_cons rfl (opens_int Try.underlying3 (by kernel_rfl))
      (opensF_one rfl (opens_slice Try.underlying24 (by kernel_rfl) (show Try.prog.bytesOf 3 = 8 by kernel_rfl) (opens_int Try.underlying3 (by kernel_rfl)))))))))
set_option maxRecDepth 100000 in
theorem lifted (os : Os) (started : os.Started) (H : Type) (enc : TypeId × Value → H) :
    ReturnsInHanded {} Try.checked os 3 .any (Rows.terrainPointsSpec.pre6 enc Try.prog Try.f3 Rows.terrainPointsRow.domain false) (Rows.terrainPointsSpec.post enc Try.prog Try.f3 false true false false) := by
  refine returnsInHanded_of_change_sized (C := Try.checked) own started (by kernel_rfl) Try.func3
    (ChangeSpec.witness6 (enc := enc) (C := Try.checked) false ⟨#[], #[.agg #[.int .i64 0, .int .i64 0, .int .i64 0, .int .i64 0, .int .i64 0, .slice none 0 0], .agg #[.int .i64 0, .int .i64 0], .int .i64 0], []⟩ 8 (by kernel_rfl) (by kernel_rfl) (by kernel_rfl) (by kernel_rfl)) ?_
  intro W base args ds gs before hval0 hW hcnd hsz0 _
  have hsz : (DataW.weightsEach Try.prog (Try.f3.params.toList ++ Rows.terrainPointsSpec.plain.varTypes Try.prog) (ds ++ gs)).all (· ≤ reachBytes) = true := hsz0
  have hval : ∀ (j : Nat) t v, Try.f3.params[j]? = some t → args[j]? = some v → Value.okWide Try.prog W .any base t v := hval0
  have hW' := hW
  obtain ⟨p, q, hA0, hV, rfl, hfz, hnd⟩ := hW
  have hA : DataW.TrodAll enc Try.prog W 0 (fun _ => true) true Try.f3.params.toList args.toList ds p := hA0
  rw [Try.params3] at hA hval hsz
  obtain ⟨v0, vs0, d0, ds0, p0, q0, hargs, rfl, rfl, h0, r0⟩ := trodAll_cons hA
  obtain ⟨v1, vs1, d1, ds1, p1, q1, rfl, rfl, rfl, h1, r1⟩ := trodAll_cons r0
  obtain ⟨v2, vs2, d2, ds2, p2, q2, rfl, rfl, rfl, h2, r2⟩ := trodAll_cons r1
  obtain ⟨rfl, rfl, rfl⟩ := trodAll_nil r2
  obtain rfl : args = #[v0, v1, v2] := by cases args; simp_all
  obtain ⟨rfl, rfl⟩ := trodVars_none hV
  have k0 := h0
  have lt0 : ∀ x ∈ p0, x.block < W.heap.size := by obtain ⟨m, hm⟩ := k0; exact DataW.trod_lt m _ _ _ hm
  obtain ⟨cs0, rfl, _⟩ := okWide_struct Try.underlying26 (hval 0 26 v0 rfl rfl)
  obtain ⟨⟨⟨a0_0, a0_1⟩, ⟨a0_2, ⟨a0_3, ⟨a0_4, l0_5⟩⟩⟩⟩, HK0, HG0⟩ := opens_arg (op26 _ _) hsz (j := 0) (t := 26) rfl rfl h0
  obtain ⟨_, _, E0, ⟨_, _, rfl, rfl, rfl⟩, ⟨_, _, rfl, rfl, ⟨_, _, rfl, rfl, ⟨_, _, rfl, rfl, ⟨A0_5, c0_5, rfl, hc0_5, hr0_5⟩⟩⟩⟩⟩ := HK0
  obtain rfl : cs0 = #[.int .i64 a0_0, .int .i64 a0_1, .int .i64 a0_2, .int .i64 a0_3, .int .i64 a0_4, .slice A0_5 l0_5.length c0_5] := by apply Array.ext'; simpa [Value.cells] using E0
  obtain ⟨⟨w0_0_0, w0_0_1⟩, w0_1, w0_2, w0_3, w0_4⟩ := HG0
  have k1 := h1
  have lt1 : ∀ x ∈ p1, x.block < W.heap.size := by obtain ⟨m, hm⟩ := k1; exact DataW.trod_lt m _ _ _ hm
  obtain ⟨cs1, rfl, _⟩ := okWide_struct Try.underlying23 (hval 1 23 v1 rfl rfl)
  obtain ⟨⟨a1_0, a1_1⟩, HK1, HG1⟩ := opens_arg (op23 _ _) hsz (j := 1) (t := 23) rfl rfl h1
  obtain ⟨_, _, E1, rfl, rfl⟩ := HK1
  obtain rfl : cs1 = #[.int .i64 a1_0, .int .i64 a1_1] := by apply Array.ext'; simpa [Value.cells] using E1
  obtain ⟨w1_0, w1_1⟩ := HG1
  obtain ⟨a2, rfl, rfl, rfl, w2⟩ := open_int Try.underlying3 (hval 2 3 v2 rfl rfl) h2
  clear hA0 hval0 hsz0 hsz
  obtain ⟨k, h⟩ := Pure.TerrainPoints a0_0 a0_1 a0_2 a0_3 a0_4 l0_5 a1_0 a1_1 a2 w0_0_0 w0_0_1 w0_1 w0_2 w0_3 w0_4 w1_0 w1_1 w2
  refine (skywaylaw2_TerrainPoints.calls k a0_0 a0_1 a0_2 a0_3 a0_4 A0_5 c0_5 l0_5 a1_0 a1_1 a2 true W hr0_5 hc0_5 h).mono fun e W' ⟨he, bel⟩ => ?_
  subst he
  exact ⟨_, rfl, _, _, _, [], _, [], hW', trodAll_mk1 (shut_bool Try.underlying4 _), (trodAll_cons_mk (Below.trod laidOut (by kernel_rfl) (of_decide_eq_true (by kernel_rfl)) k0 bel lt0) (trodAll_cons_mk (Below.trod laidOut (by kernel_rfl) (of_decide_eq_true (by kernel_rfl)) k1 bel lt1) (trodAll_cons_mk (shut_int Try.underlying3 w2) trodAll_mk0))), rfl, bel.frame _, fun h => by cases h⟩
theorem over : Rows.terrainPointsRow.holds Try.pinned (OpenSpec.ofChange Rows.terrainPointsSpec) :=
  OpenClaim.holds_of_wide 3 Try.f3 rfl rfl rfl rfl rfl rfl rfl ⟨rfl, rfl, rfl, rfl, rfl⟩ rfl rfl rfl rfl rfl (by kernel_rfl) Try.func3 (by kernel_rfl)
    (of_decide_eq_true (by kernel_rfl)) (by unfold Func.isWrapper; rw [if_neg (of_decide_eq_false (by kernel_rfl))]; exact ⟨rfl, rfl⟩)
    (fun os started H enc _ => lifted os started H enc)
end Go.Proofs.Ytpndjpjpmcehbaa.terrainPoints
namespace Go.Proofs.Ytpndjpjpmcehbaa
theorem terrainPoints_holds : Rows.TerrainPointsSaid := terrainPoints.over
end Go.Proofs.Ytpndjpjpmcehbaa
