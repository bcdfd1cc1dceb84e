/- What is proved: the law GateFits returns true for every input that can be read, and each argument reads behind the call as it read before; out of its pure statement and the printed contract. No condition. -/
import Derived.Test.YtlaaeighanknpaaRows
import Derived.Test.YtlaaeighanknpaaGGateFits
import Derived.Test.YtlaaeighanknpaaPureGateFits
import Derived.Test.YtlaaeighanknpaaOpens
import Derived.WalkKit
import Derived.ProofKit
import Derived.OpenShut
import Derived.ShutString
import Derived.ChangeOld
import Derived.Below
import Derived.SizedLaws
namespace Go.Proofs.Ytlaaeighanknpaa.gateFits
open Go.ChangeShapes Go.WideShapes Go.ChangeAt Go.RowKit Go.Proofs.Ytlaaeighanknpaa.Open Go.Proofs.YtlaaeighanknpaaW.PrintWords Go.Proofs.YtlaaeighanknpaaW.PrintLast Go.Proofs.YtlaaeighanknpaaW.PrintMore Go.Proofs.Ytlaaeighanknpaa.PGateFits
open Go.ChangeMaps (open_string shut_string)
set_option linter.unusedVariables false
theorem own : ownKnob Try.prog.godebug = none := by kernel_rfl
theorem laidOut : laidOutB Try.prog = true := by kernel_rfl
theorem op48 {H : Type} (enc : TypeId × Value → H) (W : World) : Opens enc Try.prog W 48 (Kd.pair (Kd.int .i64) (Kd.int .i64)) (both (gInt .i64) (gInt .i64)) :=
    (opens_struct Try.underlying48 (by kernel_rfl) (opensF_cons rfl (opens_int Try.underlying3 (by kernel_rfl))
      (opensF_one rfl (opens_int Try.underlying3 (by kernel_rfl)))))
theorem op67 {H : Type} (enc : TypeId × Value → H) (W : World) : Opens enc Try.prog W 67 (Kd.pair (Kd.int .i64) (Kd.pair (Kd.int .i64) (Kd.pair (Kd.int .i64) (Kd.pair (Kd.pair (Kd.int .i64) (Kd.int .i64)) (Kd.pair (Kd.pair (Kd.int .i64) (Kd.int .i64)) (Kd.pair (Kd.int .i64) (Kd.pair (Kd.int .i64) (Kd.pair (Kd.int .i64) (Kd.pair (Kd.int .i64) (Kd.pair (Kd.int .i64) (Kd.int .i64))))))))))) (both (gInt .i64) (both (gInt .i64) (both (gInt .i64) (both (both (gInt .i64) (gInt .i64)) (both (both (gInt .i64) (gInt .i64)) (both (gInt .i64) (both (gInt .i64) (both (gInt .i64) (both (gInt .i64) (both (gInt .i64) (gInt .i64))))))))))) :=
    (opens_struct Try.underlying67 (by kernel_rfl) (opensF_cons rfl (opens_int Try.underlying3 (by kernel_rfl))
      (opensF_cons rfl (opens_int Try.underlying3 (by kernel_rfl))
      (opensF_cons rfl (opens_int Try.underlying3 (by kernel_rfl))
      (opensF_cons rfl (op48 _ _)
      (opensF_cons rfl (op48 _ _)
      (opensF_cons rfl (opens_int Try.underlying3 (by kernel_rfl))
      (opensF_cons rfl (opens_int Try.underlying3 (by kernel_rfl))
      (opensF_cons rfl (opens_int Try.underlying3 (by kernel_rfl))
      (opensF_cons rfl (opens_int Try.underlying3 (by kernel_rfl))
      (opensF_cons rfl (opens_int Try.underlying3 (by kernel_rfl))
      (opensF_one rfl (opens_int Try.underlying3 (by kernel_rfl))))))))))))))
theorem op69 {H : Type} (enc : TypeId × Value → H) (W : World) : Opens enc Try.prog W 69 (Kd.pair (Kd.int .i64) (Kd.pair (Kd.pair (Kd.int .i64) (Kd.int .i64)) (Kd.pair (Kd.int .i64) (Kd.pair (Kd.int .i64) (Kd.int .i64))))) (both (gInt .i64) (both (both (gInt .i64) (gInt .i64)) (both (gInt .i64) (both (gInt .i64) (gInt .i64))))) :=
    (opens_struct Try.underlying69 (by kernel_rfl) (opensF_cons rfl (opens_int Try.underlying3 (by kernel_rfl))
      (opensF_cons rfl (op48 _ _)
      (opensF_cons rfl (opens_int Try.underlying3 (by kernel_rfl))
      (opensF_cons rfl (opens_int Try.underlying3 (by kernel_rfl))
      (opensF_one rfl (opens_int Try.underlying3 (by kernel_rfl))))))))
set_option maxRecDepth 100000 in
theorem lifted (os : Os) (started : os.Started) (H : Type) (enc : TypeId × Value → H) :
    ReturnsInHanded {} Try.checked os 10 .any (Rows.gateFitsSpec.pre6 enc Try.prog Try.f10 Rows.gateFitsRow.domain false) (Rows.gateFitsSpec.post enc Try.prog Try.f10 false true false false) := by
  refine returnsInHanded_of_change_sized (C := Try.checked) own started (by kernel_rfl) Try.func10
    (ChangeSpec.witness6 (enc := enc) (C := Try.checked) false ⟨#[], #[.agg #[.int .i64 0, .int .i64 0, .int .i64 0, .int .i64 0, .int .i64 0, .int .i64 0, .int .i64 0, .int .i64 0, .int .i64 0, .int .i64 0, .int .i64 0, .int .i64 0, .int .i64 0], .agg #[.int .i64 0, .int .i64 0, .int .i64 0, .int .i64 0, .int .i64 0, .int .i64 0], .int .i64 0, .int .i64 0, .int .i64 0, .int .i64 0], []⟩ 8 (by kernel_rfl) (by kernel_rfl) (by kernel_rfl) (by kernel_rfl)) ?_
  intro W base args ds gs before hval0 hW hcnd hsz0 _
  have hsz : (DataW.weightsEach Try.prog (Try.f10.params.toList ++ Rows.gateFitsSpec.plain.varTypes Try.prog) (ds ++ gs)).all (· ≤ reachBytes) = true := hsz0
  have hval : ∀ (j : Nat) t v, Try.f10.params[j]? = some t → args[j]? = some v → Value.okWide Try.prog W .any base t v := hval0
  have hW' := hW
  obtain ⟨p, q, hA0, hV, rfl, hfz, hnd⟩ := hW
  have hA : DataW.TrodAll enc Try.prog W 0 (fun _ => true) true Try.f10.params.toList args.toList ds p := hA0
  rw [Try.params10] at hA hval hsz
  obtain ⟨v0, vs0, d0, ds0, p0, q0, hargs, rfl, rfl, h0, r0⟩ := trodAll_cons hA
  obtain ⟨v1, vs1, d1, ds1, p1, q1, rfl, rfl, rfl, h1, r1⟩ := trodAll_cons r0
  obtain ⟨v2, vs2, d2, ds2, p2, q2, rfl, rfl, rfl, h2, r2⟩ := trodAll_cons r1
  obtain ⟨v3, vs3, d3, ds3, p3, q3, rfl, rfl, rfl, h3, r3⟩ := trodAll_cons r2
  obtain ⟨v4, vs4, d4, ds4, p4, q4, rfl, rfl, rfl, h4, r4⟩ := trodAll_cons r3
  obtain ⟨v5, vs5, d5, ds5, p5, q5, rfl, rfl, rfl, h5, r5⟩ := trodAll_cons r4
  obtain ⟨rfl, rfl, rfl⟩ := trodAll_nil r5
  obtain rfl : args = #[v0, v1, v2, v3, v4, v5] := by cases args; simp_all
  obtain ⟨rfl, rfl⟩ := trodVars_none hV
  have k0 := h0
  have lt0 : ∀ x ∈ p0, x.block < W.heap.size := by obtain ⟨m, hm⟩ := k0; exact DataW.trod_lt m _ _ _ hm
  obtain ⟨cs0, rfl, _⟩ := okWide_struct Try.underlying67 (hval 0 67 v0 rfl rfl)
  obtain ⟨⟨a0_0, ⟨a0_1, ⟨a0_2, ⟨⟨a0_3, a0_4⟩, ⟨⟨a0_5, a0_6⟩, ⟨a0_7, ⟨a0_8, ⟨a0_9, ⟨a0_10, ⟨a0_11, a0_12⟩⟩⟩⟩⟩⟩⟩⟩⟩⟩, HK0, HG0⟩ := opens_arg (op67 _ _) hsz (j := 0) (t := 67) rfl rfl h0
  obtain ⟨_, _, E0, rfl, ⟨_, _, rfl, rfl, ⟨_, _, rfl, rfl, ⟨_, _, rfl, ⟨_, _, rfl, rfl, rfl⟩, ⟨_, _, rfl, ⟨_, _, rfl, rfl, rfl⟩, ⟨_, _, rfl, rfl, ⟨_, _, rfl, rfl, ⟨_, _, rfl, rfl, ⟨_, _, rfl, rfl, ⟨_, _, rfl, rfl, rfl⟩⟩⟩⟩⟩⟩⟩⟩⟩⟩ := HK0
  obtain rfl : cs0 = #[.int .i64 a0_0, .int .i64 a0_1, .int .i64 a0_2, .int .i64 a0_3, .int .i64 a0_4, .int .i64 a0_5, .int .i64 a0_6, .int .i64 a0_7, .int .i64 a0_8, .int .i64 a0_9, .int .i64 a0_10, .int .i64 a0_11, .int .i64 a0_12] := by apply Array.ext'; simpa [Value.cells] using E0
  obtain ⟨w0_0, w0_1, w0_2, ⟨w0_3_0, w0_3_1⟩, ⟨w0_4_0, w0_4_1⟩, w0_5, w0_6, w0_7, w0_8, w0_9, w0_10⟩ := HG0
  have k1 := h1
  have lt1 : ∀ x ∈ p1, x.block < W.heap.size := by obtain ⟨m, hm⟩ := k1; exact DataW.trod_lt m _ _ _ hm
  obtain ⟨cs1, rfl, _⟩ := okWide_struct Try.underlying69 (hval 1 69 v1 rfl rfl)
  obtain ⟨⟨a1_0, ⟨⟨a1_1, a1_2⟩, ⟨a1_3, ⟨a1_4, a1_5⟩⟩⟩⟩, HK1, HG1⟩ := opens_arg (op69 _ _) hsz (j := 1) (t := 69) rfl rfl h1
  obtain ⟨_, _, E1, rfl, ⟨_, _, rfl, ⟨_, _, rfl, rfl, rfl⟩, ⟨_, _, rfl, rfl, ⟨_, _, rfl, rfl, rfl⟩⟩⟩⟩ := HK1
  obtain rfl : cs1 = #[.int .i64 a1_0, .int .i64 a1_1, .int .i64 a1_2, .int .i64 a1_3, .int .i64 a1_4, .int .i64 a1_5] := by apply Array.ext'; simpa [Value.cells] using E1
  obtain ⟨w1_0, ⟨w1_1_0, w1_1_1⟩, w1_2, w1_3, w1_4⟩ := HG1
  obtain ⟨a2, rfl, rfl, rfl, w2⟩ := open_int Try.underlying3 (hval 2 3 v2 rfl rfl) h2
  obtain ⟨a3, rfl, rfl, rfl, w3⟩ := open_int Try.underlying3 (hval 3 3 v3 rfl rfl) h3
  obtain ⟨a4, rfl, rfl, rfl, w4⟩ := open_int Try.underlying3 (hval 4 3 v4 rfl rfl) h4
  obtain ⟨a5, rfl, rfl, rfl, w5⟩ := open_int Try.underlying3 (hval 5 3 v5 rfl rfl) h5
  clear hA0 hval0 hsz0 hsz
  obtain ⟨k, h⟩ := Pure.GateFits a0_0 a0_1 a0_2 a0_3 a0_4 a0_5 a0_6 a0_7 a0_8 a0_9 a0_10 a0_11 a0_12 a1_0 a1_1 a1_2 a1_3 a1_4 a1_5 a2 a3 a4 a5 w0_0 w0_1 w0_2 w0_3_0 w0_3_1 w0_4_0 w0_4_1 w0_5 w0_6 w0_7 w0_8 w0_9 w0_10 w1_0 w1_1_0 w1_1_1 w1_2 w1_3 w1_4 w2 w3 w4 w5
  refine (skywaylaw2_GateFits.calls k a0_0 a0_1 a0_2 a0_3 a0_4 a0_5 a0_6 a0_7 a0_8 a0_9 a0_10 a0_11 a0_12 a1_0 a1_1 a1_2 a1_3 a1_4 a1_5 a2 a3 a4 a5 true W h).mono fun e W' ⟨he, bel⟩ => ?_
  subst he
  exact ⟨_, rfl, _, _, _, [], _, [], hW', trodAll_mk1 (shut_bool Try.underlying4 _), (trodAll_cons_mk (Below.trod laidOut (by kernel_rfl) (of_decide_eq_true (by kernel_rfl)) k0 bel lt0) (trodAll_cons_mk (Below.trod laidOut (by kernel_rfl) (of_decide_eq_true (by kernel_rfl)) k1 bel lt1) (trodAll_cons_mk (shut_int Try.underlying3 w2) (trodAll_cons_mk (shut_int Try.underlying3 w3) (trodAll_cons_mk (shut_int Try.underlying3 w4) (trodAll_cons_mk (shut_int Try.underlying3 w5) trodAll_mk0)))))), rfl, bel.frame _, fun h => by cases h⟩
theorem over : Rows.gateFitsRow.holds Try.pinned (OpenSpec.ofChange Rows.gateFitsSpec) :=
  OpenClaim.holds_of_wide 10 Try.f10 rfl rfl rfl rfl rfl rfl rfl ⟨rfl, rfl, rfl, rfl, rfl⟩ rfl rfl rfl rfl rfl (by kernel_rfl) Try.func10 (by kernel_rfl)
    (of_decide_eq_true (by kernel_rfl)) (by unfold Func.isWrapper; rw [if_neg (of_decide_eq_false (by kernel_rfl))]; exact ⟨rfl, rfl⟩)
    (fun os started H enc _ => lifted os started H enc)
end Go.Proofs.Ytlaaeighanknpaa.gateFits
namespace Go.Proofs.Ytlaaeighanknpaa
theorem gateFits_holds : Rows.GateFitsSaid := gateFits.over
end Go.Proofs.Ytlaaeighanknpaa
