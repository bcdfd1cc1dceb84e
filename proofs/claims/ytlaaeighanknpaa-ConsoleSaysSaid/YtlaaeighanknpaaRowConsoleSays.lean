/- What is proved: the law ConsoleSays returns true for every input that can be read, and each argument reads behind the call as it read before; out of what it answers on plain values. No condition. -/
import Derived.Test.YtlaaeighanknpaaRows
import Derived.Test.YtlaaeighanknpaaTcs2
import Derived.Test.YtlaaeighanknpaaEvV
import Derived.WalkKit
import Derived.ProofKit
import Derived.OpenShut
import Derived.ShutString
import Derived.ChangeOld
import Derived.Below
import Derived.SizedLaws
namespace Go.Proofs.Ytlaaeighanknpaa.consoleSays
open Go.ChangeShapes Go.WideShapes Go.ChangeAt Go.RowKit Go.Proofs.YtlaaeighanknpaaEv
open Go.ChangeMaps (open_string shut_string)
set_option linter.unusedVariables false
theorem own : ownKnob Try.prog.godebug = none := by kernel_rfl
theorem laidOut : laidOutB Try.prog = true := by kernel_rfl
theorem op88 {H : Type} (enc : TypeId × Value → H) (W : World) : Opens enc Try.prog W 88 (Kd.pair Kd.str (Kd.pair Kd.str (Kd.pair (Kd.int .i64) Kd.str))) (both gStr (both gStr (both (gInt .i64) gStr))) :=
    (opens_struct Try.underlying88 (by kernel_rfl) (opensF_cons rfl (opens_string Try.underlying9 (by kernel_rfl))
      (opensF_cons rfl (opens_string Try.underlying9 (by kernel_rfl))
      (opensF_cons rfl (opens_int Try.underlying3 (by kernel_rfl))
      (opensF_one rfl (opens_string Try.underlying9 (by kernel_rfl)))))))
set_option maxRecDepth 100000 in
theorem lifted (os : Os) (started : os.Started) (H : Type) (enc : TypeId × Value → H) :
    ReturnsInHanded {} Try.checked os 12 .any (Rows.consoleSaysSpec.pre6 enc Try.prog Try.f12 Rows.consoleSaysRow.domain false) (Rows.consoleSaysSpec.post enc Try.prog Try.f12 false true false false) := by
  refine returnsInHanded_of_change_sized (C := Try.checked) own started (by kernel_rfl) Try.func12
    (ChangeSpec.witness6 (enc := enc) (C := Try.checked) false ⟨#[], #[.agg #[.string ByteArray.empty, .string ByteArray.empty, .int .i64 0, .string ByteArray.empty]], []⟩ 8 (by kernel_rfl) (by kernel_rfl) (by kernel_rfl) (by kernel_rfl)) ?_
  intro W base args ds gs before hval0 hW hcnd hsz0 _
  have hsz : (DataW.weightsEach Try.prog (Try.f12.params.toList ++ Rows.consoleSaysSpec.plain.varTypes Try.prog) (ds ++ gs)).all (· ≤ reachBytes) = true := hsz0
  have hval : ∀ (j : Nat) t v, Try.f12.params[j]? = some t → args[j]? = some v → Value.okWide Try.prog W .any base t v := hval0
  have hW' := hW
  obtain ⟨p, q, hA0, hV, rfl, hfz, hnd⟩ := hW
  have hA : DataW.TrodAll enc Try.prog W 0 (fun _ => true) true Try.f12.params.toList args.toList ds p := hA0
  rw [Try.params12] at hA hval hsz
  obtain ⟨v0, vs0, d0, ds0, p0, q0, hargs, rfl, rfl, h0, r0⟩ := trodAll_cons hA
  obtain ⟨rfl, rfl, rfl⟩ := trodAll_nil r0
  obtain rfl : args = #[v0] := by cases args; simp_all
  obtain ⟨rfl, rfl⟩ := trodVars_none hV
  have k0 := h0
  have lt0 : ∀ x ∈ p0, x.block < W.heap.size := by obtain ⟨m, hm⟩ := k0; exact DataW.trod_lt m _ _ _ hm
  obtain ⟨cs0, rfl, _⟩ := okWide_struct Try.underlying88 (hval 0 88 v0 rfl rfl)
  obtain ⟨a0, rfl, w0⟩ := opens_arg (op88 _ _) hsz (j := 0) (t := 88) rfl rfl h0
  clear hA0 hval0 hsz0 hsz
  refine (law_below (us := valL [⟨true, (Kd.pair Kd.str (Kd.pair Kd.str (Kd.pair (Kd.int .i64) Kd.str)))⟩] (a0, ())) (Go.Proofs.YtlaaeighanknpaaCs.lawOK (a0, ()) ⟨w0, trivial⟩) (showL_rvs _ _ _) W).mono fun e W' ⟨he, bel⟩ => ?_
  subst he
  exact ⟨_, rfl, _, _, _, [], _, [], hW', trodAll_mk1 (shut_bool Try.underlying4 _), (trodAll_cons_mk (Below.trod laidOut (by kernel_rfl) (of_decide_eq_true (by kernel_rfl)) k0 bel lt0) trodAll_mk0), rfl, bel.frame _, fun h => by cases h⟩
theorem over : Rows.consoleSaysRow.holds Try.pinned (OpenSpec.ofChange Rows.consoleSaysSpec) :=
  OpenClaim.holds_of_wide 12 Try.f12 rfl rfl rfl rfl rfl rfl rfl ⟨rfl, rfl, rfl, rfl, rfl⟩ rfl rfl rfl rfl rfl (by kernel_rfl) Try.func12 (by kernel_rfl)
    (of_decide_eq_true (by kernel_rfl)) (by unfold Func.isWrapper; rw [if_neg (of_decide_eq_false (by kernel_rfl))]; exact ⟨rfl, rfl⟩)
    (fun os started H enc _ => lifted os started H enc)
end Go.Proofs.Ytlaaeighanknpaa.consoleSays
namespace Go.Proofs.Ytlaaeighanknpaa
theorem consoleSays_holds : Rows.ConsoleSaysSaid := consoleSays.over
end Go.Proofs.Ytlaaeighanknpaa
