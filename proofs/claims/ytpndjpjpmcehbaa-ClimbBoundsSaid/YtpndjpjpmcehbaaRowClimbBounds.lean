/- What is proved: the law ClimbBounds returns true for every input that can be read, and each argument reads behind the call as it read before; out of its pure statement and the printed contract. No condition. -/
import Derived.Test.YtpndjpjpmcehbaaRows
import Derived.Test.YtpndjpjpmcehbaaPClimbBoundsx3
import Derived.Test.YtpndjpjpmcehbaaPureClimbBounds
import Derived.Test.YtpndjpjpmcehbaaOpens
import Derived.WalkKit
import Derived.ProofKit
import Derived.OpenShut
import Derived.ShutString
import Derived.ChangeOld
import Derived.Below
import Derived.SizedLaws
namespace Go.Proofs.Ytpndjpjpmcehbaa.climbBounds
open Go.ChangeShapes Go.WideShapes Go.ChangeAt Go.RowKit Go.Proofs.Ytpndjpjpmcehbaa.Open Go.Proofs.YtpndjpjpmcehbaaW.PrintWords Go.Proofs.YtpndjpjpmcehbaaW.PrintLast Go.Proofs.YtpndjpjpmcehbaaW.PrintMore Go.Proofs.Ytpndjpjpmcehbaa.PClimbBounds
open Go.ChangeMaps (open_string shut_string)
set_option linter.unusedVariables false
theorem own : ownKnob Try.prog.godebug = none := by kernel_rfl
theorem laidOut : laidOutB Try.prog = true := by kernel_rfl
theorem op40e {H : Type} (enc : TypeId × Value → H) (W : World) : Opens enc Try.prog W 40 k40 (fun x : S40 => (both (gInt .i64) (gInt .i64)) (x.f0, x.f1)) :=
    (opens_iso (fun x : S40 => (x.f0, x.f1)) (fun y => ⟨y.1, y.2⟩) (fun _ => rfl) (opens_struct Try.underlying40 (by kernel_rfl) (opensF_cons rfl (opens_int Try.underlying3 (by kernel_rfl))
      (opensF_one rfl (opens_int Try.underlying3 (by kernel_rfl))))))
set_option maxRecDepth 100000 in
theorem lifted (os : Os) (started : os.Started) (H : Type) (enc : TypeId × Value → H) :
    ReturnsInHanded {} Try.checked os 4 .any (Rows.climbBoundsSpec.pre6 enc Try.prog Try.f4 Rows.climbBoundsRow.domain false) (Rows.climbBoundsSpec.post enc Try.prog Try.f4 false true false false) := by
  refine returnsInHanded_of_change_sized (C := Try.checked) own started (by kernel_rfl) Try.func4
    (ChangeSpec.witness6 (enc := enc) (C := Try.checked) false ⟨#[], #[.slice none 0 0, .int .i64 0], []⟩ 8 (by kernel_rfl) (by kernel_rfl) (by kernel_rfl) (by kernel_rfl)) ?_
  intro W base args ds gs before hval0 hW hcnd hsz0 _
  have hsz : (DataW.weightsEach Try.prog (Try.f4.params.toList ++ Rows.climbBoundsSpec.plain.varTypes Try.prog) (ds ++ gs)).all (· ≤ reachBytes) = true := hsz0
  have hval : ∀ (j : Nat) t v, Try.f4.params[j]? = some t → args[j]? = some v → Value.okWide Try.prog W .any base t v := hval0
  have hW' := hW
  obtain ⟨p, q, hA0, hV, rfl, hfz, hnd⟩ := hW
  have hA : DataW.TrodAll enc Try.prog W 0 (fun _ => true) true Try.f4.params.toList args.toList ds p := hA0
  rw [Try.params4] at hA hval hsz
  obtain ⟨v0, vs0, d0, ds0, p0, q0, hargs, rfl, rfl, h0, r0⟩ := trodAll_cons hA
  obtain ⟨v1, vs1, d1, ds1, p1, q1, rfl, rfl, rfl, h1, r1⟩ := trodAll_cons r0
  obtain ⟨rfl, rfl, rfl⟩ := trodAll_nil r1
  obtain rfl : args = #[v0, v1] := by cases args; simp_all
  obtain ⟨rfl, rfl⟩ := trodVars_none hV
  have k0 := h0
  have lt0 : ∀ x ∈ p0, x.block < W.heap.size := by obtain ⟨m, hm⟩ := k0; exact DataW.trod_lt m _ _ _ hm
  obtain ⟨b0, len0, cap0, rfl⟩ := okWide_slice Try.underlying36 (hval 0 36 v0 rfl rfl)
  obtain ⟨l0, ⟨A0, c0, E0, hc0, hr0⟩, w0⟩ := opens_arg (opens_slice Try.underlying36 (by kernel_rfl) (show Try.prog.bytesOf 40 = 16 by kernel_rfl) (op40e _ _)) hsz (j := 0) (t := 36) rfl rfl h0
  obtain ⟨rfl, rfl, rfl⟩ : A0 = b0 ∧ len0 = l0.length ∧ c0 = cap0 := by simp [Value.cells] at E0; exact ⟨E0.1.symm, E0.2.1, E0.2.2.symm⟩
  obtain ⟨a1, rfl, rfl, rfl, w1⟩ := open_int Try.underlying3 (hval 1 3 v1 rfl rfl) h1
  clear hA0 hval0 hsz0 hsz
  obtain ⟨k, h⟩ := Pure.ClimbBounds l0 a1 w0 w1
  refine (skywaylaw2_ClimbBounds.calls k A0 c0 l0 a1 true W hr0 hc0 h).mono fun e W' ⟨he, bel⟩ => ?_
  subst he
  exact ⟨_, rfl, _, _, _, [], _, [], hW', trodAll_mk1 (shut_bool Try.underlying4 _), (trodAll_cons_mk (Below.trod laidOut (by kernel_rfl) (of_decide_eq_true (by kernel_rfl)) k0 bel lt0) (trodAll_cons_mk (shut_int Try.underlying3 w1) trodAll_mk0)), rfl, bel.frame _, fun h => by cases h⟩
theorem over : Rows.climbBoundsRow.holds Try.pinned (OpenSpec.ofChange Rows.climbBoundsSpec) :=
  OpenClaim.holds_of_wide 4 Try.f4 rfl rfl rfl rfl rfl rfl rfl ⟨rfl, rfl, rfl, rfl, rfl⟩ rfl rfl rfl rfl rfl (by kernel_rfl) Try.func4 (by kernel_rfl)
    (of_decide_eq_true (by kernel_rfl)) (by unfold Func.isWrapper; rw [if_neg (of_decide_eq_false (by kernel_rfl))]; exact ⟨rfl, rfl⟩)
    (fun os started H enc _ => lifted os started H enc)
end Go.Proofs.Ytpndjpjpmcehbaa.climbBounds
namespace Go.Proofs.Ytpndjpjpmcehbaa
theorem climbBounds_holds : Rows.ClimbBoundsSaid := climbBounds.over
end Go.Proofs.Ytpndjpjpmcehbaa
