/- What is proved: the law MosaicMerges returns true for every input that can be read, and each argument reads behind the call as it read before; out of what it answers on plain values. No condition. -/
import Derived.Test.YtpndjpjpmcehbaaRows
import Derived.Test.YtpndjpjpmcehbaaTmm3
import Derived.Test.YtpndjpjpmcehbaaEvZf
import Derived.WalkKit
import Derived.ProofKit
import Derived.OpenShut
import Derived.ShutString
import Derived.ChangeOld
import Derived.Below
import Derived.SizedLaws
namespace Go.Proofs.Ytpndjpjpmcehbaa.mosaicMerges
open Go.ChangeShapes Go.WideShapes Go.ChangeAt Go.RowKit Go.Proofs.YtpndjpjpmcehbaaEv
open Go.ChangeMaps (open_string shut_string)
set_option linter.unusedVariables false
theorem own : ownKnob Try.prog.godebug = none := by kernel_rfl
theorem laidOut : laidOutB Try.prog = true := by kernel_rfl
theorem op99 {H : Type} (enc : TypeId × Value → H) (W : World) : Opens enc Try.prog W 99 (Kd.pair (Kd.int .i64) (Kd.pair (Kd.int .i64) (Kd.pair (Kd.int .i64) (Kd.pair (Kd.int .i64) (Kd.pair (Kd.int .i64) (Kd.int .i64)))))) (both (gInt .i64) (both (gInt .i64) (both (gInt .i64) (both (gInt .i64) (both (gInt .i64) (gInt .i64)))))) :=
    (opens_struct Try.underlying99 (by kernel_rfl) (opensF_cons rfl (opens_int Try.underlying3 (by kernel_rfl))
      (opensF_cons rfl (opens_int Try.underlying3 (by kernel_rfl))
      (opensF_cons rfl (opens_int Try.underlying3 (by kernel_rfl))
      (opensF_cons rfl (opens_int Try.underlying3 (by kernel_rfl))
      (opensF_cons rfl (opens_int Try.underlying3 (by kernel_rfl))
      (opensF_one rfl (opens_int Try.underlying3 (by kernel_rfl)))))))))
set_option maxRecDepth 100000 in
theorem lifted (os : Os) (started : os.Started) (H : Type) (enc : TypeId × Value → H) :
    ReturnsInHanded {} Try.checked os 13 .any (Rows.mosaicMergesSpec.pre6 enc Try.prog Try.f13 Rows.mosaicMergesRow.domain false) (Rows.mosaicMergesSpec.post enc Try.prog Try.f13 false true false false) := by
  refine returnsInHanded_of_change_sized (C := Try.checked) own started (by kernel_rfl) Try.func13
    (ChangeSpec.witness6 (enc := enc) (C := Try.checked) false ⟨#[], #[.slice none 0 0], []⟩ 8 (by kernel_rfl) (by kernel_rfl) (by kernel_rfl) (by kernel_rfl)) ?_
  intro W base args ds gs before hval0 hW hcnd hsz0 _
  have hsz : (DataW.weightsEach Try.prog (Try.f13.params.toList ++ Rows.mosaicMergesSpec.plain.varTypes Try.prog) (ds ++ gs)).all (· ≤ reachBytes) = true := hsz0
  have hval : ∀ (j : Nat) t v, Try.f13.params[j]? = some t → args[j]? = some v → Value.okWide Try.prog W .any base t v := hval0
  have hW' := hW
  obtain ⟨p, q, hA0, hV, rfl, hfz, hnd⟩ := hW
  have hA : DataW.TrodAll enc Try.prog W 0 (fun _ => true) true Try.f13.params.toList args.toList ds p := hA0
  rw [Try.params13] at hA hval hsz
  obtain ⟨v0, vs0, d0, ds0, p0, q0, hargs, rfl, rfl, h0, r0⟩ := trodAll_cons hA
  obtain ⟨rfl, rfl, rfl⟩ := trodAll_nil r0
  obtain rfl : args = #[v0] := by cases args; simp_all
  obtain ⟨rfl, rfl⟩ := trodVars_none hV
  have k0 := h0
  have lt0 : ∀ x ∈ p0, x.block < W.heap.size := by obtain ⟨m, hm⟩ := k0; exact DataW.trod_lt m _ _ _ hm
  obtain ⟨b0, len0, cap0, rfl⟩ := okWide_slice Try.underlying113 (hval 0 113 v0 rfl rfl)
  have o0 := slsAt_of Try.underlying113 Try.underlying93 (by kernel_rfl) (show Try.prog.bytesOf 99 = 48 by kernel_rfl) (op99 _ _) hsz (j := 0) (t := 113) rfl rfl h0 rfl
  clear hA0 hval0 hsz0 hsz
  refine (Go.Proofs.YtpndjpjpmcehbaaMm.lawAny o0).mono fun e W' ⟨he, bel⟩ => ?_
  subst he
  exact ⟨_, rfl, _, _, _, [], _, [], hW', trodAll_mk1 (shut_bool Try.underlying4 _), (trodAll_cons_mk (Below.trod laidOut (by kernel_rfl) (of_decide_eq_true (by kernel_rfl)) k0 bel lt0) trodAll_mk0), rfl, bel.frame _, fun h => by cases h⟩
theorem over : Rows.mosaicMergesRow.holds Try.pinned (OpenSpec.ofChange Rows.mosaicMergesSpec) :=
  OpenClaim.holds_of_wide 13 Try.f13 rfl rfl rfl rfl rfl rfl rfl ⟨rfl, rfl, rfl, rfl, rfl⟩ rfl rfl rfl rfl rfl (by kernel_rfl) Try.func13 (by kernel_rfl)
    (of_decide_eq_true (by kernel_rfl)) (by unfold Func.isWrapper; rw [if_neg (of_decide_eq_false (by kernel_rfl))]; exact ⟨rfl, rfl⟩)
    (fun os started H enc _ => lifted os started H enc)
end Go.Proofs.Ytpndjpjpmcehbaa.mosaicMerges
namespace Go.Proofs.Ytpndjpjpmcehbaa
theorem mosaicMerges_holds : Rows.MosaicMergesSaid := mosaicMerges.over
end Go.Proofs.Ytpndjpjpmcehbaa
