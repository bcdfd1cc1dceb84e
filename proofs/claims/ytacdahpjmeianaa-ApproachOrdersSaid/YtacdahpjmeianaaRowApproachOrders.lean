/- What is proved: the law ApproachOrders returns true for every input that can be read, and each argument reads behind the call as it read before; out of what it answers on plain values. No condition. -/
import Derived.Test.YtacdahpjmeianaaRows
import Derived.Test.YtacdahpjmeianaaTao3
import Derived.Test.YtacdahpjmeianaaEvZd
import Derived.WalkKit
import Derived.ProofKit
import Derived.OpenShut
import Derived.ShutString
import Derived.ChangeOld
import Derived.Below
import Derived.SizedLaws
namespace Go.Proofs.Ytacdahpjmeianaa.approachOrders
open Go.ChangeShapes Go.WideShapes Go.ChangeAt Go.RowKit Go.Proofs.YtacdahpjmeianaaEv
open Go.ChangeMaps (open_string shut_string)
set_option linter.unusedVariables false
theorem own : ownKnob Try.prog.godebug = none := by kernel_rfl
theorem laidOut : laidOutB Try.prog = true := by kernel_rfl
theorem op75 {H : Type} (enc : TypeId × Value → H) (W : World) : Opens enc Try.prog W 75 (Kd.pair Kd.str (Kd.pair (Kd.int .i64) (Kd.pair (Kd.int .i64) (Kd.int .i64)))) (both gStr (both (gInt .i64) (both (gInt .i64) (gInt .i64)))) :=
    (opens_struct Try.underlying75 (by kernel_rfl) (opensF_cons rfl (opens_string Try.underlying9 (by kernel_rfl))
      (opensF_cons rfl (opens_int Try.underlying3 (by kernel_rfl))
      (opensF_cons rfl (opens_int Try.underlying3 (by kernel_rfl))
      (opensF_one rfl (opens_int Try.underlying3 (by kernel_rfl)))))))
set_option maxRecDepth 100000 in
theorem lifted (os : Os) (started : os.Started) (H : Type) (enc : TypeId × Value → H) :
    ReturnsInHanded {} Try.checked os 7 .any (Rows.approachOrdersSpec.pre6 enc Try.prog Try.f7 Rows.approachOrdersRow.domain false) (Rows.approachOrdersSpec.post enc Try.prog Try.f7 false true false false) := by
  refine returnsInHanded_of_change_sized (C := Try.checked) own started (by kernel_rfl) Try.func7
    (ChangeSpec.witness6 (enc := enc) (C := Try.checked) false ⟨#[], #[.slice none 0 0, .agg #[.int .i64 0, .int .i64 0, .int .i64 0, .int .i64 0, .int .i64 0, .int .i64 0, .int .i64 0, .int .i64 0, .int .i64 0, .int .i64 0, .int .i64 0, .int .i64 0, .int .i64 0, .int .i64 0, .int .i64 0, .int .i64 0]], []⟩ 8 (by kernel_rfl) (by kernel_rfl) (by kernel_rfl) (by kernel_rfl)) ?_
  intro W base args ds gs before hval0 hW hcnd hsz0 _
  have hsz : (DataW.weightsEach Try.prog (Try.f7.params.toList ++ Rows.approachOrdersSpec.plain.varTypes Try.prog) (ds ++ gs)).all (· ≤ reachBytes) = true := hsz0
  have hval : ∀ (j : Nat) t v, Try.f7.params[j]? = some t → args[j]? = some v → Value.okWide Try.prog W .any base t v := hval0
  have hW' := hW
  obtain ⟨p, q, hA0, hV, rfl, hfz, hnd⟩ := hW
  have hA : DataW.TrodAll enc Try.prog W 0 (fun _ => true) true Try.f7.params.toList args.toList ds p := hA0
  rw [Try.params7] at hA hval hsz
  obtain ⟨v0, vs0, d0, ds0, p0, q0, hargs, rfl, rfl, h0, r0⟩ := trodAll_cons hA
  obtain ⟨v1, vs1, d1, ds1, p1, q1, rfl, rfl, rfl, h1, r1⟩ := trodAll_cons r0
  obtain ⟨rfl, rfl, rfl⟩ := trodAll_nil r1
  obtain rfl : args = #[v0, v1] := by cases args; simp_all
  obtain ⟨rfl, rfl⟩ := trodVars_none hV
  have k0 := h0
  have lt0 : ∀ x ∈ p0, x.block < W.heap.size := by obtain ⟨m, hm⟩ := k0; exact DataW.trod_lt m _ _ _ hm
  obtain ⟨a0, hy0, w0⟩ := opensC_arg (opensC_ro Try.underlying68 (by kernel_rfl) (show Try.prog.bytesOf 75 = 40 by kernel_rfl) (op75 _ _)) (has_slice Try.underlying68 (hval 0 68 v0 rfl rfl)) hsz (j := 0) (t := 68) rfl rfl h0
  obtain ⟨b0, len0, cap0, rfl⟩ := okWide_slice Try.underlying68 (hval 0 68 v0 rfl rfl)
  obtain ⟨v0', e0, z0⟩ := hy0
  obtain rfl : .slice b0 len0 cap0 = v0' := by simpa [Value.cells] using e0
  have k1 := h1
  have lt1 : ∀ x ∈ p1, x.block < W.heap.size := by obtain ⟨m, hm⟩ := k1; exact DataW.trod_lt m _ _ _ hm
  obtain ⟨cs1, rfl, hs1, hr1⟩ : ∃ cs, v1 = .agg cs ∧ cs.size = Try.prog.cellsOf 70 ∧ Row.okWide Try.prog W .any base 70 cs := by have := (hval 1 70 v1 rfl rfl); unfold Value.okWide at this; rw [Try.underlying70] at this; exact this
  obtain ⟨a1, hy1, w1⟩ := opensC_arg (opensC_aa Try.underlying70 (show 16 = 4 * 4 by rfl) (by kernel_rfl) (opensC_ar Try.underlying69 (by kernel_rfl) (opens_int Try.underlying3 (by kernel_rfl)))) (has_row hr1) hsz (j := 1) (t := 70) rfl rfl h1
  have z1 : ArgOK W (.s (.ar (Kd.int .i64) 16)) a1 (.agg cs1) := ⟨by congr 1; exact Array.ext' hy1.1, hy1.2⟩
  clear hA0 hval0 hsz0 hsz
  obtain ⟨HH, hL⟩ := Go.Proofs.YtacdahpjmeianaaAs.lawOK (a0, a1, ()) ⟨w0, ⟨hy1.2, w1⟩, trivial⟩
  refine (law_belowV (ks := [(.s (.ro (Kd.pair Kd.str (Kd.pair (Kd.int .i64) (Kd.pair (Kd.int .i64) (Kd.int .i64)))))), (.s (.ar (Kd.int .i64) 16))]) (d := (a0, a1, ())) (vs := [_, _]) hL ⟨_, _, rfl, z0, ⟨_, _, rfl, z1, rfl⟩⟩).mono fun e W' ⟨he, bel⟩ => ?_
  subst he
  exact ⟨_, rfl, _, _, _, [], _, [], hW', trodAll_mk1 (shut_bool Try.underlying4 _), (trodAll_cons_mk (Below.trod laidOut (by kernel_rfl) (of_decide_eq_true (by kernel_rfl)) k0 bel lt0) (trodAll_cons_mk (Below.trod laidOut (by kernel_rfl) (of_decide_eq_true (by kernel_rfl)) k1 bel lt1) trodAll_mk0)), rfl, bel.frame _, fun h => by cases h⟩
theorem over : Rows.approachOrdersRow.holds Try.pinned (OpenSpec.ofChange Rows.approachOrdersSpec) :=
  OpenClaim.holds_of_wide 7 Try.f7 rfl rfl rfl rfl rfl rfl rfl ⟨rfl, rfl, rfl, rfl, rfl⟩ rfl rfl rfl rfl rfl (by kernel_rfl) Try.func7 (by kernel_rfl)
    (of_decide_eq_true (by kernel_rfl)) (by unfold Func.isWrapper; rw [if_neg (of_decide_eq_false (by kernel_rfl))]; exact ⟨rfl, rfl⟩)
    (fun os started H enc _ => lifted os started H enc)
end Go.Proofs.Ytacdahpjmeianaa.approachOrders
namespace Go.Proofs.Ytacdahpjmeianaa
theorem approachOrders_holds : Rows.ApproachOrdersSaid := approachOrders.over
end Go.Proofs.Ytacdahpjmeianaa
