/- What is proved: the law TopLabels returns true for every input that can be read, and each argument reads behind the call as it read before; out of what it answers on plain values. No condition. -/
import Derived.Test.YtacdahpjmeianaaRows
import Derived.Test.YtacdahpjmeianaaTtl1
import Derived.Test.YtacdahpjmeianaaEvZd
import Derived.WalkKit
import Derived.ProofKit
import Derived.OpenShut
import Derived.ShutString
import Derived.ChangeOld
import Derived.Below
import Derived.SizedLaws
namespace Go.Proofs.Ytacdahpjmeianaa.topLabels
open Go.ChangeShapes Go.WideShapes Go.ChangeAt Go.RowKit Go.Proofs.YtacdahpjmeianaaEv
open Go.ChangeMaps (open_string shut_string)
set_option linter.unusedVariables false
theorem own : ownKnob Try.prog.godebug = none := by kernel_rfl
theorem laidOut : laidOutB Try.prog = true := by kernel_rfl
theorem op23 {H : Type} (enc : TypeId × Value → H) (W : World) : Opens enc Try.prog W 23 (Kd.pair (Kd.int .i64) (Kd.int .i64)) (both (gInt .i64) (gInt .i64)) :=
    (opens_struct Try.underlying23 (by kernel_rfl) (opensF_cons rfl (opens_int Try.underlying3 (by kernel_rfl))
      (opensF_one rfl (opens_int Try.underlying3 (by kernel_rfl)))))
theorem op25 {H : Type} (enc : TypeId × Value → H) (W : World) : Opens enc Try.prog W 25 (Kd.pair (Kd.pair (Kd.int .i64) (Kd.int .i64)) (Kd.pair (Kd.int .i64) (Kd.pair (Kd.int .i64) (Kd.int .i64)))) (both (both (gInt .i64) (gInt .i64)) (both (gInt .i64) (both (gInt .i64) (gInt .i64)))) :=
    (opens_struct Try.underlying25 (by kernel_rfl) (opensF_cons rfl (op23 _ _)
      (opensF_cons rfl (opens_int Try.underlying3 (by kernel_rfl))
      (opensF_cons rfl (opens_int Try.underlying3 (by kernel_rfl))
      (opensF_one rfl (opens_int Try.underlying3 (by kernel_rfl)))))))
set_option maxRecDepth 100000 in
theorem lifted (os : Os) (started : os.Started) (H : Type) (enc : TypeId × Value → H) :
    ReturnsInHanded {} Try.checked os 3 .any (Rows.topLabelsSpec.pre6 enc Try.prog Try.f3 Rows.topLabelsRow.domain false) (Rows.topLabelsSpec.post enc Try.prog Try.f3 false true false false) := by
  refine returnsInHanded_of_change_sized (C := Try.checked) own started (by kernel_rfl) Try.func3
    (ChangeSpec.witness6 (enc := enc) (C := Try.checked) false ⟨#[], #[.agg #[.int .i64 0, .int .i64 0, .int .i64 0, .int .i64 0, .int .i64 0], .slice none 0 0, .int .i64 0, .int .i64 0], []⟩ 8 (by kernel_rfl) (by kernel_rfl) (by kernel_rfl) (by kernel_rfl)) ?_
  intro W base args ds gs before hval0 hW hcnd hsz0 _
  have hsz : (DataW.weightsEach Try.prog (Try.f3.params.toList ++ Rows.topLabelsSpec.plain.varTypes Try.prog) (ds ++ gs)).all (· ≤ reachBytes) = true := hsz0
  have hval : ∀ (j : Nat) t v, Try.f3.params[j]? = some t → args[j]? = some v → Value.okWide Try.prog W .any base t v := hval0
  have hW' := hW
  obtain ⟨p, q, hA0, hV, rfl, hfz, hnd⟩ := hW
  have hA : DataW.TrodAll enc Try.prog W 0 (fun _ => true) true Try.f3.params.toList args.toList ds p := hA0
  rw [Try.params3] at hA hval hsz
  obtain ⟨v0, vs0, d0, ds0, p0, q0, hargs, rfl, rfl, h0, r0⟩ := trodAll_cons hA
  obtain ⟨v1, vs1, d1, ds1, p1, q1, rfl, rfl, rfl, h1, r1⟩ := trodAll_cons r0
  obtain ⟨v2, vs2, d2, ds2, p2, q2, rfl, rfl, rfl, h2, r2⟩ := trodAll_cons r1
  obtain ⟨v3, vs3, d3, ds3, p3, q3, rfl, rfl, rfl, h3, r3⟩ := trodAll_cons r2
  obtain ⟨rfl, rfl, rfl⟩ := trodAll_nil r3
  obtain rfl : args = #[v0, v1, v2, v3] := by cases args; simp_all
  obtain ⟨rfl, rfl⟩ := trodVars_none hV
  have k0 := h0
  have lt0 : ∀ x ∈ p0, x.block < W.heap.size := by obtain ⟨m, hm⟩ := k0; exact DataW.trod_lt m _ _ _ hm
  obtain ⟨cs0, rfl, _⟩ := okWide_struct Try.underlying25 (hval 0 25 v0 rfl rfl)
  obtain ⟨a0, rfl, w0⟩ := opens_arg (op25 _ _) hsz (j := 0) (t := 25) rfl rfl h0
  have k1 := h1
  have lt1 : ∀ x ∈ p1, x.block < W.heap.size := by obtain ⟨m, hm⟩ := k1; exact DataW.trod_lt m _ _ _ hm
  obtain ⟨a1, hy1, w1⟩ := opensC_arg (opensC_ro Try.underlying26 (by kernel_rfl) (show Try.prog.bytesOf 23 = 16 by kernel_rfl) (op23 _ _)) (has_slice Try.underlying26 (hval 1 26 v1 rfl rfl)) hsz (j := 1) (t := 26) rfl rfl h1
  obtain ⟨b1, len1, cap1, rfl⟩ := okWide_slice Try.underlying26 (hval 1 26 v1 rfl rfl)
  obtain ⟨v1', e1, z1⟩ := hy1
  obtain rfl : .slice b1 len1 cap1 = v1' := by simpa [Value.cells] using e1
  obtain ⟨a2, rfl, rfl, rfl, w2⟩ := open_int Try.underlying3 (hval 2 3 v2 rfl rfl) h2
  obtain ⟨a3, rfl, rfl, rfl, w3⟩ := open_int Try.underlying3 (hval 3 3 v3 rfl rfl) h3
  clear hA0 hval0 hsz0 hsz
  obtain ⟨HH, hL⟩ := Go.Proofs.YtacdahpjmeianaaLb.topOK (a0, a1, a2, a3, ()) ⟨w0, w1, w2, w3, trivial⟩
  refine (law_belowV (ks := [(.s (.v ⟨true, (Kd.pair (Kd.pair (Kd.int .i64) (Kd.int .i64)) (Kd.pair (Kd.int .i64) (Kd.pair (Kd.int .i64) (Kd.int .i64))))⟩)), (.s (.ro (Kd.pair (Kd.int .i64) (Kd.int .i64)))), (.s (.v ⟨false, (Kd.int .i64)⟩)), (.s (.v ⟨false, (Kd.int .i64)⟩))]) (d := (a0, a1, a2, a3, ())) (vs := [_, _, _, _]) hL ⟨_, _, rfl, rfl, ⟨_, _, rfl, z1, ⟨_, _, rfl, rfl, ⟨_, _, rfl, rfl, rfl⟩⟩⟩⟩).mono fun e W' ⟨he, bel⟩ => ?_
  subst he
  exact ⟨_, rfl, _, _, _, [], _, [], hW', trodAll_mk1 (shut_bool Try.underlying4 _), (trodAll_cons_mk (Below.trod laidOut (by kernel_rfl) (of_decide_eq_true (by kernel_rfl)) k0 bel lt0) (trodAll_cons_mk (Below.trod laidOut (by kernel_rfl) (of_decide_eq_true (by kernel_rfl)) k1 bel lt1) (trodAll_cons_mk (shut_int Try.underlying3 w2) (trodAll_cons_mk (shut_int Try.underlying3 w3) trodAll_mk0)))), rfl, bel.frame _, fun h => by cases h⟩
theorem over : Rows.topLabelsRow.holds Try.pinned (OpenSpec.ofChange Rows.topLabelsSpec) :=
  OpenClaim.holds_of_wide 3 Try.f3 rfl rfl rfl rfl rfl rfl rfl ⟨rfl, rfl, rfl, rfl, rfl⟩ rfl rfl rfl rfl rfl (by kernel_rfl) Try.func3 (by kernel_rfl)
    (of_decide_eq_true (by kernel_rfl)) (by unfold Func.isWrapper; rw [if_neg (of_decide_eq_false (by kernel_rfl))]; exact ⟨rfl, rfl⟩)
    (fun os started H enc _ => lifted os started H enc)
end Go.Proofs.Ytacdahpjmeianaa.topLabels
namespace Go.Proofs.Ytacdahpjmeianaa
theorem topLabels_holds : Rows.TopLabelsSaid := topLabels.over
end Go.Proofs.Ytacdahpjmeianaa
