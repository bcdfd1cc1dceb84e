/- What is proved: the law HoldSays returns true for every input that can be read, and each argument reads behind the call as it read before; out of what it answers on plain values. No condition. -/
import Derived.Test.YtacdahpjmeianaaRows
import Derived.Test.YtacdahpjmeianaaTho6
import Derived.Test.YtacdahpjmeianaaEvZd
import Derived.WalkKit
import Derived.ProofKit
import Derived.OpenShut
import Derived.ShutString
import Derived.ChangeOld
import Derived.Below
import Derived.SizedLaws
namespace Go.Proofs.Ytacdahpjmeianaa.holdSays
open Go.ChangeShapes Go.WideShapes Go.ChangeAt Go.RowKit Go.Proofs.YtacdahpjmeianaaEv
open Go.ChangeMaps (open_string shut_string)
set_option linter.unusedVariables false
theorem own : ownKnob Try.prog.godebug = none := by kernel_rfl
theorem laidOut : laidOutB Try.prog = true := by kernel_rfl
theorem op81 {H : Type} (enc : TypeId × Value → H) (W : World) : Opens enc Try.prog W 81 (Kd.pair (Kd.int .i64) (Kd.pair (Kd.int .i64) (Kd.int .i64))) (both (gInt .i64) (both (gInt .i64) (gInt .i64))) :=
    (opens_struct Try.underlying81 (by kernel_rfl) (opensF_cons rfl (opens_int Try.underlying3 (by kernel_rfl))
      (opensF_cons rfl (opens_int Try.underlying3 (by kernel_rfl))
      (opensF_one rfl (opens_int Try.underlying3 (by kernel_rfl))))))
theorem op97 {H : Type} (enc : TypeId × Value → H) (W : World) : Opens enc Try.prog W 97 (Kd.pair (Kd.int .i64) (Kd.pair Kd.str (Kd.int .i64))) (both (gInt .i64) (both gStr (gInt .i64))) :=
    (opens_struct Try.underlying97 (by kernel_rfl) (opensF_cons rfl (opens_int Try.underlying3 (by kernel_rfl))
      (opensF_cons rfl (opens_string Try.underlying9 (by kernel_rfl))
      (opensF_one rfl (opens_int Try.underlying3 (by kernel_rfl))))))
set_option maxRecDepth 100000 in
theorem lifted (os : Os) (started : os.Started) (H : Type) (enc : TypeId × Value → H) :
    ReturnsInHanded {} Try.checked os 8 .any (Rows.holdSaysSpec.pre6 enc Try.prog Try.f8 Rows.holdSaysRow.domain false) (Rows.holdSaysSpec.post enc Try.prog Try.f8 false true false false) := by
  refine returnsInHanded_of_change_sized (C := Try.checked) own started (by kernel_rfl) Try.func8
    (ChangeSpec.witness6 (enc := enc) (C := Try.checked) false ⟨#[], #[.agg #[.int .i64 0, .int .i64 0, .int .i64 0], .slice none 0 0], []⟩ 8 (by kernel_rfl) (by kernel_rfl) (by kernel_rfl) (by kernel_rfl)) ?_
  intro W base args ds gs before hval0 hW hcnd hsz0 _
  have hsz : (DataW.weightsEach Try.prog (Try.f8.params.toList ++ Rows.holdSaysSpec.plain.varTypes Try.prog) (ds ++ gs)).all (· ≤ reachBytes) = true := hsz0
  have hval : ∀ (j : Nat) t v, Try.f8.params[j]? = some t → args[j]? = some v → Value.okWide Try.prog W .any base t v := hval0
  have hW' := hW
  obtain ⟨p, q, hA0, hV, rfl, hfz, hnd⟩ := hW
  have hA : DataW.TrodAll enc Try.prog W 0 (fun _ => true) true Try.f8.params.toList args.toList ds p := hA0
  rw [Try.params8] at hA hval hsz
  obtain ⟨v0, vs0, d0, ds0, p0, q0, hargs, rfl, rfl, h0, r0⟩ := trodAll_cons hA
  obtain ⟨v1, vs1, d1, ds1, p1, q1, rfl, rfl, rfl, h1, r1⟩ := trodAll_cons r0
  obtain ⟨rfl, rfl, rfl⟩ := trodAll_nil r1
  obtain rfl : args = #[v0, v1] := by cases args; simp_all
  obtain ⟨rfl, rfl⟩ := trodVars_none hV
  have k0 := h0
  have lt0 : ∀ x ∈ p0, x.block < W.heap.size := by obtain ⟨m, hm⟩ := k0; exact DataW.trod_lt m _ _ _ hm
  obtain ⟨cs0, rfl, _⟩ := okWide_struct Try.underlying81 (hval 0 81 v0 rfl rfl)
  obtain ⟨a0, rfl, w0⟩ := opens_arg (op81 _ _) hsz (j := 0) (t := 81) rfl rfl h0
  have k1 := h1
  have lt1 : ∀ x ∈ p1, x.block < W.heap.size := by obtain ⟨m, hm⟩ := k1; exact DataW.trod_lt m _ _ _ hm
  obtain ⟨a1, hy1, w1⟩ := opensC_arg (opensC_ro Try.underlying82 (by kernel_rfl) (show Try.prog.bytesOf 97 = 32 by kernel_rfl) (op97 _ _)) (has_slice Try.underlying82 (hval 1 82 v1 rfl rfl)) hsz (j := 1) (t := 82) rfl rfl h1
  obtain ⟨b1, len1, cap1, rfl⟩ := okWide_slice Try.underlying82 (hval 1 82 v1 rfl rfl)
  obtain ⟨v1', e1, z1⟩ := hy1
  obtain rfl : .slice b1 len1 cap1 = v1' := by simpa [Value.cells] using e1
  clear hA0 hval0 hsz0 hsz
  obtain ⟨HH, hL⟩ := Go.Proofs.YtacdahpjmeianaaHo.lawOK (a0, a1, ()) ⟨w0, w1, trivial⟩
  refine (law_belowV (ks := [(.s (.v ⟨true, (Kd.pair (Kd.int .i64) (Kd.pair (Kd.int .i64) (Kd.int .i64)))⟩)), (.s (.ro (Kd.pair (Kd.int .i64) (Kd.pair Kd.str (Kd.int .i64)))))]) (d := (a0, a1, ())) (vs := [_, _]) hL ⟨_, _, rfl, rfl, ⟨_, _, rfl, z1, rfl⟩⟩).mono fun e W' ⟨he, bel⟩ => ?_
  subst he
  exact ⟨_, rfl, _, _, _, [], _, [], hW', trodAll_mk1 (shut_bool Try.underlying4 _), (trodAll_cons_mk (Below.trod laidOut (by kernel_rfl) (of_decide_eq_true (by kernel_rfl)) k0 bel lt0) (trodAll_cons_mk (Below.trod laidOut (by kernel_rfl) (of_decide_eq_true (by kernel_rfl)) k1 bel lt1) trodAll_mk0)), rfl, bel.frame _, fun h => by cases h⟩
theorem over : Rows.holdSaysRow.holds Try.pinned (OpenSpec.ofChange Rows.holdSaysSpec) :=
  OpenClaim.holds_of_wide 8 Try.f8 rfl rfl rfl rfl rfl rfl rfl ⟨rfl, rfl, rfl, rfl, rfl⟩ rfl rfl rfl rfl rfl (by kernel_rfl) Try.func8 (by kernel_rfl)
    (of_decide_eq_true (by kernel_rfl)) (by unfold Func.isWrapper; rw [if_neg (of_decide_eq_false (by kernel_rfl))]; exact ⟨rfl, rfl⟩)
    (fun os started H enc _ => lifted os started H enc)
end Go.Proofs.Ytacdahpjmeianaa.holdSays
namespace Go.Proofs.Ytacdahpjmeianaa
theorem holdSays_holds : Rows.HoldSaysSaid := holdSays.over
end Go.Proofs.Ytacdahpjmeianaa
