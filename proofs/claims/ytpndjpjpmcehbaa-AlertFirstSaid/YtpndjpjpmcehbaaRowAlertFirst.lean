/- What is proved: the law AlertFirst returns true for every input that can be read, and each argument reads behind the call as it read before; out of what it answers on plain values. No condition. -/
import Derived.Test.YtpndjpjpmcehbaaRows
import Derived.Test.YtpndjpjpmcehbaaTal2
import Derived.Test.YtpndjpjpmcehbaaEvZd
import Derived.WalkKit
import Derived.ProofKit
import Derived.OpenShut
import Derived.ShutString
import Derived.ChangeOld
import Derived.Below
import Derived.SizedLaws
namespace Go.Proofs.Ytpndjpjpmcehbaa.alertFirst
open Go.ChangeShapes Go.WideShapes Go.ChangeAt Go.RowKit Go.Proofs.YtpndjpjpmcehbaaEv
open Go.ChangeMaps (open_string shut_string)
set_option linter.unusedVariables false
theorem own : ownKnob Try.prog.godebug = none := by kernel_rfl
theorem laidOut : laidOutB Try.prog = true := by kernel_rfl
theorem op23 {H : Type} (enc : TypeId × Value → H) (W : World) : Opens enc Try.prog W 23 (Kd.pair (Kd.int .i64) (Kd.int .i64)) (both (gInt .i64) (gInt .i64)) :=
    (opens_struct Try.underlying23 (by kernel_rfl) (opensF_cons rfl (opens_int Try.underlying3 (by kernel_rfl))
      (opensF_one rfl (opens_int Try.underlying3 (by kernel_rfl)))))
theorem op49 {H : Type} (enc : TypeId × Value → H) (W : World) : Opens enc Try.prog W 49 (Kd.pair (Kd.int .i64) (Kd.pair (Kd.pair (Kd.int .i64) (Kd.int .i64)) (Kd.pair (Kd.int .i64) (Kd.pair (Kd.int .i64) (Kd.int .i64))))) (both (gInt .i64) (both (both (gInt .i64) (gInt .i64)) (both (gInt .i64) (both (gInt .i64) (gInt .i64))))) :=
    (opens_struct Try.underlying49 (by kernel_rfl) (opensF_cons rfl (opens_int Try.underlying3 (by kernel_rfl))
      (opensF_cons rfl (op23 _ _)
      (opensF_cons rfl (opens_int Try.underlying3 (by kernel_rfl))
      (opensF_cons rfl (opens_int Try.underlying3 (by kernel_rfl))
      (opensF_one rfl (opens_int Try.underlying3 (by kernel_rfl))))))))
theorem op47 {H : Type} (enc : TypeId × Value → H) (W : World) : Opens enc Try.prog W 47 (Kd.pair (Kd.int .i64) (Kd.pair (Kd.int .i64) (Kd.pair (Kd.int .i64) (Kd.pair (Kd.pair (Kd.int .i64) (Kd.int .i64)) (Kd.pair (Kd.pair (Kd.int .i64) (Kd.int .i64)) (Kd.pair (Kd.int .i64) (Kd.pair (Kd.int .i64) (Kd.pair (Kd.int .i64) (Kd.pair (Kd.int .i64) (Kd.pair (Kd.int .i64) (Kd.int .i64))))))))))) (both (gInt .i64) (both (gInt .i64) (both (gInt .i64) (both (both (gInt .i64) (gInt .i64)) (both (both (gInt .i64) (gInt .i64)) (both (gInt .i64) (both (gInt .i64) (both (gInt .i64) (both (gInt .i64) (both (gInt .i64) (gInt .i64))))))))))) :=
    (opens_struct Try.underlying47 (by kernel_rfl) (opensF_cons rfl (opens_int Try.underlying3 (by kernel_rfl))
      (opensF_cons rfl (opens_int Try.underlying3 (by kernel_rfl))
      (opensF_cons rfl (opens_int Try.underlying3 (by kernel_rfl))
      (opensF_cons rfl (op23 _ _)
      (opensF_cons rfl (op23 _ _)
      (opensF_cons rfl (opens_int Try.underlying3 (by kernel_rfl))
      (opensF_cons rfl (opens_int Try.underlying3 (by kernel_rfl))
      (opensF_cons rfl (opens_int Try.underlying3 (by kernel_rfl))
      (opensF_cons rfl (opens_int Try.underlying3 (by kernel_rfl))
      (opensF_cons rfl (opens_int Try.underlying3 (by kernel_rfl))
      (opensF_one rfl (opens_int Try.underlying3 (by kernel_rfl))))))))))))))
theorem op51 {H : Type} (enc : TypeId × Value → H) (W : World) : Opens enc Try.prog W 51 (Kd.pair (Kd.pair (Kd.int .i64) (Kd.pair (Kd.int .i64) (Kd.pair (Kd.int .i64) (Kd.pair (Kd.pair (Kd.int .i64) (Kd.int .i64)) (Kd.pair (Kd.pair (Kd.int .i64) (Kd.int .i64)) (Kd.pair (Kd.int .i64) (Kd.pair (Kd.int .i64) (Kd.pair (Kd.int .i64) (Kd.pair (Kd.int .i64) (Kd.pair (Kd.int .i64) (Kd.int .i64))))))))))) (Kd.pair (Kd.int .i64) (Kd.pair (Kd.int .i64) (Kd.pair (Kd.pair (Kd.int .i64) (Kd.int .i64)) (Kd.pair (Kd.int .i64) (Kd.pair (Kd.int .i64) (Kd.int .i64))))))) (both (both (gInt .i64) (both (gInt .i64) (both (gInt .i64) (both (both (gInt .i64) (gInt .i64)) (both (both (gInt .i64) (gInt .i64)) (both (gInt .i64) (both (gInt .i64) (both (gInt .i64) (both (gInt .i64) (both (gInt .i64) (gInt .i64))))))))))) (both (gInt .i64) (both (gInt .i64) (both (both (gInt .i64) (gInt .i64)) (both (gInt .i64) (both (gInt .i64) (gInt .i64))))))) :=
    (opens_struct Try.underlying51 (by kernel_rfl) (opensF_cons rfl (op47 _ _)
      (opensF_cons rfl (opens_int Try.underlying3 (by kernel_rfl))
      (opensF_one rfl (op49 _ _)))))
theorem op66 {H : Type} (enc : TypeId × Value → H) (W : World) : Opens enc Try.prog W 66 (Kd.pair (Kd.int .i64) (Kd.int .i64)) (both (gInt .i64) (gInt .i64)) :=
    (opens_struct Try.underlying66 (by kernel_rfl) (opensF_cons rfl (opens_int Try.underlying3 (by kernel_rfl))
      (opensF_one rfl (opens_int Try.underlying3 (by kernel_rfl)))))
set_option maxRecDepth 100000 in
theorem lifted (os : Os) (started : os.Started) (H : Type) (enc : TypeId × Value → H) :
    ReturnsInHanded {} Try.checked os 8 .any (Rows.alertFirstSpec.pre6 enc Try.prog Try.f8 Rows.alertFirstRow.domain false) (Rows.alertFirstSpec.post enc Try.prog Try.f8 false true false false) := by
  refine returnsInHanded_of_change_sized (C := Try.checked) own started (by kernel_rfl) Try.func8
    (ChangeSpec.witness6 (enc := enc) (C := Try.checked) false ⟨#[], #[.agg #[.int .i64 0, .int .i64 0, .int .i64 0, .int .i64 0, .int .i64 0, .int .i64 0, .int .i64 0, .int .i64 0, .int .i64 0, .int .i64 0, .int .i64 0, .int .i64 0, .int .i64 0, .int .i64 0, .int .i64 0, .int .i64 0, .int .i64 0, .int .i64 0, .int .i64 0, .int .i64 0], .agg #[.int .i64 0, .int .i64 0, .int .i64 0, .int .i64 0, .int .i64 0, .int .i64 0, .int .i64 0, .int .i64 0, .int .i64 0, .int .i64 0, .int .i64 0, .int .i64 0, .int .i64 0, .int .i64 0, .int .i64 0, .int .i64 0, .int .i64 0, .int .i64 0, .int .i64 0, .int .i64 0], .agg #[.int .i64 0, .int .i64 0], .int .i64 0, .int .i64 0, .int .i64 0], []⟩ 8 (by kernel_rfl) (by kernel_rfl) (by kernel_rfl) (by kernel_rfl)) ?_
  intro W base args ds gs before hval0 hW hcnd hsz0 _
  have hsz : (DataW.weightsEach Try.prog (Try.f8.params.toList ++ Rows.alertFirstSpec.plain.varTypes Try.prog) (ds ++ gs)).all (· ≤ reachBytes) = true := hsz0
  have hval : ∀ (j : Nat) t v, Try.f8.params[j]? = some t → args[j]? = some v → Value.okWide Try.prog W .any base t v := hval0
  have hW' := hW
  obtain ⟨p, q, hA0, hV, rfl, hfz, hnd⟩ := hW
  have hA : DataW.TrodAll enc Try.prog W 0 (fun _ => true) true Try.f8.params.toList args.toList ds p := hA0
  rw [Try.params8] at hA hval hsz
  obtain ⟨v0, vs0, d0, ds0, p0, q0, hargs, rfl, rfl, h0, r0⟩ := trodAll_cons hA
  obtain ⟨v1, vs1, d1, ds1, p1, q1, rfl, rfl, rfl, h1, r1⟩ := trodAll_cons r0
  obtain ⟨v2, vs2, d2, ds2, p2, q2, rfl, rfl, rfl, h2, r2⟩ := trodAll_cons r1
  obtain ⟨v3, vs3, d3, ds3, p3, q3, rfl, rfl, rfl, h3, r3⟩ := trodAll_cons r2
  obtain ⟨v4, vs4, d4, ds4, p4, q4, rfl, rfl, rfl, h4, r4⟩ := trodAll_cons r3
  obtain ⟨v5, vs5, d5, ds5, p5, q5, rfl, rfl, rfl, h5, r5⟩ := trodAll_cons r4
  obtain ⟨rfl, rfl, rfl⟩ := trodAll_nil r5
  obtain rfl : args = #[v0, v1, v2, v3, v4, v5] := by cases args; simp_all
  obtain ⟨rfl, rfl⟩ := trodVars_none hV
  have k0 := h0
  have lt0 : ∀ x ∈ p0, x.block < W.heap.size := by obtain ⟨m, hm⟩ := k0; exact DataW.trod_lt m _ _ _ hm
  obtain ⟨cs0, rfl, _⟩ := okWide_struct Try.underlying51 (hval 0 51 v0 rfl rfl)
  obtain ⟨a0, rfl, w0⟩ := opens_arg (op51 _ _) hsz (j := 0) (t := 51) rfl rfl h0
  have k1 := h1
  have lt1 : ∀ x ∈ p1, x.block < W.heap.size := by obtain ⟨m, hm⟩ := k1; exact DataW.trod_lt m _ _ _ hm
  obtain ⟨cs1, rfl, _⟩ := okWide_struct Try.underlying51 (hval 1 51 v1 rfl rfl)
  obtain ⟨a1, rfl, w1⟩ := opens_arg (op51 _ _) hsz (j := 1) (t := 51) rfl rfl h1
  have k2 := h2
  have lt2 : ∀ x ∈ p2, x.block < W.heap.size := by obtain ⟨m, hm⟩ := k2; exact DataW.trod_lt m _ _ _ hm
  obtain ⟨cs2, rfl, _⟩ := okWide_struct Try.underlying66 (hval 2 66 v2 rfl rfl)
  obtain ⟨a2, rfl, w2⟩ := opens_arg (op66 _ _) hsz (j := 2) (t := 66) rfl rfl h2
  obtain ⟨a3, rfl, rfl, rfl, w3⟩ := open_int Try.underlying3 (hval 3 3 v3 rfl rfl) h3
  obtain ⟨a4, rfl, rfl, rfl, w4⟩ := open_int Try.underlying3 (hval 4 3 v4 rfl rfl) h4
  obtain ⟨a5, rfl, rfl, rfl, w5⟩ := open_int Try.underlying3 (hval 5 3 v5 rfl rfl) h5
  clear hA0 hval0 hsz0 hsz
  obtain ⟨HH, hL⟩ := Go.Proofs.YtpndjpjpmcehbaaTk.lawOK (a0, a1, a2, a3, a4, a5, ()) ⟨w0, w1, w2, w3, w4, w5, trivial⟩
  refine (law_belowV (ks := [(.s (.v ⟨true, (Kd.pair (Kd.pair (Kd.int .i64) (Kd.pair (Kd.int .i64) (Kd.pair (Kd.int .i64) (Kd.pair (Kd.pair (Kd.int .i64) (Kd.int .i64)) (Kd.pair (Kd.pair (Kd.int .i64) (Kd.int .i64)) (Kd.pair (Kd.int .i64) (Kd.pair (Kd.int .i64) (Kd.pair (Kd.int .i64) (Kd.pair (Kd.int .i64) (Kd.pair (Kd.int .i64) (Kd.int .i64))))))))))) (Kd.pair (Kd.int .i64) (Kd.pair (Kd.int .i64) (Kd.pair (Kd.pair (Kd.int .i64) (Kd.int .i64)) (Kd.pair (Kd.int .i64) (Kd.pair (Kd.int .i64) (Kd.int .i64)))))))⟩)), (.s (.v ⟨true, (Kd.pair (Kd.pair (Kd.int .i64) (Kd.pair (Kd.int .i64) (Kd.pair (Kd.int .i64) (Kd.pair (Kd.pair (Kd.int .i64) (Kd.int .i64)) (Kd.pair (Kd.pair (Kd.int .i64) (Kd.int .i64)) (Kd.pair (Kd.int .i64) (Kd.pair (Kd.int .i64) (Kd.pair (Kd.int .i64) (Kd.pair (Kd.int .i64) (Kd.pair (Kd.int .i64) (Kd.int .i64))))))))))) (Kd.pair (Kd.int .i64) (Kd.pair (Kd.int .i64) (Kd.pair (Kd.pair (Kd.int .i64) (Kd.int .i64)) (Kd.pair (Kd.int .i64) (Kd.pair (Kd.int .i64) (Kd.int .i64)))))))⟩)), (.s (.v ⟨true, (Kd.pair (Kd.int .i64) (Kd.int .i64))⟩)), (.s (.v ⟨false, (Kd.int .i64)⟩)), (.s (.v ⟨false, (Kd.int .i64)⟩)), (.s (.v ⟨false, (Kd.int .i64)⟩))]) (d := (a0, a1, a2, a3, a4, a5, ())) (vs := [_, _, _, _, _, _]) hL ⟨_, _, rfl, rfl, ⟨_, _, rfl, rfl, ⟨_, _, rfl, rfl, ⟨_, _, rfl, rfl, ⟨_, _, rfl, rfl, ⟨_, _, rfl, rfl, rfl⟩⟩⟩⟩⟩⟩).mono fun e W' ⟨he, bel⟩ => ?_
  subst he
  exact ⟨_, rfl, _, _, _, [], _, [], hW', trodAll_mk1 (shut_bool Try.underlying4 _), (trodAll_cons_mk (Below.trod laidOut (by kernel_rfl) (of_decide_eq_true (by kernel_rfl)) k0 bel lt0) (trodAll_cons_mk (Below.trod laidOut (by kernel_rfl) (of_decide_eq_true (by kernel_rfl)) k1 bel lt1) (trodAll_cons_mk (Below.trod laidOut (by kernel_rfl) (of_decide_eq_true (by kernel_rfl)) k2 bel lt2) (trodAll_cons_mk (shut_int Try.underlying3 w3) (trodAll_cons_mk (shut_int Try.underlying3 w4) (trodAll_cons_mk (shut_int Try.underlying3 w5) trodAll_mk0)))))), rfl, bel.frame _, fun h => by cases h⟩
theorem over : Rows.alertFirstRow.holds Try.pinned (OpenSpec.ofChange Rows.alertFirstSpec) :=
  OpenClaim.holds_of_wide 8 Try.f8 rfl rfl rfl rfl rfl rfl rfl ⟨rfl, rfl, rfl, rfl, rfl⟩ rfl rfl rfl rfl rfl (by kernel_rfl) Try.func8 (by kernel_rfl)
    (of_decide_eq_true (by kernel_rfl)) (by unfold Func.isWrapper; rw [if_neg (of_decide_eq_false (by kernel_rfl))]; exact ⟨rfl, rfl⟩)
    (fun os started H enc _ => lifted os started H enc)
end Go.Proofs.Ytpndjpjpmcehbaa.alertFirst
namespace Go.Proofs.Ytpndjpjpmcehbaa
theorem alertFirst_holds : Rows.AlertFirstSaid := alertFirst.over
end Go.Proofs.Ytpndjpjpmcehbaa
