/- What is proved: a stack does what the reference does (HoldSays). No condition. -/
import Derived.Test.YtacdahpjmeianaaTho5
namespace Go.Proofs.YtacdahpjmeianaaHo
open Go Go.Proofs Go.Proofs.YtacdahpjmeianaaEv
set_option maxRecDepth 100000
set_option maxHeartbeats 4000000
set_option linter.unusedVariables false
theorem lawOK (v : denA [(.s (.v ⟨true, (Kd.pair (Kd.int .i64) (Kd.pair (Kd.int .i64) (Kd.int .i64)))⟩)), (.s (.ro (Kd.pair (Kd.int .i64) (Kd.pair Kd.str (Kd.int .i64)))))]) (h : (both (gInt .i64) (both (gInt .i64) (gInt .i64))) v.1 ∧ (gSlice (k := (Kd.pair (Kd.int .i64) (Kd.pair Kd.str (Kd.int .i64)))) 32 (both (gInt .i64) (both gStr (gInt .i64)))) v.2.1 ∧ True) : ∃ H', CallOK Try.prog 8 (showA 0 [(.s (.v ⟨true, (Kd.pair (Kd.int .i64) (Kd.pair (Kd.int .i64) (Kd.int .i64)))⟩)), (.s (.ro (Kd.pair (Kd.int .i64) (Kd.pair Kd.str (Kd.int .i64)))))] v).1 (showA 0 [(.s (.v ⟨true, (Kd.pair (Kd.int .i64) (Kd.pair (Kd.int .i64) (Kd.int .i64)))⟩)), (.s (.ro (Kd.pair (Kd.int .i64) (Kd.pair Kd.str (Kd.int .i64)))))] v).2 (.sc (.bool true)) H' := by
  obtain ⟨s, ⟨C, nl⟩, ⟨⟩⟩ := v
  obtain ⟨_, ⟨h1, h2, _⟩, _⟩ := h
  have h2 : ∀ c ∈ C, c.2.1.size ≤ 1000000000000000000 := fun c hc => by
    obtain ⟨_, g1, _⟩ := h2 c hc
    have g1 : c.2.1.size ≤ 140737488351232 := g1
    omega
  obtain ⟨w1, w2, w3, M, mn, last, v1, v2, v3, L, lam, hh⟩ := law_at s C nl h2
  exact ⟨_, evFuncV_sound H4_ok mixed Try.func8 (show Try.f8.body = some (bodyF Try.f8) from rfl) (cut_cons (by kernel_rfl) in0 (cut_cons (by kernel_rfl) (in1K ((((w1, w2, w3), M, last), mn), (v1, v2, v3), L, lam)) (noCuts_ok _))) hh (by rw [showA_len]; decide)⟩
end Go.Proofs.YtacdahpjmeianaaHo
