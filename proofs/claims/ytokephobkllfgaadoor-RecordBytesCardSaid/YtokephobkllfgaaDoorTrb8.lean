/- What is proved: Check, Sum and Encode of a record return what the reference returns, in worlds that hold the program's tables. No condition but that on the world. -/
import Derived.Test.YtokephobkllfgaaDoorTrb7
namespace Go.Proofs.YtokephobkllfgaaDoorRb
open Go Go.Proofs Go.Proofs.YtokephobkllfgaaDoorEv
set_option maxRecDepth 100000
set_option maxHeartbeats 4000000
set_option linter.unusedVariables false
theorem lawOK (v : denA [(.s (.v ⟨true, (Kd.pair (Kd.int .i64) (Kd.pair (Kd.int .i64) (Kd.pair Kd.str Kd.str)))⟩))]) (h : (both (gInt .i64) (both (gInt .i64) (both gStr gStr))) v.1 ∧ True) : ∃ H', CallOK Tryd.prog 4 (showA 0 [(.s (.v ⟨true, (Kd.pair (Kd.int .i64) (Kd.pair (Kd.int .i64) (Kd.pair Kd.str Kd.str)))⟩))] v).1 (showA 0 [(.s (.v ⟨true, (Kd.pair (Kd.int .i64) (Kd.pair (Kd.int .i64) (Kd.pair Kd.str Kd.str)))⟩))] v).2 (.sc (.bool true)) H' := by
  obtain ⟨⟨n, t, k, x⟩, ⟨⟩⟩ := v
  obtain ⟨⟨_, _, _, h1⟩, _⟩ := h
  have h1 : x.size ≤ 140737488351232 := h1
  exact ⟨_, evFuncV_sound R5_ok mixed Tryd.func4 (show Tryd.f4.body = some (bodyF Tryd.f4) from rfl) (noCuts_ok _) (law_at n t k x (by omega)) (by rw [showA_len]; decide)⟩
end Go.Proofs.YtokephobkllfgaaDoorRb
