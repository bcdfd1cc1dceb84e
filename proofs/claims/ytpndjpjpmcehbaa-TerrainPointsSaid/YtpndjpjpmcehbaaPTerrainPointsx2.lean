-- PRINTED BY print.sh 35421559b90ae4d0a3588c463048766b98c2df88dd9212a6774a882060cdf62d: not written by this session
import Derived.Test.YtpndjpjpmcehbaaPTerrainPointsx0
namespace Go.Proofs.Ytpndjpjpmcehbaa.PTerrainPoints
open Go.RowKit Go.Proofs.YtpndjpjpmcehbaaW.PrintWords Go.Proofs.YtpndjpjpmcehbaaW.PrintLast Go.Proofs.YtpndjpjpmcehbaaW.PrintMore
attribute [local go_sem] max2_int min2_int max_two min_two max_three min_three max_four min_four   -- for this text's walks alone
set_option linter.unusedVariables false
set_option linter.unusedSimpArgs false

/-! ### terrain_outside: function 114 -/
def terrain_outside.f (a0 : Int) (a1 : Int) (a2 : Int) : Option (Int) := some (mx (mx (wrap64 (a1 - a0)) (wrap64 (a0 - a2))) 0)
set_option maxHeartbeats 8000000 in
set_option maxRecDepth 100000 in
theorem terrain_outside.calls (a0 : Int) (a1 : Int) (a2 : Int) (r : Int) (w : World) (h : terrain_outside.f a0 a1 a2 = some r) :
    Calls Try.prog 114 #[.int .i64 a0, .int .i64 a1, .int .i64 a2] w fun e w' => e = .returned (.int .i64 r) ∧ Below w.heap.size w w' := by
  have HB := Aside0.mk (Below.refl w.heap.size w)
  have H : (some (mx (mx (wrap64 (a1 - a0)) (wrap64 (a0 - a2))) 0)) = some r := h
  clear h
  obtain ⟨ji4, hji4⟩ : ∃ j_ : Int, (mx (wrap64 (a1 - a0)) (wrap64 (a0 - a2))) = j_ := ⟨_, rfl⟩
  replace H : (some (mx (ji4) 0)) = some r := by first | (rw [hji4] at H; exact H) | (simp only [hji4] at H ⊢; exact H)
  have hji4_ : (if (wrap64 (a1 - a0)) < (wrap64 (a0 - a2)) then (wrap64 (a0 - a2)) else (wrap64 (a1 - a0))) = ji4 := hji4
  obtain ⟨ji5, hji5⟩ : ∃ j_ : Int, (mx (ji4) 0) = j_ := ⟨_, rfl⟩
  replace H : (some ji5) = some r := by first | (rw [hji5] at H; exact H) | (simp only [hji5] at H ⊢; exact H)
  have hji5_ : (if (ji4) < 0 then 0 else (ji4)) = ji5 := hji5
  obtain rfl := Option.some.inj H
  go_enter Try.func114, Try.ntmps114
  go_wp2
  go_ret
  exact ⟨by first | rfl | (simp [errW_none, errW_some] <;> rfl) | (simp only [← hji4, ← hji5]; first | rfl | (simp [errW_none, errW_some] <;> rfl)) | (simp [*, errW_none, errW_some] <;> rfl), by repeat (first | (with_reducible first | exact HB.out | apply below_alloc | apply pw_below_drewN | apply below_drew1) | exact HB.out)⟩

end Go.Proofs.Ytpndjpjpmcehbaa.PTerrainPoints
