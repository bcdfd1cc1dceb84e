-- PRINTED BY print.sh 35421559b90ae4d0a3588c463048766b98c2df88dd9212a6774a882060cdf62d: not written by this session
import Derived.Test.YtlaaeighanknpaaPApproachSpeedsx0
import Derived.Test.YtlaaeighanknpaaPApproachSpeedsx1
namespace Go.Proofs.Ytlaaeighanknpaa.PApproachSpeeds
open Go.RowKit Go.Proofs.YtlaaeighanknpaaW.PrintWords Go.Proofs.YtlaaeighanknpaaW.PrintLast Go.Proofs.YtlaaeighanknpaaW.PrintMore
attribute [local go_sem] max2_int min2_int max_two min_two max_three min_three max_four min_four   -- for this text's walks alone
set_option linter.unusedVariables false
set_option linter.unusedSimpArgs false

/-! ### skywaylaw4_ApproachSpeeds: function 5 -/
mutual
def skywaylaw4_ApproachSpeeds.j0 : Nat → Int → Int → Int → Int → Bool → Option (Bool)
  | 0, _, _, _, _, _ => none
  | k + 1, x0, x1, x2, x3, x26 => if x26 = true then (some false) else ((approach_Speed.f x0 x1 x2 x3).bind fun bt106 => ((approach_Wait.f x0 x1 x2 x3).bind fun bt108 => ((skywayref4_In.f x0 0 4000000).bind fun t110 => (if t110 = true then ((skywayref4_In.f x1 0 200000).bind fun t111 => (if t111 = true then ((skywayref4_In.f x3 1 400).bind fun t112 => (if t112 = true then ((skywayref4_In.f x2 1 x3).bind fun t113 => (skywaylaw4_ApproachSpeeds.j1 k x0 x1 x2 x3 bt106.1 bt106.2 bt108.1 bt108.2 (!t113))) else (skywaylaw4_ApproachSpeeds.j1 k x0 x1 x2 x3 bt106.1 bt106.2 bt108.1 bt108.2 true))) else (skywaylaw4_ApproachSpeeds.j1 k x0 x1 x2 x3 bt106.1 bt106.2 bt108.1 bt108.2 true))) else (skywaylaw4_ApproachSpeeds.j1 k x0 x1 x2 x3 bt106.1 bt106.2 bt108.1 bt108.2 true)))))
def skywaylaw4_ApproachSpeeds.j1 : Nat → Int → Int → Int → Int → Int → Int → Int → Int → Bool → Option (Bool)
  | 0, _, _, _, _, _, _, _, _, _ => none
  | k + 1, x0, x1, x2, x3, x11, x12, x13, x14, x61 => if x61 = true then (if x11 = 0 then (if x13 = 0 then (if x12 = 4 then (some (x14 == 4)) else (some false)) else (some false)) else (some false)) else (skywaylaw4_ApproachSpeeds.l0 k x0 x1 x2 x3 x11 x12 x13 x14 x2)
def skywaylaw4_ApproachSpeeds.l0 : Nat → Int → Int → Int → Int → Int → Int → Int → Int → Int → Option (Bool)
  | 0, _, _, _, _, _, _, _, _, _ => none
  | k + 1, x0, x1, x2, x3, x11, x12, x13, x14, x15 => if x15 ≤ x3 then (if (wrap64 (x15 * x1)) < x0 then (skywaylaw4_ApproachSpeeds.l0 k x0 x1 x2 x3 x11 x12 x13 x14 (wrap64 (x15 + 1))) else (if x15 > x3 then (if x11 = 0 then (if x13 = 0 then (if x12 = 8 then (some (x14 == 8)) else (some false)) else (some false)) else (some false)) else (if x13 = 0 then (if (wrap64 (x2 * x1)) ≤ (wrap64 ((wrap64 (x0 + x2)) - 1)) then (if x12 = 0 then (if x14 = 0 then (if x11 = x15 then (some true) else (some false)) else (some false)) else (some false)) else (if x13 ≥ 0 then (if (wrap64 (x2 * (wrap64 (x1 - x13)))) ≥ x0 then (if x12 = 0 then (if x14 = 0 then (if x11 = x15 then (some (decide ((wrap64 (x2 * (wrap64 ((wrap64 (x1 - x13)) - 1)))) < x0))) else (some false)) else (some false)) else (some false)) else (if x12 = 0 then (if x14 = 0 then (if x11 = x15 then (some false) else (some false)) else (some false)) else (some false))) else (if x12 = 0 then (if x14 = 0 then (if x11 = x15 then (some false) else (some false)) else (some false)) else (some false)))) else (if x13 ≥ 0 then (if (wrap64 (x2 * (wrap64 (x1 - x13)))) ≥ x0 then (if x12 = 0 then (if x14 = 0 then (if x11 = x15 then (some (decide ((wrap64 (x2 * (wrap64 ((wrap64 (x1 - x13)) - 1)))) < x0))) else (some false)) else (some false)) else (some false)) else (if x12 = 0 then (if x14 = 0 then (if x11 = x15 then (some false) else (some false)) else (some false)) else (some false))) else (if x12 = 0 then (if x14 = 0 then (if x11 = x15 then (some false) else (some false)) else (some false)) else (some false)))))) else (if x15 > x3 then (if x11 = 0 then (if x13 = 0 then (if x12 = 8 then (some (x14 == 8)) else (some false)) else (some false)) else (some false)) else (if x13 = 0 then (if (wrap64 (x2 * x1)) ≤ (wrap64 ((wrap64 (x0 + x2)) - 1)) then (if x12 = 0 then (if x14 = 0 then (if x11 = x15 then (some true) else (some false)) else (some false)) else (some false)) else (if x13 ≥ 0 then (if (wrap64 (x2 * (wrap64 (x1 - x13)))) ≥ x0 then (if x12 = 0 then (if x14 = 0 then (if x11 = x15 then (some (decide ((wrap64 (x2 * (wrap64 ((wrap64 (x1 - x13)) - 1)))) < x0))) else (some false)) else (some false)) else (some false)) else (if x12 = 0 then (if x14 = 0 then (if x11 = x15 then (some false) else (some false)) else (some false)) else (some false))) else (if x12 = 0 then (if x14 = 0 then (if x11 = x15 then (some false) else (some false)) else (some false)) else (some false)))) else (if x13 ≥ 0 then (if (wrap64 (x2 * (wrap64 (x1 - x13)))) ≥ x0 then (if x12 = 0 then (if x14 = 0 then (if x11 = x15 then (some (decide ((wrap64 (x2 * (wrap64 ((wrap64 (x1 - x13)) - 1)))) < x0))) else (some false)) else (some false)) else (some false)) else (if x12 = 0 then (if x14 = 0 then (if x11 = x15 then (some false) else (some false)) else (some false)) else (some false))) else (if x12 = 0 then (if x14 = 0 then (if x11 = x15 then (some false) else (some false)) else (some false)) else (some false)))))
end
def skywaylaw4_ApproachSpeeds.f (k : Nat) (a0 : Int) (a1 : Int) (a2 : Int) (a3 : Int) : Option (Bool) := (approach_Speed.f 1000 30 20 50).bind fun bt104 => (if bt104.2 = 0 then (skywaylaw4_ApproachSpeeds.j0 k a0 a1 a2 a3 (bt104.1 != 34)) else (skywaylaw4_ApproachSpeeds.j0 k a0 a1 a2 a3 true))
theorem skywaylaw4_ApproachSpeeds.mono_l : ∀ k, (∀ y0 y1 y2 y3 y4, LeO (skywaylaw4_ApproachSpeeds.j0 k y0 y1 y2 y3 y4) (skywaylaw4_ApproachSpeeds.j0 (k + 1) y0 y1 y2 y3 y4)) ∧ (∀ y0 y1 y2 y3 y4 y5 y6 y7 y8, LeO (skywaylaw4_ApproachSpeeds.j1 k y0 y1 y2 y3 y4 y5 y6 y7 y8) (skywaylaw4_ApproachSpeeds.j1 (k + 1) y0 y1 y2 y3 y4 y5 y6 y7 y8)) ∧ (∀ y0 y1 y2 y3 y4 y5 y6 y7 y8, LeO (skywaylaw4_ApproachSpeeds.l0 k y0 y1 y2 y3 y4 y5 y6 y7 y8) (skywaylaw4_ApproachSpeeds.l0 (k + 1) y0 y1 y2 y3 y4 y5 y6 y7 y8))
  | 0 => ⟨fun _ _ _ _ _ r h => by simp [skywaylaw4_ApproachSpeeds.j0] at h, fun _ _ _ _ _ _ _ _ _ r h => by simp [skywaylaw4_ApproachSpeeds.j1] at h, fun _ _ _ _ _ _ _ _ _ r h => by simp [skywaylaw4_ApproachSpeeds.l0] at h⟩
  | k + 1 => by
    obtain ⟨ih0, ih1, ih2⟩ := skywaylaw4_ApproachSpeeds.mono_l k
    refine ⟨?_, ?_, ?_⟩
    · intro y0 y1 y2 y3 y4
      unfold skywaylaw4_ApproachSpeeds.j0
      repeat' first
      | (with_reducible exact ih0 _ _ _ _ _)
      | (with_reducible exact ih1 _ _ _ _ _ _ _ _ _)
      | (with_reducible exact ih2 _ _ _ _ _ _ _ _ _)
      | (with_reducible exact LeO.refl _)
      | (with_reducible exact LeO.none _)
      | (with_reducible refine LeO.ite ?_ ?_)
      | (with_reducible refine LeO.bind ?_ (fun _ => ?_))
      | exact ih0 _ _ _ _ _
      | exact ih1 _ _ _ _ _ _ _ _ _
      | exact ih2 _ _ _ _ _ _ _ _ _
      | exact LeO.none _
      | refine LeO.ite ?_ ?_
      | refine LeO.bind ?_ (fun _ => ?_)
    · intro y0 y1 y2 y3 y4 y5 y6 y7 y8
      unfold skywaylaw4_ApproachSpeeds.j1
      repeat' first
      | (with_reducible exact ih0 _ _ _ _ _)
      | (with_reducible exact ih1 _ _ _ _ _ _ _ _ _)
      | (with_reducible exact ih2 _ _ _ _ _ _ _ _ _)
      | (with_reducible exact LeO.refl _)
      | (with_reducible exact LeO.none _)
      | (with_reducible refine LeO.ite ?_ ?_)
      | (with_reducible refine LeO.bind ?_ (fun _ => ?_))
      | exact ih0 _ _ _ _ _
      | exact ih1 _ _ _ _ _ _ _ _ _
      | exact ih2 _ _ _ _ _ _ _ _ _
      | exact LeO.none _
      | refine LeO.ite ?_ ?_
      | refine LeO.bind ?_ (fun _ => ?_)
    · intro y0 y1 y2 y3 y4 y5 y6 y7 y8
      unfold skywaylaw4_ApproachSpeeds.l0
      repeat' first
      | (with_reducible exact ih0 _ _ _ _ _)
      | (with_reducible exact ih1 _ _ _ _ _ _ _ _ _)
      | (with_reducible exact ih2 _ _ _ _ _ _ _ _ _)
      | (with_reducible exact LeO.refl _)
      | (with_reducible exact LeO.none _)
      | (with_reducible refine LeO.ite ?_ ?_)
      | (with_reducible refine LeO.bind ?_ (fun _ => ?_))
      | exact ih0 _ _ _ _ _
      | exact ih1 _ _ _ _ _ _ _ _ _
      | exact ih2 _ _ _ _ _ _ _ _ _
      | exact LeO.none _
      | refine LeO.ite ?_ ?_
      | refine LeO.bind ?_ (fun _ => ?_)
theorem skywaylaw4_ApproachSpeeds.mono : ∀ a0 a1 a2 a3 k, LeO (skywaylaw4_ApproachSpeeds.f k a0 a1 a2 a3) (skywaylaw4_ApproachSpeeds.f (k + 1) a0 a1 a2 a3) := by
  intro a0 a1 a2 a3 k
  obtain ⟨ih0, ih1, ih2⟩ := skywaylaw4_ApproachSpeeds.mono_l k
  unfold skywaylaw4_ApproachSpeeds.f
  repeat' first
      | (with_reducible exact ih0 _ _ _ _ _)
      | (with_reducible exact ih1 _ _ _ _ _ _ _ _ _)
      | (with_reducible exact ih2 _ _ _ _ _ _ _ _ _)
      | (with_reducible exact LeO.refl _)
      | (with_reducible exact LeO.none _)
      | (with_reducible refine LeO.ite ?_ ?_)
      | (with_reducible refine LeO.bind ?_ (fun _ => ?_))
      | exact ih0 _ _ _ _ _
      | exact ih1 _ _ _ _ _ _ _ _ _
      | exact ih2 _ _ _ _ _ _ _ _ _
      | exact LeO.none _
      | refine LeO.ite ?_ ?_
      | refine LeO.bind ?_ (fun _ => ?_)
set_option maxHeartbeats 8000000 in
set_option maxRecDepth 100000 in
theorem skywaylaw4_ApproachSpeeds.calls (k : Nat) (a0 : Int) (a1 : Int) (a2 : Int) (a3 : Int) (r : Bool) (w : World) (h : skywaylaw4_ApproachSpeeds.f k a0 a1 a2 a3 = some r) :
    Calls Try.prog 5 #[.int .i64 a0, .int .i64 a1, .int .i64 a2, .int .i64 a3] w fun e w' => e = .returned (.bool r) ∧ Below w.heap.size w w' := by
  have HB := Aside0.mk (Below.refl w.heap.size w)
  have H : ((approach_Speed.f 1000 30 20 50).bind fun bt104 => (if bt104.2 = 0 then (skywaylaw4_ApproachSpeeds.j0 k a0 a1 a2 a3 (bt104.1 != 34)) else (skywaylaw4_ApproachSpeeds.j0 k a0 a1 a2 a3 true))) = some r := h
  clear h
  replace H := Option.bind_eq_some_iff.mp H
  obtain ⟨⟨t104, t105⟩, A50, H⟩ := H
  replace H : (if t105 = 0 then (skywaylaw4_ApproachSpeeds.j0 k a0 a1 a2 a3 (t104 != 34)) else (skywaylaw4_ApproachSpeeds.j0 k a0 a1 a2 a3 true)) = some r := H
  have A5 := Aside0.mk A50
  clear A50
  have HC6 := Aside0.mk H
  clear H
  go_enter Try.func5, Try.ntmps5
  go_upto_region 2 with (first | ((with_reducible refine gate_callee (f := 22) rfl ?_); refine goesL_ (some 18) rfl rfl Try.func22 (by kernel_rfl) rfl #[.int .i64 1000, .int .i64 30, .int .i64 20, .int .i64 50] rfl (by (try simp only [List.map_toArray, List.map_cons, List.map_nil]); first | done | rfl | (simp only [List.length_drop, List.length_take]; rfl)) ?_; (with_reducible refine (approach_Speed.calls 1000 30 20 50 t104 t105 _ A5.out).mono ?_); rintro e w' ⟨rfl, ⟨nd, rfl⟩⟩; refine ⟨_, rfl, ?_⟩))
  (try simp only [Act.put, List.setIfInBounds_toArray, List.set_cons_zero, List.set_cons_succ])
  go_cut [26] (fun v26 wc => ∃ (kq : Nat) (x26_5 : Bool), v26 = .bool x26_5 ∧ Aside0 (skywaylaw4_ApproachSpeeds.j0 kq a0 a1 a2 a3 x26_5 = some r) ∧ Aside0 (kq ≤ k) ∧ Aside0 (Below w.heap.size w wc))
  case first =>
    have H := HC6.out
    clear HC6
    by_cases c7 : t105 = 0
    · rw [if_pos c7] at H
      have c7b0 : (t105 == 0) = true := beq_iff_eq.mpr c7
      have c7b1 : (t105 != 0) = false := bne_eq_false_iff_eq.mpr c7
      clear c7
      (first | rw [c7b0] | (simp only [i64_w, i32_w]; rw [c7b0]) | skip)
      have H' := Aside0.mk H
      clear H
      go_wp2
      go_meet
      case rel => exact ⟨_, ((t104 != 34)), (by first | rfl | (simp; done) | (simp [*]; done)), H', ⟨by first | omega | exact Nat.le_refl _⟩, ⟨by repeat (first | (with_reducible first | exact HB.out | apply below_alloc | apply pw_below_drewN | apply below_drew1) | exact HB.out)⟩⟩
    · rw [if_neg c7] at H
      have c7b0 : (t105 == 0) = false := beq_eq_false_iff_ne.mpr c7
      have c7b1 : (t105 != 0) = true := bne_iff_ne.mpr c7
      (first | rw [c7b0] | (simp only [i64_w, i32_w]; rw [c7b0]) | skip)
      have H' := Aside0.mk H
      clear H
      go_wp2
      go_meet
      case rel => exact ⟨_, (true), (by first | rfl | (simp; done) | (simp [*]; done)), H', ⟨by first | omega | exact Nat.le_refl _⟩, ⟨by repeat (first | (with_reducible first | exact HB.out | apply below_alloc | apply pw_below_drewN | apply below_drew1) | exact HB.out)⟩⟩
  case rest =>
    clear HC6
    try clear c2
    try clear p2
    try clear c5
    try clear c7
    try clear c7b0
    try clear c7b1
    obtain ⟨kq, x26_5, rfl, HA, HJ5, HB⟩ := hcut
    cases kq with
    | zero => exact absurd HA.out (by simp [skywaylaw4_ApproachSpeeds.j0])
    | succ kj5 =>
      have H := HA.out
      clear HA
      simp only [skywaylaw4_ApproachSpeeds.j0] at H
      by_cases c8 : x26_5 = true
      · subst c8
        have H1 : (some false) = some r := by rw [if_pos rfl] at H; exact H
        clear H
        have H := H1
        clear H1
        obtain rfl := Option.some.inj H
        go_wp2
        go_ret
        exact ⟨by first | rfl | (simp [errW_none, errW_some] <;> rfl) | (simp [*, errW_none, errW_some] <;> rfl), by repeat (first | (with_reducible first | exact HB.out | apply below_alloc | apply pw_below_drewN | apply below_drew1) | exact HB.out)⟩
      · replace c8 := Bool.eq_false_iff.mpr c8
        subst c8
        have H1 : ((approach_Speed.f a0 a1 a2 a3).bind fun bt106 => ((approach_Wait.f a0 a1 a2 a3).bind fun bt108 => ((skywayref4_In.f a0 0 4000000).bind fun t110 => (if t110 = true then ((skywayref4_In.f a1 0 200000).bind fun t111 => (if t111 = true then ((skywayref4_In.f a3 1 400).bind fun t112 => (if t112 = true then ((skywayref4_In.f a2 1 a3).bind fun t113 => (skywaylaw4_ApproachSpeeds.j1 kj5 a0 a1 a2 a3 bt106.1 bt106.2 bt108.1 bt108.2 (!t113))) else (skywaylaw4_ApproachSpeeds.j1 kj5 a0 a1 a2 a3 bt106.1 bt106.2 bt108.1 bt108.2 true))) else (skywaylaw4_ApproachSpeeds.j1 kj5 a0 a1 a2 a3 bt106.1 bt106.2 bt108.1 bt108.2 true))) else (skywaylaw4_ApproachSpeeds.j1 kj5 a0 a1 a2 a3 bt106.1 bt106.2 bt108.1 bt108.2 true))))) = some r := by rw [if_neg (show ¬ (false = true) by decide)] at H; exact H
        clear H
        have H := H1
        clear H1
        replace H := Option.bind_eq_some_iff.mp H
        obtain ⟨⟨t106, t107⟩, A90, H⟩ := H
        replace H : ((approach_Wait.f a0 a1 a2 a3).bind fun bt108 => ((skywayref4_In.f a0 0 4000000).bind fun t110 => (if t110 = true then ((skywayref4_In.f a1 0 200000).bind fun t111 => (if t111 = true then ((skywayref4_In.f a3 1 400).bind fun t112 => (if t112 = true then ((skywayref4_In.f a2 1 a3).bind fun t113 => (skywaylaw4_ApproachSpeeds.j1 kj5 a0 a1 a2 a3 t106 t107 bt108.1 bt108.2 (!t113))) else (skywaylaw4_ApproachSpeeds.j1 kj5 a0 a1 a2 a3 t106 t107 bt108.1 bt108.2 true))) else (skywaylaw4_ApproachSpeeds.j1 kj5 a0 a1 a2 a3 t106 t107 bt108.1 bt108.2 true))) else (skywaylaw4_ApproachSpeeds.j1 kj5 a0 a1 a2 a3 t106 t107 bt108.1 bt108.2 true)))) = some r := H
        have A9 := Aside0.mk A90
        clear A90
        replace H := Option.bind_eq_some_iff.mp H
        obtain ⟨⟨t108, t109⟩, A100, H⟩ := H
        replace H : ((skywayref4_In.f a0 0 4000000).bind fun t110 => (if t110 = true then ((skywayref4_In.f a1 0 200000).bind fun t111 => (if t111 = true then ((skywayref4_In.f a3 1 400).bind fun t112 => (if t112 = true then ((skywayref4_In.f a2 1 a3).bind fun t113 => (skywaylaw4_ApproachSpeeds.j1 kj5 a0 a1 a2 a3 t106 t107 t108 t109 (!t113))) else (skywaylaw4_ApproachSpeeds.j1 kj5 a0 a1 a2 a3 t106 t107 t108 t109 true))) else (skywaylaw4_ApproachSpeeds.j1 kj5 a0 a1 a2 a3 t106 t107 t108 t109 true))) else (skywaylaw4_ApproachSpeeds.j1 kj5 a0 a1 a2 a3 t106 t107 t108 t109 true))) = some r := H
        have A10 := Aside0.mk A100
        clear A100
        have HC11 := Aside0.mk H
        clear H
        go_upto_region 6 with (first | ((with_reducible refine gate_callee (f := 22) rfl ?_); refine goesL_ (some 32) rfl rfl Try.func22 (by kernel_rfl) rfl #[.int .i64 a0, .int .i64 a1, .int .i64 a2, .int .i64 a3] rfl (by (try simp only [List.map_toArray, List.map_cons, List.map_nil]); first | done | rfl | (simp only [List.length_drop, List.length_take]; rfl)) ?_; (with_reducible refine (approach_Speed.calls a0 a1 a2 a3 t106 t107 _ A9.out).mono ?_); rintro e w' ⟨rfl, ⟨nd, rfl⟩⟩; refine ⟨_, rfl, ?_⟩) | ((with_reducible refine gate_callee (f := 23) rfl ?_); refine goesL_ (some 40) rfl rfl Try.func23 (by kernel_rfl) rfl #[.int .i64 a0, .int .i64 a1, .int .i64 a2, .int .i64 a3] rfl (by (try simp only [List.map_toArray, List.map_cons, List.map_nil]); first | done | rfl | (simp only [List.length_drop, List.length_take]; rfl)) ?_; (with_reducible refine (approach_Wait.calls a0 a1 a2 a3 t108 t109 _ A10.out).mono ?_); rintro e w12 ⟨rfl, hb⟩; refine ⟨_, rfl, ?_⟩; have n0_ := Aside0.mk (below_step (by repeat (first | (with_reducible first | exact HB.out | apply below_alloc | apply pw_below_drewN | apply below_drew1) | exact HB.out)) hb); clear HB; have HB := n0_; clear n0_; (try clear hb); (try clear hb2); (try clear hk); (try clear hi)))
        (try simp only [Act.put, List.setIfInBounds_toArray, List.set_cons_zero, List.set_cons_succ])
        go_cut [61] (fun v61 wc => ∃ (kq : Nat) (x61_10 : Bool), v61 = .bool x61_10 ∧ Aside0 (skywaylaw4_ApproachSpeeds.j1 kq a0 a1 a2 a3 t106 t107 t108 t109 x61_10 = some r) ∧ Aside0 (kq ≤ kj5) ∧ Aside0 (Below w.heap.size w wc))
        case first =>
          have H := HC11.out
          clear HC11
          replace H := Option.bind_eq_some_iff.mp H
          obtain ⟨t110, A130, H⟩ := H
          replace H : (if t110 = true then ((skywayref4_In.f a1 0 200000).bind fun t111 => (if t111 = true then ((skywayref4_In.f a3 1 400).bind fun t112 => (if t112 = true then ((skywayref4_In.f a2 1 a3).bind fun t113 => (skywaylaw4_ApproachSpeeds.j1 kj5 a0 a1 a2 a3 t106 t107 t108 t109 (!t113))) else (skywaylaw4_ApproachSpeeds.j1 kj5 a0 a1 a2 a3 t106 t107 t108 t109 true))) else (skywaylaw4_ApproachSpeeds.j1 kj5 a0 a1 a2 a3 t106 t107 t108 t109 true))) else (skywaylaw4_ApproachSpeeds.j1 kj5 a0 a1 a2 a3 t106 t107 t108 t109 true)) = some r := H
          have A13 := Aside0.mk A130
          clear A130
          by_cases c14 : t110 = true
          · subst c14
            have H1 : ((skywayref4_In.f a1 0 200000).bind fun t111 => (if t111 = true then ((skywayref4_In.f a3 1 400).bind fun t112 => (if t112 = true then ((skywayref4_In.f a2 1 a3).bind fun t113 => (skywaylaw4_ApproachSpeeds.j1 kj5 a0 a1 a2 a3 t106 t107 t108 t109 (!t113))) else (skywaylaw4_ApproachSpeeds.j1 kj5 a0 a1 a2 a3 t106 t107 t108 t109 true))) else (skywaylaw4_ApproachSpeeds.j1 kj5 a0 a1 a2 a3 t106 t107 t108 t109 true))) = some r := by rw [if_pos rfl] at H; exact H
            clear H
            have H := H1
            clear H1
            replace H := Option.bind_eq_some_iff.mp H
            obtain ⟨t111, A150, H⟩ := H
            replace H : (if t111 = true then ((skywayref4_In.f a3 1 400).bind fun t112 => (if t112 = true then ((skywayref4_In.f a2 1 a3).bind fun t113 => (skywaylaw4_ApproachSpeeds.j1 kj5 a0 a1 a2 a3 t106 t107 t108 t109 (!t113))) else (skywaylaw4_ApproachSpeeds.j1 kj5 a0 a1 a2 a3 t106 t107 t108 t109 true))) else (skywaylaw4_ApproachSpeeds.j1 kj5 a0 a1 a2 a3 t106 t107 t108 t109 true)) = some r := H
            have A15 := Aside0.mk A150
            clear A150
            by_cases c16 : t111 = true
            · subst c16
              have H1 : ((skywayref4_In.f a3 1 400).bind fun t112 => (if t112 = true then ((skywayref4_In.f a2 1 a3).bind fun t113 => (skywaylaw4_ApproachSpeeds.j1 kj5 a0 a1 a2 a3 t106 t107 t108 t109 (!t113))) else (skywaylaw4_ApproachSpeeds.j1 kj5 a0 a1 a2 a3 t106 t107 t108 t109 true))) = some r := by rw [if_pos rfl] at H; exact H
              clear H
              have H := H1
              clear H1
              replace H := Option.bind_eq_some_iff.mp H
              obtain ⟨t112, A170, H⟩ := H
              replace H : (if t112 = true then ((skywayref4_In.f a2 1 a3).bind fun t113 => (skywaylaw4_ApproachSpeeds.j1 kj5 a0 a1 a2 a3 t106 t107 t108 t109 (!t113))) else (skywaylaw4_ApproachSpeeds.j1 kj5 a0 a1 a2 a3 t106 t107 t108 t109 true)) = some r := H
              have A17 := Aside0.mk A170
              clear A170
              by_cases c18 : t112 = true
              · subst c18
                have H1 : ((skywayref4_In.f a2 1 a3).bind fun t113 => (skywaylaw4_ApproachSpeeds.j1 kj5 a0 a1 a2 a3 t106 t107 t108 t109 (!t113))) = some r := by rw [if_pos rfl] at H; exact H
                clear H
                have H := H1
                clear H1
                replace H := Option.bind_eq_some_iff.mp H
                obtain ⟨t113, A190, H⟩ := H
                replace H : (skywaylaw4_ApproachSpeeds.j1 kj5 a0 a1 a2 a3 t106 t107 t108 t109 (!t113)) = some r := H
                have A19 := Aside0.mk A190
                clear A190
                have H' := Aside0.mk H
                clear H
                go_wp2_with (first | ((with_reducible refine gate_callee (f := 24) rfl ?_); refine goesL_ (some 44) rfl rfl Try.func24 (by kernel_rfl) rfl #[.int .i64 a0, .int .i64 0, .int .i64 4000000] rfl (by (try simp only [List.map_toArray, List.map_cons, List.map_nil]); first | done | rfl | (simp only [List.length_drop, List.length_take]; rfl)) ?_; (with_reducible refine (skywayref4_In.calls a0 0 4000000 true _ A13.out).mono ?_); rintro e w' ⟨rfl, ⟨nd, rfl⟩⟩; refine ⟨_, rfl, ?_⟩) | (go_at_call 24; (with_reducible refine (skywayref4_In.calls a1 0 200000 true _ A15.out).mono ?_); rintro e w' ⟨rfl, ⟨nd, rfl⟩⟩) | (go_at_call 24; (with_reducible refine (skywayref4_In.calls a3 1 400 true _ A17.out).mono ?_); rintro e w' ⟨rfl, ⟨nd, rfl⟩⟩) | (go_at_call 24; (with_reducible refine (skywayref4_In.calls a2 1 a3 t113 _ A19.out).mono ?_); rintro e w' ⟨rfl, ⟨nd, rfl⟩⟩))
                go_meet
                case rel => exact ⟨_, (!t113), (by first | rfl | (simp; done) | (simp [*]; done)), H', ⟨by have := HJ5.out; first | omega | exact Nat.le_refl _⟩, ⟨by repeat (first | (with_reducible first | exact HB.out | apply below_alloc | apply pw_below_drewN | apply below_drew1) | exact HB.out)⟩⟩
              · replace c18 := Bool.eq_false_iff.mpr c18
                subst c18
                have H1 : (skywaylaw4_ApproachSpeeds.j1 kj5 a0 a1 a2 a3 t106 t107 t108 t109 true) = some r := by rw [if_neg (show ¬ (false = true) by decide)] at H; exact H
                clear H
                have H := H1
                clear H1
                have H' := Aside0.mk H
                clear H
                go_wp2_with (first | ((with_reducible refine gate_callee (f := 24) rfl ?_); refine goesL_ (some 44) rfl rfl Try.func24 (by kernel_rfl) rfl #[.int .i64 a0, .int .i64 0, .int .i64 4000000] rfl (by (try simp only [List.map_toArray, List.map_cons, List.map_nil]); first | done | rfl | (simp only [List.length_drop, List.length_take]; rfl)) ?_; (with_reducible refine (skywayref4_In.calls a0 0 4000000 true _ A13.out).mono ?_); rintro e w' ⟨rfl, ⟨nd, rfl⟩⟩; refine ⟨_, rfl, ?_⟩) | (go_at_call 24; (with_reducible refine (skywayref4_In.calls a1 0 200000 true _ A15.out).mono ?_); rintro e w' ⟨rfl, ⟨nd, rfl⟩⟩) | (go_at_call 24; (with_reducible refine (skywayref4_In.calls a3 1 400 false _ A17.out).mono ?_); rintro e w' ⟨rfl, ⟨nd, rfl⟩⟩))
                go_meet
                case rel => exact ⟨_, (true), (by first | rfl | (simp; done) | (simp [*]; done)), H', ⟨by have := HJ5.out; first | omega | exact Nat.le_refl _⟩, ⟨by repeat (first | (with_reducible first | exact HB.out | apply below_alloc | apply pw_below_drewN | apply below_drew1) | exact HB.out)⟩⟩
            · replace c16 := Bool.eq_false_iff.mpr c16
              subst c16
              have H1 : (skywaylaw4_ApproachSpeeds.j1 kj5 a0 a1 a2 a3 t106 t107 t108 t109 true) = some r := by rw [if_neg (show ¬ (false = true) by decide)] at H; exact H
              clear H
              have H := H1
              clear H1
              have H' := Aside0.mk H
              clear H
              go_wp2_with (first | ((with_reducible refine gate_callee (f := 24) rfl ?_); refine goesL_ (some 44) rfl rfl Try.func24 (by kernel_rfl) rfl #[.int .i64 a0, .int .i64 0, .int .i64 4000000] rfl (by (try simp only [List.map_toArray, List.map_cons, List.map_nil]); first | done | rfl | (simp only [List.length_drop, List.length_take]; rfl)) ?_; (with_reducible refine (skywayref4_In.calls a0 0 4000000 true _ A13.out).mono ?_); rintro e w' ⟨rfl, ⟨nd, rfl⟩⟩; refine ⟨_, rfl, ?_⟩) | (go_at_call 24; (with_reducible refine (skywayref4_In.calls a1 0 200000 false _ A15.out).mono ?_); rintro e w' ⟨rfl, ⟨nd, rfl⟩⟩))
              go_meet
              case rel => exact ⟨_, (true), (by first | rfl | (simp; done) | (simp [*]; done)), H', ⟨by have := HJ5.out; first | omega | exact Nat.le_refl _⟩, ⟨by repeat (first | (with_reducible first | exact HB.out | apply below_alloc | apply pw_below_drewN | apply below_drew1) | exact HB.out)⟩⟩
          · replace c14 := Bool.eq_false_iff.mpr c14
            subst c14
            have H1 : (skywaylaw4_ApproachSpeeds.j1 kj5 a0 a1 a2 a3 t106 t107 t108 t109 true) = some r := by rw [if_neg (show ¬ (false = true) by decide)] at H; exact H
            clear H
            have H := H1
            clear H1
            have H' := Aside0.mk H
            clear H
            go_wp2_with (first | ((with_reducible refine gate_callee (f := 24) rfl ?_); refine goesL_ (some 44) rfl rfl Try.func24 (by kernel_rfl) rfl #[.int .i64 a0, .int .i64 0, .int .i64 4000000] rfl (by (try simp only [List.map_toArray, List.map_cons, List.map_nil]); first | done | rfl | (simp only [List.length_drop, List.length_take]; rfl)) ?_; (with_reducible refine (skywayref4_In.calls a0 0 4000000 false _ A13.out).mono ?_); rintro e w' ⟨rfl, ⟨nd, rfl⟩⟩; refine ⟨_, rfl, ?_⟩))
            go_meet
            case rel => exact ⟨_, (true), (by first | rfl | (simp; done) | (simp [*]; done)), H', ⟨by have := HJ5.out; first | omega | exact Nat.le_refl _⟩, ⟨by repeat (first | (with_reducible first | exact HB.out | apply below_alloc | apply pw_below_drewN | apply below_drew1) | exact HB.out)⟩⟩
        case rest =>
          clear HC11
          try clear c1
          try clear c2
          try clear p2
          try clear c5
          try clear c7
          try clear c7b0
          try clear c7b1
          try clear c8
          try clear c14
          try clear c16
          try clear c18
          try clear p2
          obtain ⟨kq, x61_10, rfl, HA, HJ10, HB⟩ := hcut
          cases kq with
          | zero => exact absurd HA.out (by simp [skywaylaw4_ApproachSpeeds.j1])
          | succ kj10 =>
            have H := HA.out
            clear HA
            simp only [skywaylaw4_ApproachSpeeds.j1] at H
            by_cases c20 : x61_10 = true
            · subst c20
              have H1 : (if t106 = 0 then (if t108 = 0 then (if t107 = 4 then (some (t109 == 4)) else (some false)) else (some false)) else (some false)) = some r := by rw [if_pos rfl] at H; exact H
              clear H
              have H := H1
              clear H1
              by_cases c21 : t106 = 0
              · rw [if_pos c21] at H
                have c21b0 : (t106 == 0) = true := beq_iff_eq.mpr c21
                have c21b1 : (t106 != 0) = false := bne_eq_false_iff_eq.mpr c21
                clear c21
                by_cases c22 : t108 = 0
                · rw [if_pos c22] at H
                  have c22b0 : (t108 == 0) = true := beq_iff_eq.mpr c22
                  have c22b1 : (t108 != 0) = false := bne_eq_false_iff_eq.mpr c22
                  clear c22
                  by_cases c23 : t107 = 4
                  · rw [if_pos c23] at H
                    have c23b0 : (t107 == 4) = true := beq_iff_eq.mpr c23
                    have c23b1 : (t107 != 4) = false := bne_eq_false_iff_eq.mpr c23
                    clear c23
                    obtain rfl := Option.some.inj H
                    go_wp2
                    go_ret
                    exact ⟨by first | rfl | (simp [errW_none, errW_some] <;> rfl) | (simp [*, errW_none, errW_some] <;> rfl), by repeat (first | (with_reducible first | exact HB.out | apply below_alloc | apply pw_below_drewN | apply below_drew1) | exact HB.out)⟩
                  · rw [if_neg c23] at H
                    have c23b0 : (t107 == 4) = false := beq_eq_false_iff_ne.mpr c23
                    have c23b1 : (t107 != 4) = true := bne_iff_ne.mpr c23
                    obtain rfl := Option.some.inj H
                    go_wp2
                    go_ret
                    exact ⟨by first | rfl | (simp [errW_none, errW_some] <;> rfl) | (simp [*, errW_none, errW_some] <;> rfl), by repeat (first | (with_reducible first | exact HB.out | apply below_alloc | apply pw_below_drewN | apply below_drew1) | exact HB.out)⟩
                · rw [if_neg c22] at H
                  have c22b0 : (t108 == 0) = false := beq_eq_false_iff_ne.mpr c22
                  have c22b1 : (t108 != 0) = true := bne_iff_ne.mpr c22
                  obtain rfl := Option.some.inj H
                  go_wp2
                  go_ret
                  exact ⟨by first | rfl | (simp [errW_none, errW_some] <;> rfl) | (simp [*, errW_none, errW_some] <;> rfl), by repeat (first | (with_reducible first | exact HB.out | apply below_alloc | apply pw_below_drewN | apply below_drew1) | exact HB.out)⟩
              · rw [if_neg c21] at H
                have c21b0 : (t106 == 0) = false := beq_eq_false_iff_ne.mpr c21
                have c21b1 : (t106 != 0) = true := bne_iff_ne.mpr c21
                obtain rfl := Option.some.inj H
                go_wp2
                go_ret
                exact ⟨by first | rfl | (simp [errW_none, errW_some] <;> rfl) | (simp [*, errW_none, errW_some] <;> rfl), by repeat (first | (with_reducible first | exact HB.out | apply below_alloc | apply pw_below_drewN | apply below_drew1) | exact HB.out)⟩
            · replace c20 := Bool.eq_false_iff.mpr c20
              subst c20
              have H1 : (skywaylaw4_ApproachSpeeds.l0 kj10 a0 a1 a2 a3 t106 t107 t108 t109 a2) = some r := by rw [if_neg (show ¬ (false = true) by decide)] at H; exact H
              clear H
              have H := H1
              clear H1
              have H' := Aside0.mk H
              clear H
              go_wp2
              go_loopg [15] kj10 (fun kq v15 w' => ∃ (x15_3 : Int), v15 = .int .i64 x15_3 ∧ Aside0 (skywaylaw4_ApproachSpeeds.l0 kq a0 a1 a2 a3 t106 t107 t108 t109 x15_3 = some r) ∧ Aside0 (kq ≤ kj10) ∧ Aside0 (Below w.heap.size w w'))
              case atStart => exact ⟨(a2), (by first | rfl | (simp; done) | (simp [*]; done)), H', ⟨Nat.le_refl _⟩, ⟨by repeat (first | (with_reducible first | exact HB.out | apply below_alloc | apply pw_below_drewN | apply below_drew1) | exact HB.out)⟩⟩
              case round =>
                clear H'
                try clear c1
                try clear c2
                try clear p2
                try clear c5
                try clear c7
                try clear c7b0
                try clear c7b1
                try clear c8
                try clear c14
                try clear c16
                try clear c18
                try clear c20
                try clear c21
                try clear c21b0
                try clear c21b1
                try clear c22
                try clear c22b0
                try clear c22b1
                try clear c23
                try clear c23b0
                try clear c23b1
                try clear p2
                obtain ⟨x15_3, rfl, HA, HK3, HB⟩ := hrel
                cases gk with
                | zero => exact absurd HA.out (by simp [skywaylaw4_ApproachSpeeds.l0])
                | succ k3 =>
                  have H := HA.out
                  clear HA
                  simp only [skywaylaw4_ApproachSpeeds.l0] at H
                  by_cases c24 : x15_3 ≤ a3
                  · rw [if_pos c24] at H
                    have c24b0 : decide (x15_3 ≤ a3) = true := decide_eq_true c24
                    clear c24
                    by_cases c25 : (wrap64 (x15_3 * a1)) < a0
                    · rw [if_pos c25] at H
                      have c25b0 : decide ((wrap64 (x15_3 * a1)) < a0) = true := decide_eq_true c25
                      clear c25
                      have H' := Aside0.mk H
                      clear H
                      go_wp2
                      go_roundg k3
                      case measure => have := HJ5.out; have := HJ10.out; have := HK3.out; omega
                      case rel => exact ⟨(wrap64 (x15_3 + 1)), (by first | rfl | (simp; done) | (simp [*]; done)), H', ⟨by have := HJ5.out; have := HJ10.out; have := HK3.out; omega⟩, ⟨by repeat (first | (with_reducible first | exact HB.out | apply below_alloc | apply pw_below_drewN | apply below_drew1) | exact HB.out)⟩⟩
                    · rw [if_neg c25] at H
                      have c25b0 : decide ((wrap64 (x15_3 * a1)) < a0) = false := decide_eq_false c25
                      clear c25
                      by_cases c26 : x15_3 > a3
                      · rw [if_pos c26] at H
                        have c26b0 : decide (a3 < x15_3) = true := decide_eq_true c26
                        clear c26
                        by_cases c27 : t106 = 0
                        · rw [if_pos c27] at H
                          have c27b0 : (t106 == 0) = true := beq_iff_eq.mpr c27
                          have c27b1 : (t106 != 0) = false := bne_eq_false_iff_eq.mpr c27
                          clear c27
                          by_cases c28 : t108 = 0
                          · rw [if_pos c28] at H
                            have c28b0 : (t108 == 0) = true := beq_iff_eq.mpr c28
                            have c28b1 : (t108 != 0) = false := bne_eq_false_iff_eq.mpr c28
                            clear c28
                            by_cases c29 : t107 = 8
                            · rw [if_pos c29] at H
                              have c29b0 : (t107 == 8) = true := beq_iff_eq.mpr c29
                              have c29b1 : (t107 != 8) = false := bne_eq_false_iff_eq.mpr c29
                              clear c29
                              obtain rfl := Option.some.inj H
                              go_wp2
                              go_ret
                              exact ⟨by first | rfl | (simp [errW_none, errW_some] <;> rfl) | (simp [*, errW_none, errW_some] <;> rfl), by repeat (first | (with_reducible first | exact HB.out | apply below_alloc | apply pw_below_drewN | apply below_drew1) | exact HB.out)⟩
                            · rw [if_neg c29] at H
                              have c29b0 : (t107 == 8) = false := beq_eq_false_iff_ne.mpr c29
                              have c29b1 : (t107 != 8) = true := bne_iff_ne.mpr c29
                              obtain rfl := Option.some.inj H
                              go_wp2
                              go_ret
                              exact ⟨by first | rfl | (simp [errW_none, errW_some] <;> rfl) | (simp [*, errW_none, errW_some] <;> rfl), by repeat (first | (with_reducible first | exact HB.out | apply below_alloc | apply pw_below_drewN | apply below_drew1) | exact HB.out)⟩
                          · rw [if_neg c28] at H
                            have c28b0 : (t108 == 0) = false := beq_eq_false_iff_ne.mpr c28
                            have c28b1 : (t108 != 0) = true := bne_iff_ne.mpr c28
                            obtain rfl := Option.some.inj H
                            go_wp2
                            go_ret
                            exact ⟨by first | rfl | (simp [errW_none, errW_some] <;> rfl) | (simp [*, errW_none, errW_some] <;> rfl), by repeat (first | (with_reducible first | exact HB.out | apply below_alloc | apply pw_below_drewN | apply below_drew1) | exact HB.out)⟩
                        · rw [if_neg c27] at H
                          have c27b0 : (t106 == 0) = false := beq_eq_false_iff_ne.mpr c27
                          have c27b1 : (t106 != 0) = true := bne_iff_ne.mpr c27
                          obtain rfl := Option.some.inj H
                          go_wp2
                          go_ret
                          exact ⟨by first | rfl | (simp [errW_none, errW_some] <;> rfl) | (simp [*, errW_none, errW_some] <;> rfl), by repeat (first | (with_reducible first | exact HB.out | apply below_alloc | apply pw_below_drewN | apply below_drew1) | exact HB.out)⟩
                      · rw [if_neg c26] at H
                        have c26b0 : decide (a3 < x15_3) = false := decide_eq_false c26
                        clear c26
                        by_cases c30 : t108 = 0
                        · rw [if_pos c30] at H
                          have c30b0 : (t108 == 0) = true := beq_iff_eq.mpr c30
                          have c30b1 : (t108 != 0) = false := bne_eq_false_iff_eq.mpr c30
                          clear c30
                          by_cases c31 : (wrap64 (a2 * a1)) ≤ (wrap64 ((wrap64 (a0 + a2)) - 1))
                          · rw [if_pos c31] at H
                            have c31b0 : decide ((wrap64 (a2 * a1)) ≤ (wrap64 ((wrap64 (a0 + a2)) - 1))) = true := decide_eq_true c31
                            clear c31
                            by_cases c32 : t107 = 0
                            · rw [if_pos c32] at H
                              have c32b0 : (t107 == 0) = true := beq_iff_eq.mpr c32
                              have c32b1 : (t107 != 0) = false := bne_eq_false_iff_eq.mpr c32
                              clear c32
                              by_cases c33 : t109 = 0
                              · rw [if_pos c33] at H
                                have c33b0 : (t109 == 0) = true := beq_iff_eq.mpr c33
                                have c33b1 : (t109 != 0) = false := bne_eq_false_iff_eq.mpr c33
                                clear c33
                                by_cases c34 : t106 = x15_3
                                · rw [if_pos c34] at H
                                  have c34b0 : (t106 == x15_3) = true := beq_iff_eq.mpr c34
                                  have c34b1 : (t106 != x15_3) = false := bne_eq_false_iff_eq.mpr c34
                                  clear c34
                                  obtain rfl := Option.some.inj H
                                  go_wp2
                                  go_ret
                                  exact ⟨by first | rfl | (simp [errW_none, errW_some] <;> rfl) | (simp [*, errW_none, errW_some] <;> rfl), by repeat (first | (with_reducible first | exact HB.out | apply below_alloc | apply pw_below_drewN | apply below_drew1) | exact HB.out)⟩
                                · rw [if_neg c34] at H
                                  have c34b0 : (t106 == x15_3) = false := beq_eq_false_iff_ne.mpr c34
                                  have c34b1 : (t106 != x15_3) = true := bne_iff_ne.mpr c34
                                  obtain rfl := Option.some.inj H
                                  go_wp2
                                  go_ret
                                  exact ⟨by first | rfl | (simp [errW_none, errW_some] <;> rfl) | (simp [*, errW_none, errW_some] <;> rfl), by repeat (first | (with_reducible first | exact HB.out | apply below_alloc | apply pw_below_drewN | apply below_drew1) | exact HB.out)⟩
                              · rw [if_neg c33] at H
                                have c33b0 : (t109 == 0) = false := beq_eq_false_iff_ne.mpr c33
                                have c33b1 : (t109 != 0) = true := bne_iff_ne.mpr c33
                                obtain rfl := Option.some.inj H
                                go_wp2
                                go_ret
                                exact ⟨by first | rfl | (simp [errW_none, errW_some] <;> rfl) | (simp [*, errW_none, errW_some] <;> rfl), by repeat (first | (with_reducible first | exact HB.out | apply below_alloc | apply pw_below_drewN | apply below_drew1) | exact HB.out)⟩
                            · rw [if_neg c32] at H
                              have c32b0 : (t107 == 0) = false := beq_eq_false_iff_ne.mpr c32
                              have c32b1 : (t107 != 0) = true := bne_iff_ne.mpr c32
                              obtain rfl := Option.some.inj H
                              go_wp2
                              go_ret
                              exact ⟨by first | rfl | (simp [errW_none, errW_some] <;> rfl) | (simp [*, errW_none, errW_some] <;> rfl), by repeat (first | (with_reducible first | exact HB.out | apply below_alloc | apply pw_below_drewN | apply below_drew1) | exact HB.out)⟩
                          · rw [if_neg c31] at H
                            have c31b0 : decide ((wrap64 (a2 * a1)) ≤ (wrap64 ((wrap64 (a0 + a2)) - 1))) = false := decide_eq_false c31
                            clear c31
                            by_cases c35 : t108 ≥ 0
                            · rw [if_pos c35] at H
                              have c35b0 : decide (0 ≤ t108) = true := decide_eq_true c35
                              clear c35
                              by_cases c36 : (wrap64 (a2 * (wrap64 (a1 - t108)))) ≥ a0
                              · rw [if_pos c36] at H
                                have c36b0 : decide (a0 ≤ (wrap64 (a2 * (wrap64 (a1 - t108))))) = true := decide_eq_true c36
                                clear c36
                                by_cases c37 : t107 = 0
                                · rw [if_pos c37] at H
                                  have c37b0 : (t107 == 0) = true := beq_iff_eq.mpr c37
                                  have c37b1 : (t107 != 0) = false := bne_eq_false_iff_eq.mpr c37
                                  clear c37
                                  by_cases c38 : t109 = 0
                                  · rw [if_pos c38] at H
                                    have c38b0 : (t109 == 0) = true := beq_iff_eq.mpr c38
                                    have c38b1 : (t109 != 0) = false := bne_eq_false_iff_eq.mpr c38
                                    clear c38
                                    by_cases c39 : t106 = x15_3
                                    · rw [if_pos c39] at H
                                      have c39b0 : (t106 == x15_3) = true := beq_iff_eq.mpr c39
                                      have c39b1 : (t106 != x15_3) = false := bne_eq_false_iff_eq.mpr c39
                                      clear c39
                                      obtain rfl := Option.some.inj H
                                      go_wp2
                                      go_ret
                                      exact ⟨by first | rfl | (simp [errW_none, errW_some] <;> rfl) | (simp [*, errW_none, errW_some] <;> rfl), by repeat (first | (with_reducible first | exact HB.out | apply below_alloc | apply pw_below_drewN | apply below_drew1) | exact HB.out)⟩
                                    · rw [if_neg c39] at H
                                      have c39b0 : (t106 == x15_3) = false := beq_eq_false_iff_ne.mpr c39
                                      have c39b1 : (t106 != x15_3) = true := bne_iff_ne.mpr c39
                                      obtain rfl := Option.some.inj H
                                      go_wp2
                                      go_ret
                                      exact ⟨by first | rfl | (simp [errW_none, errW_some] <;> rfl) | (simp [*, errW_none, errW_some] <;> rfl), by repeat (first | (with_reducible first | exact HB.out | apply below_alloc | apply pw_below_drewN | apply below_drew1) | exact HB.out)⟩
                                  · rw [if_neg c38] at H
                                    have c38b0 : (t109 == 0) = false := beq_eq_false_iff_ne.mpr c38
                                    have c38b1 : (t109 != 0) = true := bne_iff_ne.mpr c38
                                    obtain rfl := Option.some.inj H
                                    go_wp2
                                    go_ret
                                    exact ⟨by first | rfl | (simp [errW_none, errW_some] <;> rfl) | (simp [*, errW_none, errW_some] <;> rfl), by repeat (first | (with_reducible first | exact HB.out | apply below_alloc | apply pw_below_drewN | apply below_drew1) | exact HB.out)⟩
                                · rw [if_neg c37] at H
                                  have c37b0 : (t107 == 0) = false := beq_eq_false_iff_ne.mpr c37
                                  have c37b1 : (t107 != 0) = true := bne_iff_ne.mpr c37
                                  obtain rfl := Option.some.inj H
                                  go_wp2
                                  go_ret
                                  exact ⟨by first | rfl | (simp [errW_none, errW_some] <;> rfl) | (simp [*, errW_none, errW_some] <;> rfl), by repeat (first | (with_reducible first | exact HB.out | apply below_alloc | apply pw_below_drewN | apply below_drew1) | exact HB.out)⟩
                              · rw [if_neg c36] at H
                                have c36b0 : decide (a0 ≤ (wrap64 (a2 * (wrap64 (a1 - t108))))) = false := decide_eq_false c36
                                clear c36
                                by_cases c40 : t107 = 0
                                · rw [if_pos c40] at H
                                  have c40b0 : (t107 == 0) = true := beq_iff_eq.mpr c40
                                  have c40b1 : (t107 != 0) = false := bne_eq_false_iff_eq.mpr c40
                                  clear c40
                                  by_cases c41 : t109 = 0
                                  · rw [if_pos c41] at H
                                    have c41b0 : (t109 == 0) = true := beq_iff_eq.mpr c41
                                    have c41b1 : (t109 != 0) = false := bne_eq_false_iff_eq.mpr c41
                                    clear c41
                                    by_cases c42 : t106 = x15_3
                                    · rw [if_pos c42] at H
                                      have c42b0 : (t106 == x15_3) = true := beq_iff_eq.mpr c42
                                      have c42b1 : (t106 != x15_3) = false := bne_eq_false_iff_eq.mpr c42
                                      clear c42
                                      obtain rfl := Option.some.inj H
                                      go_wp2
                                      go_ret
                                      exact ⟨by first | rfl | (simp [errW_none, errW_some] <;> rfl) | (simp [*, errW_none, errW_some] <;> rfl), by repeat (first | (with_reducible first | exact HB.out | apply below_alloc | apply pw_below_drewN | apply below_drew1) | exact HB.out)⟩
                                    · rw [if_neg c42] at H
                                      have c42b0 : (t106 == x15_3) = false := beq_eq_false_iff_ne.mpr c42
                                      have c42b1 : (t106 != x15_3) = true := bne_iff_ne.mpr c42
                                      obtain rfl := Option.some.inj H
                                      go_wp2
                                      go_ret
                                      exact ⟨by first | rfl | (simp [errW_none, errW_some] <;> rfl) | (simp [*, errW_none, errW_some] <;> rfl), by repeat (first | (with_reducible first | exact HB.out | apply below_alloc | apply pw_below_drewN | apply below_drew1) | exact HB.out)⟩
                                  · rw [if_neg c41] at H
                                    have c41b0 : (t109 == 0) = false := beq_eq_false_iff_ne.mpr c41
                                    have c41b1 : (t109 != 0) = true := bne_iff_ne.mpr c41
                                    obtain rfl := Option.some.inj H
                                    go_wp2
                                    go_ret
                                    exact ⟨by first | rfl | (simp [errW_none, errW_some] <;> rfl) | (simp [*, errW_none, errW_some] <;> rfl), by repeat (first | (with_reducible first | exact HB.out | apply below_alloc | apply pw_below_drewN | apply below_drew1) | exact HB.out)⟩
                                · rw [if_neg c40] at H
                                  have c40b0 : (t107 == 0) = false := beq_eq_false_iff_ne.mpr c40
                                  have c40b1 : (t107 != 0) = true := bne_iff_ne.mpr c40
                                  obtain rfl := Option.some.inj H
                                  go_wp2
                                  go_ret
                                  exact ⟨by first | rfl | (simp [errW_none, errW_some] <;> rfl) | (simp [*, errW_none, errW_some] <;> rfl), by repeat (first | (with_reducible first | exact HB.out | apply below_alloc | apply pw_below_drewN | apply below_drew1) | exact HB.out)⟩
                            · rw [if_neg c35] at H
                              have c35b0 : decide (0 ≤ t108) = false := decide_eq_false c35
                              clear c35
                              by_cases c43 : t107 = 0
                              · rw [if_pos c43] at H
                                have c43b0 : (t107 == 0) = true := beq_iff_eq.mpr c43
                                have c43b1 : (t107 != 0) = false := bne_eq_false_iff_eq.mpr c43
                                clear c43
                                by_cases c44 : t109 = 0
                                · rw [if_pos c44] at H
                                  have c44b0 : (t109 == 0) = true := beq_iff_eq.mpr c44
                                  have c44b1 : (t109 != 0) = false := bne_eq_false_iff_eq.mpr c44
                                  clear c44
                                  by_cases c45 : t106 = x15_3
                                  · rw [if_pos c45] at H
                                    have c45b0 : (t106 == x15_3) = true := beq_iff_eq.mpr c45
                                    have c45b1 : (t106 != x15_3) = false := bne_eq_false_iff_eq.mpr c45
                                    clear c45
                                    obtain rfl := Option.some.inj H
                                    go_wp2
                                    go_ret
                                    exact ⟨by first | rfl | (simp [errW_none, errW_some] <;> rfl) | (simp [*, errW_none, errW_some] <;> rfl), by repeat (first | (with_reducible first | exact HB.out | apply below_alloc | apply pw_below_drewN | apply below_drew1) | exact HB.out)⟩
                                  · rw [if_neg c45] at H
                                    have c45b0 : (t106 == x15_3) = false := beq_eq_false_iff_ne.mpr c45
                                    have c45b1 : (t106 != x15_3) = true := bne_iff_ne.mpr c45
                                    obtain rfl := Option.some.inj H
                                    go_wp2
                                    go_ret
                                    exact ⟨by first | rfl | (simp [errW_none, errW_some] <;> rfl) | (simp [*, errW_none, errW_some] <;> rfl), by repeat (first | (with_reducible first | exact HB.out | apply below_alloc | apply pw_below_drewN | apply below_drew1) | exact HB.out)⟩
                                · rw [if_neg c44] at H
                                  have c44b0 : (t109 == 0) = false := beq_eq_false_iff_ne.mpr c44
                                  have c44b1 : (t109 != 0) = true := bne_iff_ne.mpr c44
                                  obtain rfl := Option.some.inj H
                                  go_wp2
                                  go_ret
                                  exact ⟨by first | rfl | (simp [errW_none, errW_some] <;> rfl) | (simp [*, errW_none, errW_some] <;> rfl), by repeat (first | (with_reducible first | exact HB.out | apply below_alloc | apply pw_below_drewN | apply below_drew1) | exact HB.out)⟩
                              · rw [if_neg c43] at H
                                have c43b0 : (t107 == 0) = false := beq_eq_false_iff_ne.mpr c43
                                have c43b1 : (t107 != 0) = true := bne_iff_ne.mpr c43
                                obtain rfl := Option.some.inj H
                                go_wp2
                                go_ret
                                exact ⟨by first | rfl | (simp [errW_none, errW_some] <;> rfl) | (simp [*, errW_none, errW_some] <;> rfl), by repeat (first | (with_reducible first | exact HB.out | apply below_alloc | apply pw_below_drewN | apply below_drew1) | exact HB.out)⟩
                        · rw [if_neg c30] at H
                          have c30b0 : (t108 == 0) = false := beq_eq_false_iff_ne.mpr c30
                          have c30b1 : (t108 != 0) = true := bne_iff_ne.mpr c30
                          by_cases c46 : t108 ≥ 0
                          · rw [if_pos c46] at H
                            have c46b0 : decide (0 ≤ t108) = true := decide_eq_true c46
                            clear c46
                            by_cases c47 : (wrap64 (a2 * (wrap64 (a1 - t108)))) ≥ a0
                            · rw [if_pos c47] at H
                              have c47b0 : decide (a0 ≤ (wrap64 (a2 * (wrap64 (a1 - t108))))) = true := decide_eq_true c47
                              clear c47
                              by_cases c48 : t107 = 0
                              · rw [if_pos c48] at H
                                have c48b0 : (t107 == 0) = true := beq_iff_eq.mpr c48
                                have c48b1 : (t107 != 0) = false := bne_eq_false_iff_eq.mpr c48
                                clear c48
                                by_cases c49 : t109 = 0
                                · rw [if_pos c49] at H
                                  have c49b0 : (t109 == 0) = true := beq_iff_eq.mpr c49
                                  have c49b1 : (t109 != 0) = false := bne_eq_false_iff_eq.mpr c49
                                  clear c49
                                  by_cases c50 : t106 = x15_3
                                  · rw [if_pos c50] at H
                                    have c50b0 : (t106 == x15_3) = true := beq_iff_eq.mpr c50
                                    have c50b1 : (t106 != x15_3) = false := bne_eq_false_iff_eq.mpr c50
                                    clear c50
                                    obtain rfl := Option.some.inj H
                                    go_wp2
                                    go_ret
                                    exact ⟨by first | rfl | (simp [errW_none, errW_some] <;> rfl) | (simp [*, errW_none, errW_some] <;> rfl), by repeat (first | (with_reducible first | exact HB.out | apply below_alloc | apply pw_below_drewN | apply below_drew1) | exact HB.out)⟩
                                  · rw [if_neg c50] at H
                                    have c50b0 : (t106 == x15_3) = false := beq_eq_false_iff_ne.mpr c50
                                    have c50b1 : (t106 != x15_3) = true := bne_iff_ne.mpr c50
                                    obtain rfl := Option.some.inj H
                                    go_wp2
                                    go_ret
                                    exact ⟨by first | rfl | (simp [errW_none, errW_some] <;> rfl) | (simp [*, errW_none, errW_some] <;> rfl), by repeat (first | (with_reducible first | exact HB.out | apply below_alloc | apply pw_below_drewN | apply below_drew1) | exact HB.out)⟩
                                · rw [if_neg c49] at H
                                  have c49b0 : (t109 == 0) = false := beq_eq_false_iff_ne.mpr c49
                                  have c49b1 : (t109 != 0) = true := bne_iff_ne.mpr c49
                                  obtain rfl := Option.some.inj H
                                  go_wp2
                                  go_ret
                                  exact ⟨by first | rfl | (simp [errW_none, errW_some] <;> rfl) | (simp [*, errW_none, errW_some] <;> rfl), by repeat (first | (with_reducible first | exact HB.out | apply below_alloc | apply pw_below_drewN | apply below_drew1) | exact HB.out)⟩
                              · rw [if_neg c48] at H
                                have c48b0 : (t107 == 0) = false := beq_eq_false_iff_ne.mpr c48
                                have c48b1 : (t107 != 0) = true := bne_iff_ne.mpr c48
                                obtain rfl := Option.some.inj H
                                go_wp2
                                go_ret
                                exact ⟨by first | rfl | (simp [errW_none, errW_some] <;> rfl) | (simp [*, errW_none, errW_some] <;> rfl), by repeat (first | (with_reducible first | exact HB.out | apply below_alloc | apply pw_below_drewN | apply below_drew1) | exact HB.out)⟩
                            · rw [if_neg c47] at H
                              have c47b0 : decide (a0 ≤ (wrap64 (a2 * (wrap64 (a1 - t108))))) = false := decide_eq_false c47
                              clear c47
                              by_cases c51 : t107 = 0
                              · rw [if_pos c51] at H
                                have c51b0 : (t107 == 0) = true := beq_iff_eq.mpr c51
                                have c51b1 : (t107 != 0) = false := bne_eq_false_iff_eq.mpr c51
                                clear c51
                                by_cases c52 : t109 = 0
                                · rw [if_pos c52] at H
                                  have c52b0 : (t109 == 0) = true := beq_iff_eq.mpr c52
                                  have c52b1 : (t109 != 0) = false := bne_eq_false_iff_eq.mpr c52
                                  clear c52
                                  by_cases c53 : t106 = x15_3
                                  · rw [if_pos c53] at H
                                    have c53b0 : (t106 == x15_3) = true := beq_iff_eq.mpr c53
                                    have c53b1 : (t106 != x15_3) = false := bne_eq_false_iff_eq.mpr c53
                                    clear c53
                                    obtain rfl := Option.some.inj H
                                    go_wp2
                                    go_ret
                                    exact ⟨by first | rfl | (simp [errW_none, errW_some] <;> rfl) | (simp [*, errW_none, errW_some] <;> rfl), by repeat (first | (with_reducible first | exact HB.out | apply below_alloc | apply pw_below_drewN | apply below_drew1) | exact HB.out)⟩
                                  · rw [if_neg c53] at H
                                    have c53b0 : (t106 == x15_3) = false := beq_eq_false_iff_ne.mpr c53
                                    have c53b1 : (t106 != x15_3) = true := bne_iff_ne.mpr c53
                                    obtain rfl := Option.some.inj H
                                    go_wp2
                                    go_ret
                                    exact ⟨by first | rfl | (simp [errW_none, errW_some] <;> rfl) | (simp [*, errW_none, errW_some] <;> rfl), by repeat (first | (with_reducible first | exact HB.out | apply below_alloc | apply pw_below_drewN | apply below_drew1) | exact HB.out)⟩
                                · rw [if_neg c52] at H
                                  have c52b0 : (t109 == 0) = false := beq_eq_false_iff_ne.mpr c52
                                  have c52b1 : (t109 != 0) = true := bne_iff_ne.mpr c52
                                  obtain rfl := Option.some.inj H
                                  go_wp2
                                  go_ret
                                  exact ⟨by first | rfl | (simp [errW_none, errW_some] <;> rfl) | (simp [*, errW_none, errW_some] <;> rfl), by repeat (first | (with_reducible first | exact HB.out | apply below_alloc | apply pw_below_drewN | apply below_drew1) | exact HB.out)⟩
                              · rw [if_neg c51] at H
                                have c51b0 : (t107 == 0) = false := beq_eq_false_iff_ne.mpr c51
                                have c51b1 : (t107 != 0) = true := bne_iff_ne.mpr c51
                                obtain rfl := Option.some.inj H
                                go_wp2
                                go_ret
                                exact ⟨by first | rfl | (simp [errW_none, errW_some] <;> rfl) | (simp [*, errW_none, errW_some] <;> rfl), by repeat (first | (with_reducible first | exact HB.out | apply below_alloc | apply pw_below_drewN | apply below_drew1) | exact HB.out)⟩
                          · rw [if_neg c46] at H
                            have c46b0 : decide (0 ≤ t108) = false := decide_eq_false c46
                            clear c46
                            by_cases c54 : t107 = 0
                            · rw [if_pos c54] at H
                              have c54b0 : (t107 == 0) = true := beq_iff_eq.mpr c54
                              have c54b1 : (t107 != 0) = false := bne_eq_false_iff_eq.mpr c54
                              clear c54
                              by_cases c55 : t109 = 0
                              · rw [if_pos c55] at H
                                have c55b0 : (t109 == 0) = true := beq_iff_eq.mpr c55
                                have c55b1 : (t109 != 0) = false := bne_eq_false_iff_eq.mpr c55
                                clear c55
                                by_cases c56 : t106 = x15_3
                                · rw [if_pos c56] at H
                                  have c56b0 : (t106 == x15_3) = true := beq_iff_eq.mpr c56
                                  have c56b1 : (t106 != x15_3) = false := bne_eq_false_iff_eq.mpr c56
                                  clear c56
                                  obtain rfl := Option.some.inj H
                                  go_wp2
                                  go_ret
                                  exact ⟨by first | rfl | (simp [errW_none, errW_some] <;> rfl) | (simp [*, errW_none, errW_some] <;> rfl), by repeat (first | (with_reducible first | exact HB.out | apply below_alloc | apply pw_below_drewN | apply below_drew1) | exact HB.out)⟩
                                · rw [if_neg c56] at H
                                  have c56b0 : (t106 == x15_3) = false := beq_eq_false_iff_ne.mpr c56
                                  have c56b1 : (t106 != x15_3) = true := bne_iff_ne.mpr c56
                                  obtain rfl := Option.some.inj H
                                  go_wp2
                                  go_ret
                                  exact ⟨by first | rfl | (simp [errW_none, errW_some] <;> rfl) | (simp [*, errW_none, errW_some] <;> rfl), by repeat (first | (with_reducible first | exact HB.out | apply below_alloc | apply pw_below_drewN | apply below_drew1) | exact HB.out)⟩
                              · rw [if_neg c55] at H
                                have c55b0 : (t109 == 0) = false := beq_eq_false_iff_ne.mpr c55
                                have c55b1 : (t109 != 0) = true := bne_iff_ne.mpr c55
                                obtain rfl := Option.some.inj H
                                go_wp2
                                go_ret
                                exact ⟨by first | rfl | (simp [errW_none, errW_some] <;> rfl) | (simp [*, errW_none, errW_some] <;> rfl), by repeat (first | (with_reducible first | exact HB.out | apply below_alloc | apply pw_below_drewN | apply below_drew1) | exact HB.out)⟩
                            · rw [if_neg c54] at H
                              have c54b0 : (t107 == 0) = false := beq_eq_false_iff_ne.mpr c54
                              have c54b1 : (t107 != 0) = true := bne_iff_ne.mpr c54
                              obtain rfl := Option.some.inj H
                              go_wp2
                              go_ret
                              exact ⟨by first | rfl | (simp [errW_none, errW_some] <;> rfl) | (simp [*, errW_none, errW_some] <;> rfl), by repeat (first | (with_reducible first | exact HB.out | apply below_alloc | apply pw_below_drewN | apply below_drew1) | exact HB.out)⟩
                  · rw [if_neg c24] at H
                    have c24b0 : decide (x15_3 ≤ a3) = false := decide_eq_false c24
                    clear c24
                    by_cases c57 : x15_3 > a3
                    · rw [if_pos c57] at H
                      have c57b0 : decide (a3 < x15_3) = true := decide_eq_true c57
                      clear c57
                      by_cases c58 : t106 = 0
                      · rw [if_pos c58] at H
                        have c58b0 : (t106 == 0) = true := beq_iff_eq.mpr c58
                        have c58b1 : (t106 != 0) = false := bne_eq_false_iff_eq.mpr c58
                        clear c58
                        by_cases c59 : t108 = 0
                        · rw [if_pos c59] at H
                          have c59b0 : (t108 == 0) = true := beq_iff_eq.mpr c59
                          have c59b1 : (t108 != 0) = false := bne_eq_false_iff_eq.mpr c59
                          clear c59
                          by_cases c60 : t107 = 8
                          · rw [if_pos c60] at H
                            have c60b0 : (t107 == 8) = true := beq_iff_eq.mpr c60
                            have c60b1 : (t107 != 8) = false := bne_eq_false_iff_eq.mpr c60
                            clear c60
                            obtain rfl := Option.some.inj H
                            go_wp2
                            go_ret
                            exact ⟨by first | rfl | (simp [errW_none, errW_some] <;> rfl) | (simp [*, errW_none, errW_some] <;> rfl), by repeat (first | (with_reducible first | exact HB.out | apply below_alloc | apply pw_below_drewN | apply below_drew1) | exact HB.out)⟩
                          · rw [if_neg c60] at H
                            have c60b0 : (t107 == 8) = false := beq_eq_false_iff_ne.mpr c60
                            have c60b1 : (t107 != 8) = true := bne_iff_ne.mpr c60
                            obtain rfl := Option.some.inj H
                            go_wp2
                            go_ret
                            exact ⟨by first | rfl | (simp [errW_none, errW_some] <;> rfl) | (simp [*, errW_none, errW_some] <;> rfl), by repeat (first | (with_reducible first | exact HB.out | apply below_alloc | apply pw_below_drewN | apply below_drew1) | exact HB.out)⟩
                        · rw [if_neg c59] at H
                          have c59b0 : (t108 == 0) = false := beq_eq_false_iff_ne.mpr c59
                          have c59b1 : (t108 != 0) = true := bne_iff_ne.mpr c59
                          obtain rfl := Option.some.inj H
                          go_wp2
                          go_ret
                          exact ⟨by first | rfl | (simp [errW_none, errW_some] <;> rfl) | (simp [*, errW_none, errW_some] <;> rfl), by repeat (first | (with_reducible first | exact HB.out | apply below_alloc | apply pw_below_drewN | apply below_drew1) | exact HB.out)⟩
                      · rw [if_neg c58] at H
                        have c58b0 : (t106 == 0) = false := beq_eq_false_iff_ne.mpr c58
                        have c58b1 : (t106 != 0) = true := bne_iff_ne.mpr c58
                        obtain rfl := Option.some.inj H
                        go_wp2
                        go_ret
                        exact ⟨by first | rfl | (simp [errW_none, errW_some] <;> rfl) | (simp [*, errW_none, errW_some] <;> rfl), by repeat (first | (with_reducible first | exact HB.out | apply below_alloc | apply pw_below_drewN | apply below_drew1) | exact HB.out)⟩
                    · rw [if_neg c57] at H
                      have c57b0 : decide (a3 < x15_3) = false := decide_eq_false c57
                      clear c57
                      by_cases c61 : t108 = 0
                      · rw [if_pos c61] at H
                        have c61b0 : (t108 == 0) = true := beq_iff_eq.mpr c61
                        have c61b1 : (t108 != 0) = false := bne_eq_false_iff_eq.mpr c61
                        clear c61
                        by_cases c62 : (wrap64 (a2 * a1)) ≤ (wrap64 ((wrap64 (a0 + a2)) - 1))
                        · rw [if_pos c62] at H
                          have c62b0 : decide ((wrap64 (a2 * a1)) ≤ (wrap64 ((wrap64 (a0 + a2)) - 1))) = true := decide_eq_true c62
                          clear c62
                          by_cases c63 : t107 = 0
                          · rw [if_pos c63] at H
                            have c63b0 : (t107 == 0) = true := beq_iff_eq.mpr c63
                            have c63b1 : (t107 != 0) = false := bne_eq_false_iff_eq.mpr c63
                            clear c63
                            by_cases c64 : t109 = 0
                            · rw [if_pos c64] at H
                              have c64b0 : (t109 == 0) = true := beq_iff_eq.mpr c64
                              have c64b1 : (t109 != 0) = false := bne_eq_false_iff_eq.mpr c64
                              clear c64
                              by_cases c65 : t106 = x15_3
                              · rw [if_pos c65] at H
                                have c65b0 : (t106 == x15_3) = true := beq_iff_eq.mpr c65
                                have c65b1 : (t106 != x15_3) = false := bne_eq_false_iff_eq.mpr c65
                                clear c65
                                obtain rfl := Option.some.inj H
                                go_wp2
                                go_ret
                                exact ⟨by first | rfl | (simp [errW_none, errW_some] <;> rfl) | (simp [*, errW_none, errW_some] <;> rfl), by repeat (first | (with_reducible first | exact HB.out | apply below_alloc | apply pw_below_drewN | apply below_drew1) | exact HB.out)⟩
                              · rw [if_neg c65] at H
                                have c65b0 : (t106 == x15_3) = false := beq_eq_false_iff_ne.mpr c65
                                have c65b1 : (t106 != x15_3) = true := bne_iff_ne.mpr c65
                                obtain rfl := Option.some.inj H
                                go_wp2
                                go_ret
                                exact ⟨by first | rfl | (simp [errW_none, errW_some] <;> rfl) | (simp [*, errW_none, errW_some] <;> rfl), by repeat (first | (with_reducible first | exact HB.out | apply below_alloc | apply pw_below_drewN | apply below_drew1) | exact HB.out)⟩
                            · rw [if_neg c64] at H
                              have c64b0 : (t109 == 0) = false := beq_eq_false_iff_ne.mpr c64
                              have c64b1 : (t109 != 0) = true := bne_iff_ne.mpr c64
                              obtain rfl := Option.some.inj H
                              go_wp2
                              go_ret
                              exact ⟨by first | rfl | (simp [errW_none, errW_some] <;> rfl) | (simp [*, errW_none, errW_some] <;> rfl), by repeat (first | (with_reducible first | exact HB.out | apply below_alloc | apply pw_below_drewN | apply below_drew1) | exact HB.out)⟩
                          · rw [if_neg c63] at H
                            have c63b0 : (t107 == 0) = false := beq_eq_false_iff_ne.mpr c63
                            have c63b1 : (t107 != 0) = true := bne_iff_ne.mpr c63
                            obtain rfl := Option.some.inj H
                            go_wp2
                            go_ret
                            exact ⟨by first | rfl | (simp [errW_none, errW_some] <;> rfl) | (simp [*, errW_none, errW_some] <;> rfl), by repeat (first | (with_reducible first | exact HB.out | apply below_alloc | apply pw_below_drewN | apply below_drew1) | exact HB.out)⟩
                        · rw [if_neg c62] at H
                          have c62b0 : decide ((wrap64 (a2 * a1)) ≤ (wrap64 ((wrap64 (a0 + a2)) - 1))) = false := decide_eq_false c62
                          clear c62
                          by_cases c66 : t108 ≥ 0
                          · rw [if_pos c66] at H
                            have c66b0 : decide (0 ≤ t108) = true := decide_eq_true c66
                            clear c66
                            by_cases c67 : (wrap64 (a2 * (wrap64 (a1 - t108)))) ≥ a0
                            · rw [if_pos c67] at H
                              have c67b0 : decide (a0 ≤ (wrap64 (a2 * (wrap64 (a1 - t108))))) = true := decide_eq_true c67
                              clear c67
                              by_cases c68 : t107 = 0
                              · rw [if_pos c68] at H
                                have c68b0 : (t107 == 0) = true := beq_iff_eq.mpr c68
                                have c68b1 : (t107 != 0) = false := bne_eq_false_iff_eq.mpr c68
                                clear c68
                                by_cases c69 : t109 = 0
                                · rw [if_pos c69] at H
                                  have c69b0 : (t109 == 0) = true := beq_iff_eq.mpr c69
                                  have c69b1 : (t109 != 0) = false := bne_eq_false_iff_eq.mpr c69
                                  clear c69
                                  by_cases c70 : t106 = x15_3
                                  · rw [if_pos c70] at H
                                    have c70b0 : (t106 == x15_3) = true := beq_iff_eq.mpr c70
                                    have c70b1 : (t106 != x15_3) = false := bne_eq_false_iff_eq.mpr c70
                                    clear c70
                                    obtain rfl := Option.some.inj H
                                    go_wp2
                                    go_ret
                                    exact ⟨by first | rfl | (simp [errW_none, errW_some] <;> rfl) | (simp [*, errW_none, errW_some] <;> rfl), by repeat (first | (with_reducible first | exact HB.out | apply below_alloc | apply pw_below_drewN | apply below_drew1) | exact HB.out)⟩
                                  · rw [if_neg c70] at H
                                    have c70b0 : (t106 == x15_3) = false := beq_eq_false_iff_ne.mpr c70
                                    have c70b1 : (t106 != x15_3) = true := bne_iff_ne.mpr c70
                                    obtain rfl := Option.some.inj H
                                    go_wp2
                                    go_ret
                                    exact ⟨by first | rfl | (simp [errW_none, errW_some] <;> rfl) | (simp [*, errW_none, errW_some] <;> rfl), by repeat (first | (with_reducible first | exact HB.out | apply below_alloc | apply pw_below_drewN | apply below_drew1) | exact HB.out)⟩
                                · rw [if_neg c69] at H
                                  have c69b0 : (t109 == 0) = false := beq_eq_false_iff_ne.mpr c69
                                  have c69b1 : (t109 != 0) = true := bne_iff_ne.mpr c69
                                  obtain rfl := Option.some.inj H
                                  go_wp2
                                  go_ret
                                  exact ⟨by first | rfl | (simp [errW_none, errW_some] <;> rfl) | (simp [*, errW_none, errW_some] <;> rfl), by repeat (first | (with_reducible first | exact HB.out | apply below_alloc | apply pw_below_drewN | apply below_drew1) | exact HB.out)⟩
                              · rw [if_neg c68] at H
                                have c68b0 : (t107 == 0) = false := beq_eq_false_iff_ne.mpr c68
                                have c68b1 : (t107 != 0) = true := bne_iff_ne.mpr c68
                                obtain rfl := Option.some.inj H
                                go_wp2
                                go_ret
                                exact ⟨by first | rfl | (simp [errW_none, errW_some] <;> rfl) | (simp [*, errW_none, errW_some] <;> rfl), by repeat (first | (with_reducible first | exact HB.out | apply below_alloc | apply pw_below_drewN | apply below_drew1) | exact HB.out)⟩
                            · rw [if_neg c67] at H
                              have c67b0 : decide (a0 ≤ (wrap64 (a2 * (wrap64 (a1 - t108))))) = false := decide_eq_false c67
                              clear c67
                              by_cases c71 : t107 = 0
                              · rw [if_pos c71] at H
                                have c71b0 : (t107 == 0) = true := beq_iff_eq.mpr c71
                                have c71b1 : (t107 != 0) = false := bne_eq_false_iff_eq.mpr c71
                                clear c71
                                by_cases c72 : t109 = 0
                                · rw [if_pos c72] at H
                                  have c72b0 : (t109 == 0) = true := beq_iff_eq.mpr c72
                                  have c72b1 : (t109 != 0) = false := bne_eq_false_iff_eq.mpr c72
                                  clear c72
                                  by_cases c73 : t106 = x15_3
                                  · rw [if_pos c73] at H
                                    have c73b0 : (t106 == x15_3) = true := beq_iff_eq.mpr c73
                                    have c73b1 : (t106 != x15_3) = false := bne_eq_false_iff_eq.mpr c73
                                    clear c73
                                    obtain rfl := Option.some.inj H
                                    go_wp2
                                    go_ret
                                    exact ⟨by first | rfl | (simp [errW_none, errW_some] <;> rfl) | (simp [*, errW_none, errW_some] <;> rfl), by repeat (first | (with_reducible first | exact HB.out | apply below_alloc | apply pw_below_drewN | apply below_drew1) | exact HB.out)⟩
                                  · rw [if_neg c73] at H
                                    have c73b0 : (t106 == x15_3) = false := beq_eq_false_iff_ne.mpr c73
                                    have c73b1 : (t106 != x15_3) = true := bne_iff_ne.mpr c73
                                    obtain rfl := Option.some.inj H
                                    go_wp2
                                    go_ret
                                    exact ⟨by first | rfl | (simp [errW_none, errW_some] <;> rfl) | (simp [*, errW_none, errW_some] <;> rfl), by repeat (first | (with_reducible first | exact HB.out | apply below_alloc | apply pw_below_drewN | apply below_drew1) | exact HB.out)⟩
                                · rw [if_neg c72] at H
                                  have c72b0 : (t109 == 0) = false := beq_eq_false_iff_ne.mpr c72
                                  have c72b1 : (t109 != 0) = true := bne_iff_ne.mpr c72
                                  obtain rfl := Option.some.inj H
                                  go_wp2
                                  go_ret
                                  exact ⟨by first | rfl | (simp [errW_none, errW_some] <;> rfl) | (simp [*, errW_none, errW_some] <;> rfl), by repeat (first | (with_reducible first | exact HB.out | apply below_alloc | apply pw_below_drewN | apply below_drew1) | exact HB.out)⟩
                              · rw [if_neg c71] at H
                                have c71b0 : (t107 == 0) = false := beq_eq_false_iff_ne.mpr c71
                                have c71b1 : (t107 != 0) = true := bne_iff_ne.mpr c71
                                obtain rfl := Option.some.inj H
                                go_wp2
                                go_ret
                                exact ⟨by first | rfl | (simp [errW_none, errW_some] <;> rfl) | (simp [*, errW_none, errW_some] <;> rfl), by repeat (first | (with_reducible first | exact HB.out | apply below_alloc | apply pw_below_drewN | apply below_drew1) | exact HB.out)⟩
                          · rw [if_neg c66] at H
                            have c66b0 : decide (0 ≤ t108) = false := decide_eq_false c66
                            clear c66
                            by_cases c74 : t107 = 0
                            · rw [if_pos c74] at H
                              have c74b0 : (t107 == 0) = true := beq_iff_eq.mpr c74
                              have c74b1 : (t107 != 0) = false := bne_eq_false_iff_eq.mpr c74
                              clear c74
                              by_cases c75 : t109 = 0
                              · rw [if_pos c75] at H
                                have c75b0 : (t109 == 0) = true := beq_iff_eq.mpr c75
                                have c75b1 : (t109 != 0) = false := bne_eq_false_iff_eq.mpr c75
                                clear c75
                                by_cases c76 : t106 = x15_3
                                · rw [if_pos c76] at H
                                  have c76b0 : (t106 == x15_3) = true := beq_iff_eq.mpr c76
                                  have c76b1 : (t106 != x15_3) = false := bne_eq_false_iff_eq.mpr c76
                                  clear c76
                                  obtain rfl := Option.some.inj H
                                  go_wp2
                                  go_ret
                                  exact ⟨by first | rfl | (simp [errW_none, errW_some] <;> rfl) | (simp [*, errW_none, errW_some] <;> rfl), by repeat (first | (with_reducible first | exact HB.out | apply below_alloc | apply pw_below_drewN | apply below_drew1) | exact HB.out)⟩
                                · rw [if_neg c76] at H
                                  have c76b0 : (t106 == x15_3) = false := beq_eq_false_iff_ne.mpr c76
                                  have c76b1 : (t106 != x15_3) = true := bne_iff_ne.mpr c76
                                  obtain rfl := Option.some.inj H
                                  go_wp2
                                  go_ret
                                  exact ⟨by first | rfl | (simp [errW_none, errW_some] <;> rfl) | (simp [*, errW_none, errW_some] <;> rfl), by repeat (first | (with_reducible first | exact HB.out | apply below_alloc | apply pw_below_drewN | apply below_drew1) | exact HB.out)⟩
                              · rw [if_neg c75] at H
                                have c75b0 : (t109 == 0) = false := beq_eq_false_iff_ne.mpr c75
                                have c75b1 : (t109 != 0) = true := bne_iff_ne.mpr c75
                                obtain rfl := Option.some.inj H
                                go_wp2
                                go_ret
                                exact ⟨by first | rfl | (simp [errW_none, errW_some] <;> rfl) | (simp [*, errW_none, errW_some] <;> rfl), by repeat (first | (with_reducible first | exact HB.out | apply below_alloc | apply pw_below_drewN | apply below_drew1) | exact HB.out)⟩
                            · rw [if_neg c74] at H
                              have c74b0 : (t107 == 0) = false := beq_eq_false_iff_ne.mpr c74
                              have c74b1 : (t107 != 0) = true := bne_iff_ne.mpr c74
                              obtain rfl := Option.some.inj H
                              go_wp2
                              go_ret
                              exact ⟨by first | rfl | (simp [errW_none, errW_some] <;> rfl) | (simp [*, errW_none, errW_some] <;> rfl), by repeat (first | (with_reducible first | exact HB.out | apply below_alloc | apply pw_below_drewN | apply below_drew1) | exact HB.out)⟩
                      · rw [if_neg c61] at H
                        have c61b0 : (t108 == 0) = false := beq_eq_false_iff_ne.mpr c61
                        have c61b1 : (t108 != 0) = true := bne_iff_ne.mpr c61
                        by_cases c77 : t108 ≥ 0
                        · rw [if_pos c77] at H
                          have c77b0 : decide (0 ≤ t108) = true := decide_eq_true c77
                          clear c77
                          by_cases c78 : (wrap64 (a2 * (wrap64 (a1 - t108)))) ≥ a0
                          · rw [if_pos c78] at H
                            have c78b0 : decide (a0 ≤ (wrap64 (a2 * (wrap64 (a1 - t108))))) = true := decide_eq_true c78
                            clear c78
                            by_cases c79 : t107 = 0
                            · rw [if_pos c79] at H
                              have c79b0 : (t107 == 0) = true := beq_iff_eq.mpr c79
                              have c79b1 : (t107 != 0) = false := bne_eq_false_iff_eq.mpr c79
                              clear c79
                              by_cases c80 : t109 = 0
                              · rw [if_pos c80] at H
                                have c80b0 : (t109 == 0) = true := beq_iff_eq.mpr c80
                                have c80b1 : (t109 != 0) = false := bne_eq_false_iff_eq.mpr c80
                                clear c80
                                by_cases c81 : t106 = x15_3
                                · rw [if_pos c81] at H
                                  have c81b0 : (t106 == x15_3) = true := beq_iff_eq.mpr c81
                                  have c81b1 : (t106 != x15_3) = false := bne_eq_false_iff_eq.mpr c81
                                  clear c81
                                  obtain rfl := Option.some.inj H
                                  go_wp2
                                  go_ret
                                  exact ⟨by first | rfl | (simp [errW_none, errW_some] <;> rfl) | (simp [*, errW_none, errW_some] <;> rfl), by repeat (first | (with_reducible first | exact HB.out | apply below_alloc | apply pw_below_drewN | apply below_drew1) | exact HB.out)⟩
                                · rw [if_neg c81] at H
                                  have c81b0 : (t106 == x15_3) = false := beq_eq_false_iff_ne.mpr c81
                                  have c81b1 : (t106 != x15_3) = true := bne_iff_ne.mpr c81
                                  obtain rfl := Option.some.inj H
                                  go_wp2
                                  go_ret
                                  exact ⟨by first | rfl | (simp [errW_none, errW_some] <;> rfl) | (simp [*, errW_none, errW_some] <;> rfl), by repeat (first | (with_reducible first | exact HB.out | apply below_alloc | apply pw_below_drewN | apply below_drew1) | exact HB.out)⟩
                              · rw [if_neg c80] at H
                                have c80b0 : (t109 == 0) = false := beq_eq_false_iff_ne.mpr c80
                                have c80b1 : (t109 != 0) = true := bne_iff_ne.mpr c80
                                obtain rfl := Option.some.inj H
                                go_wp2
                                go_ret
                                exact ⟨by first | rfl | (simp [errW_none, errW_some] <;> rfl) | (simp [*, errW_none, errW_some] <;> rfl), by repeat (first | (with_reducible first | exact HB.out | apply below_alloc | apply pw_below_drewN | apply below_drew1) | exact HB.out)⟩
                            · rw [if_neg c79] at H
                              have c79b0 : (t107 == 0) = false := beq_eq_false_iff_ne.mpr c79
                              have c79b1 : (t107 != 0) = true := bne_iff_ne.mpr c79
                              obtain rfl := Option.some.inj H
                              go_wp2
                              go_ret
                              exact ⟨by first | rfl | (simp [errW_none, errW_some] <;> rfl) | (simp [*, errW_none, errW_some] <;> rfl), by repeat (first | (with_reducible first | exact HB.out | apply below_alloc | apply pw_below_drewN | apply below_drew1) | exact HB.out)⟩
                          · rw [if_neg c78] at H
                            have c78b0 : decide (a0 ≤ (wrap64 (a2 * (wrap64 (a1 - t108))))) = false := decide_eq_false c78
                            clear c78
                            by_cases c82 : t107 = 0
                            · rw [if_pos c82] at H
                              have c82b0 : (t107 == 0) = true := beq_iff_eq.mpr c82
                              have c82b1 : (t107 != 0) = false := bne_eq_false_iff_eq.mpr c82
                              clear c82
                              by_cases c83 : t109 = 0
                              · rw [if_pos c83] at H
                                have c83b0 : (t109 == 0) = true := beq_iff_eq.mpr c83
                                have c83b1 : (t109 != 0) = false := bne_eq_false_iff_eq.mpr c83
                                clear c83
                                by_cases c84 : t106 = x15_3
                                · rw [if_pos c84] at H
                                  have c84b0 : (t106 == x15_3) = true := beq_iff_eq.mpr c84
                                  have c84b1 : (t106 != x15_3) = false := bne_eq_false_iff_eq.mpr c84
                                  clear c84
                                  obtain rfl := Option.some.inj H
                                  go_wp2
                                  go_ret
                                  exact ⟨by first | rfl | (simp [errW_none, errW_some] <;> rfl) | (simp [*, errW_none, errW_some] <;> rfl), by repeat (first | (with_reducible first | exact HB.out | apply below_alloc | apply pw_below_drewN | apply below_drew1) | exact HB.out)⟩
                                · rw [if_neg c84] at H
                                  have c84b0 : (t106 == x15_3) = false := beq_eq_false_iff_ne.mpr c84
                                  have c84b1 : (t106 != x15_3) = true := bne_iff_ne.mpr c84
                                  obtain rfl := Option.some.inj H
                                  go_wp2
                                  go_ret
                                  exact ⟨by first | rfl | (simp [errW_none, errW_some] <;> rfl) | (simp [*, errW_none, errW_some] <;> rfl), by repeat (first | (with_reducible first | exact HB.out | apply below_alloc | apply pw_below_drewN | apply below_drew1) | exact HB.out)⟩
                              · rw [if_neg c83] at H
                                have c83b0 : (t109 == 0) = false := beq_eq_false_iff_ne.mpr c83
                                have c83b1 : (t109 != 0) = true := bne_iff_ne.mpr c83
                                obtain rfl := Option.some.inj H
                                go_wp2
                                go_ret
                                exact ⟨by first | rfl | (simp [errW_none, errW_some] <;> rfl) | (simp [*, errW_none, errW_some] <;> rfl), by repeat (first | (with_reducible first | exact HB.out | apply below_alloc | apply pw_below_drewN | apply below_drew1) | exact HB.out)⟩
                            · rw [if_neg c82] at H
                              have c82b0 : (t107 == 0) = false := beq_eq_false_iff_ne.mpr c82
                              have c82b1 : (t107 != 0) = true := bne_iff_ne.mpr c82
                              obtain rfl := Option.some.inj H
                              go_wp2
                              go_ret
                              exact ⟨by first | rfl | (simp [errW_none, errW_some] <;> rfl) | (simp [*, errW_none, errW_some] <;> rfl), by repeat (first | (with_reducible first | exact HB.out | apply below_alloc | apply pw_below_drewN | apply below_drew1) | exact HB.out)⟩
                        · rw [if_neg c77] at H
                          have c77b0 : decide (0 ≤ t108) = false := decide_eq_false c77
                          clear c77
                          by_cases c85 : t107 = 0
                          · rw [if_pos c85] at H
                            have c85b0 : (t107 == 0) = true := beq_iff_eq.mpr c85
                            have c85b1 : (t107 != 0) = false := bne_eq_false_iff_eq.mpr c85
                            clear c85
                            by_cases c86 : t109 = 0
                            · rw [if_pos c86] at H
                              have c86b0 : (t109 == 0) = true := beq_iff_eq.mpr c86
                              have c86b1 : (t109 != 0) = false := bne_eq_false_iff_eq.mpr c86
                              clear c86
                              by_cases c87 : t106 = x15_3
                              · rw [if_pos c87] at H
                                have c87b0 : (t106 == x15_3) = true := beq_iff_eq.mpr c87
                                have c87b1 : (t106 != x15_3) = false := bne_eq_false_iff_eq.mpr c87
                                clear c87
                                obtain rfl := Option.some.inj H
                                go_wp2
                                go_ret
                                exact ⟨by first | rfl | (simp [errW_none, errW_some] <;> rfl) | (simp [*, errW_none, errW_some] <;> rfl), by repeat (first | (with_reducible first | exact HB.out | apply below_alloc | apply pw_below_drewN | apply below_drew1) | exact HB.out)⟩
                              · rw [if_neg c87] at H
                                have c87b0 : (t106 == x15_3) = false := beq_eq_false_iff_ne.mpr c87
                                have c87b1 : (t106 != x15_3) = true := bne_iff_ne.mpr c87
                                obtain rfl := Option.some.inj H
                                go_wp2
                                go_ret
                                exact ⟨by first | rfl | (simp [errW_none, errW_some] <;> rfl) | (simp [*, errW_none, errW_some] <;> rfl), by repeat (first | (with_reducible first | exact HB.out | apply below_alloc | apply pw_below_drewN | apply below_drew1) | exact HB.out)⟩
                            · rw [if_neg c86] at H
                              have c86b0 : (t109 == 0) = false := beq_eq_false_iff_ne.mpr c86
                              have c86b1 : (t109 != 0) = true := bne_iff_ne.mpr c86
                              obtain rfl := Option.some.inj H
                              go_wp2
                              go_ret
                              exact ⟨by first | rfl | (simp [errW_none, errW_some] <;> rfl) | (simp [*, errW_none, errW_some] <;> rfl), by repeat (first | (with_reducible first | exact HB.out | apply below_alloc | apply pw_below_drewN | apply below_drew1) | exact HB.out)⟩
                          · rw [if_neg c85] at H
                            have c85b0 : (t107 == 0) = false := beq_eq_false_iff_ne.mpr c85
                            have c85b1 : (t107 != 0) = true := bne_iff_ne.mpr c85
                            obtain rfl := Option.some.inj H
                            go_wp2
                            go_ret
                            exact ⟨by first | rfl | (simp [errW_none, errW_some] <;> rfl) | (simp [*, errW_none, errW_some] <;> rfl), by repeat (first | (with_reducible first | exact HB.out | apply below_alloc | apply pw_below_drewN | apply below_drew1) | exact HB.out)⟩

/-- THE ONE PURE STATEMENT of skywaylaw4_ApproachSpeeds: yours. -/
def skywaylaw4_ApproachSpeeds.Pure : Prop := ∀ (a0 : Int) (a1 : Int) (a2 : Int) (a3 : Int), (Lit.int .i64 a0).wf = true → (Lit.int .i64 a1).wf = true → (Lit.int .i64 a2).wf = true → (Lit.int .i64 a3).wf = true → ∃ k, skywaylaw4_ApproachSpeeds.f k a0 a1 a2 a3 = some true
theorem skywaylaw4_ApproachSpeeds.walk (P : skywaylaw4_ApproachSpeeds.Pure) (a0 : Int) (a1 : Int) (a2 : Int) (a3 : Int) (w : World) (w0 : (Lit.int .i64 a0).wf = true) (w1 : (Lit.int .i64 a1).wf = true) (w2 : (Lit.int .i64 a2).wf = true) (w3 : (Lit.int .i64 a3).wf = true) :
    Calls Try.prog 5 #[.int .i64 a0, .int .i64 a1, .int .i64 a2, .int .i64 a3] w fun e w' => e = .returned (.bool true) ∧ Below w.heap.size w w' := by
  obtain ⟨k, h⟩ := P a0 a1 a2 a3 w0 w1 w2 w3
  refine (skywaylaw4_ApproachSpeeds.calls k a0 a1 a2 a3 true w h).mono ?_
  rintro e w' ⟨rfl, hd⟩
  exact ⟨rfl, hd⟩

end Go.Proofs.Ytlaaeighanknpaa.PApproachSpeeds
