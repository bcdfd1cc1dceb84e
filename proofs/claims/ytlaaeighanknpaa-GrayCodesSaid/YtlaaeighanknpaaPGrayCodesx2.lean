-- PRINTED BY print.sh 35421559b90ae4d0a3588c463048766b98c2df88dd9212a6774a882060cdf62d: not written by this session
import Derived.Test.YtlaaeighanknpaaPGrayCodesx0
import Derived.Test.YtlaaeighanknpaaPGrayCodesx1
namespace Go.Proofs.Ytlaaeighanknpaa.PGrayCodes
open Go.RowKit Go.Proofs.YtlaaeighanknpaaW.PrintWords Go.Proofs.YtlaaeighanknpaaW.PrintLast Go.Proofs.YtlaaeighanknpaaW.PrintMore
attribute [local go_sem] max2_int min2_int max_two min_two max_three min_three max_four min_four   -- for this text's walks alone
set_option linter.unusedVariables false
set_option linter.unusedSimpArgs false

/-! ### skywaylaw2_GrayCodes: function 4 -/
mutual
def skywaylaw2_GrayCodes.j0 : Nat → Int → Int → Bool → Option (Bool)
  | 0, _, _, _ => none
  | k + 1, x0, x1, x22 => if x22 = true then (some false) else ((skywayref2_Grays.f k).bind fun t110 => ((gray_Encode.f x0).bind fun bt113 => ((skywayref2_In.f x0 (-1000) 60000).bind fun t115 => (if t115 = true then (if bt113.2 = 0 then ((skywayref2_Down.f (wrap64 (x0 + 1000)) 100).bind fun t116 => (if 0 ≤ t116 then (if t116 < (t110.length : Int) then (if bt113.1 = (rd t110 t116) then (skywaylaw2_GrayCodes.j1 k x1 t110) else (some false)) else (none)) else (none))) else (some false)) else (if bt113.2 = 4 then (if bt113.1 = 0 then (skywaylaw2_GrayCodes.j1 k x1 t110) else (some false)) else (some false))))))
def skywaylaw2_GrayCodes.j1 : Nat → Int → List Int → Option (Bool)
  | 0, _, _ => none
  | k + 1, x1, x7 => (gray_Decode.f k x1).bind fun bt118 => ((skywayref2_In.f x1 0 4095).bind fun t120 => (if t120 = true then (skywaylaw2_GrayCodes.l0 k x1 bt118.2 bt118.1 x7 (x7.length : Int) 0) else (if bt118.2 = 4 then (some (bt118.1 == 0)) else (some false))))
def skywaylaw2_GrayCodes.l0 : Nat → Int → Int → Int → List Int → Int → Int → Option (Bool)
  | 0, _, _, _, _, _, _ => none
  | k + 1, x1, x9, x10, x64, x65, x66 => if x66 < x65 then (if 0 ≤ x66 then (if x66 < (x64.length : Int) then (if (rd x64 x66) = x1 then (if (wrap64 ((wrap64 (100 * x66)) - 1000)) > 60000 then (if x9 = 8 then (some (x10 == 0)) else (some false)) else (if x9 = 0 then (some (x10 == (wrap64 ((wrap64 (100 * x66)) - 1000)))) else (some false))) else (skywaylaw2_GrayCodes.l0 k x1 x9 x10 x64 x65 (wrap64 (x66 + 1)))) else (none)) else (none)) else (some false)
end
def skywaylaw2_GrayCodes.f (k : Nat) (a0 : Int) (a1 : Int) : Option (Bool) := (gray_Encode.f 0).bind fun bt108 => (if bt108.2 = 0 then (skywaylaw2_GrayCodes.j0 k a0 a1 (bt108.1 != 15)) else (skywaylaw2_GrayCodes.j0 k a0 a1 true))
theorem skywaylaw2_GrayCodes.mono_l : ∀ k, (∀ y0 y1 y2, LeO (skywaylaw2_GrayCodes.j0 k y0 y1 y2) (skywaylaw2_GrayCodes.j0 (k + 1) y0 y1 y2)) ∧ (∀ y0 y1, LeO (skywaylaw2_GrayCodes.j1 k y0 y1) (skywaylaw2_GrayCodes.j1 (k + 1) y0 y1)) ∧ (∀ y0 y1 y2 y3 y4 y5, LeO (skywaylaw2_GrayCodes.l0 k y0 y1 y2 y3 y4 y5) (skywaylaw2_GrayCodes.l0 (k + 1) y0 y1 y2 y3 y4 y5))
  | 0 => ⟨fun _ _ _ r h => by simp [skywaylaw2_GrayCodes.j0] at h, fun _ _ r h => by simp [skywaylaw2_GrayCodes.j1] at h, fun _ _ _ _ _ _ r h => by simp [skywaylaw2_GrayCodes.l0] at h⟩
  | k + 1 => by
    obtain ⟨ih0, ih1, ih2⟩ := skywaylaw2_GrayCodes.mono_l k
    refine ⟨?_, ?_, ?_⟩
    · intro y0 y1 y2
      unfold skywaylaw2_GrayCodes.j0
      repeat' first
      | (with_reducible exact ih0 _ _ _)
      | (with_reducible exact ih1 _ _)
      | (with_reducible exact ih2 _ _ _ _ _ _)
      | (with_reducible exact gray_Decode.mono _ _)
      | (with_reducible exact skywayref2_Grays.mono _)
      | (with_reducible exact LeO.refl _)
      | (with_reducible exact LeO.none _)
      | (with_reducible refine LeO.ite ?_ ?_)
      | (with_reducible refine LeO.bind ?_ (fun _ => ?_))
      | exact ih0 _ _ _
      | exact ih1 _ _
      | exact ih2 _ _ _ _ _ _
      | exact gray_Decode.mono _ _
      | exact skywayref2_Grays.mono _
      | exact LeO.none _
      | refine LeO.ite ?_ ?_
      | refine LeO.bind ?_ (fun _ => ?_)
    · intro y0 y1
      unfold skywaylaw2_GrayCodes.j1
      repeat' first
      | (with_reducible exact ih0 _ _ _)
      | (with_reducible exact ih1 _ _)
      | (with_reducible exact ih2 _ _ _ _ _ _)
      | (with_reducible exact gray_Decode.mono _ _)
      | (with_reducible exact skywayref2_Grays.mono _)
      | (with_reducible exact LeO.refl _)
      | (with_reducible exact LeO.none _)
      | (with_reducible refine LeO.ite ?_ ?_)
      | (with_reducible refine LeO.bind ?_ (fun _ => ?_))
      | exact ih0 _ _ _
      | exact ih1 _ _
      | exact ih2 _ _ _ _ _ _
      | exact gray_Decode.mono _ _
      | exact skywayref2_Grays.mono _
      | exact LeO.none _
      | refine LeO.ite ?_ ?_
      | refine LeO.bind ?_ (fun _ => ?_)
    · intro y0 y1 y2 y3 y4 y5
      unfold skywaylaw2_GrayCodes.l0
      repeat' first
      | (with_reducible exact ih0 _ _ _)
      | (with_reducible exact ih1 _ _)
      | (with_reducible exact ih2 _ _ _ _ _ _)
      | (with_reducible exact gray_Decode.mono _ _)
      | (with_reducible exact skywayref2_Grays.mono _)
      | (with_reducible exact LeO.refl _)
      | (with_reducible exact LeO.none _)
      | (with_reducible refine LeO.ite ?_ ?_)
      | (with_reducible refine LeO.bind ?_ (fun _ => ?_))
      | exact ih0 _ _ _
      | exact ih1 _ _
      | exact ih2 _ _ _ _ _ _
      | exact gray_Decode.mono _ _
      | exact skywayref2_Grays.mono _
      | exact LeO.none _
      | refine LeO.ite ?_ ?_
      | refine LeO.bind ?_ (fun _ => ?_)
theorem skywaylaw2_GrayCodes.mono : ∀ a0 a1 k, LeO (skywaylaw2_GrayCodes.f k a0 a1) (skywaylaw2_GrayCodes.f (k + 1) a0 a1) := by
  intro a0 a1 k
  obtain ⟨ih0, ih1, ih2⟩ := skywaylaw2_GrayCodes.mono_l k
  unfold skywaylaw2_GrayCodes.f
  repeat' first
      | (with_reducible exact ih0 _ _ _)
      | (with_reducible exact ih1 _ _)
      | (with_reducible exact ih2 _ _ _ _ _ _)
      | (with_reducible exact gray_Decode.mono _ _)
      | (with_reducible exact skywayref2_Grays.mono _)
      | (with_reducible exact LeO.refl _)
      | (with_reducible exact LeO.none _)
      | (with_reducible refine LeO.ite ?_ ?_)
      | (with_reducible refine LeO.bind ?_ (fun _ => ?_))
      | exact ih0 _ _ _
      | exact ih1 _ _
      | exact ih2 _ _ _ _ _ _
      | exact gray_Decode.mono _ _
      | exact skywayref2_Grays.mono _
      | exact LeO.none _
      | refine LeO.ite ?_ ?_
      | refine LeO.bind ?_ (fun _ => ?_)
set_option maxHeartbeats 8000000 in
set_option maxRecDepth 100000 in
theorem skywaylaw2_GrayCodes.calls (k : Nat) (a0 : Int) (a1 : Int) (r : Bool) (w : World) (h : skywaylaw2_GrayCodes.f k a0 a1 = some r) :
    Calls Try.prog 4 #[.int .i64 a0, .int .i64 a1] w fun e w' => e = .returned (.bool r) ∧ Below w.heap.size w w' := by
  have HB := Aside0.mk (Below.refl w.heap.size w)
  have H : ((gray_Encode.f 0).bind fun bt108 => (if bt108.2 = 0 then (skywaylaw2_GrayCodes.j0 k a0 a1 (bt108.1 != 15)) else (skywaylaw2_GrayCodes.j0 k a0 a1 true))) = some r := h
  clear h
  replace H := Option.bind_eq_some_iff.mp H
  obtain ⟨⟨t108, t109⟩, A30, H⟩ := H
  replace H : (if t109 = 0 then (skywaylaw2_GrayCodes.j0 k a0 a1 (t108 != 15)) else (skywaylaw2_GrayCodes.j0 k a0 a1 true)) = some r := H
  have A3 := Aside0.mk A30
  clear A30
  have HC4 := Aside0.mk H
  clear H
  go_enter Try.func4, Try.ntmps4
  go_upto_region 2 with (first | ((with_reducible refine gate_callee (f := 18) rfl ?_); refine goesL_ (some 14) rfl rfl Try.func18 (by kernel_rfl) rfl #[.int .i64 0] rfl (by (try simp only [List.map_toArray, List.map_cons, List.map_nil]); first | done | rfl | (simp only [List.length_drop, List.length_take]; rfl)) ?_; (with_reducible refine (gray_Encode.calls 0 t108 t109 _ A3.out).mono ?_); rintro e w' ⟨rfl, ⟨nd, rfl⟩⟩; refine ⟨_, rfl, ?_⟩))
  (try simp only [Act.put, List.setIfInBounds_toArray, List.set_cons_zero, List.set_cons_succ])
  go_cut [22] (fun v22 wc => ∃ (kq : Nat) (x22_3 : Bool), v22 = .bool x22_3 ∧ Aside0 (skywaylaw2_GrayCodes.j0 kq a0 a1 x22_3 = some r) ∧ Aside0 (kq ≤ k) ∧ Aside0 (Below w.heap.size w wc))
  case first =>
    have H := HC4.out
    clear HC4
    by_cases c5 : t109 = 0
    · rw [if_pos c5] at H
      have c5b0 : (t109 == 0) = true := beq_iff_eq.mpr c5
      have c5b1 : (t109 != 0) = false := bne_eq_false_iff_eq.mpr c5
      clear c5
      (first | rw [c5b0] | (simp only [i64_w, i32_w]; rw [c5b0]) | skip)
      have H' := Aside0.mk H
      clear H
      go_wp2
      go_meet
      case rel => exact ⟨_, ((t108 != 15)), (by first | rfl | (simp; done) | (simp [*]; done)), H', ⟨by first | omega | exact Nat.le_refl _⟩, ⟨by repeat (first | (with_reducible first | exact HB.out | apply below_alloc | apply pw_below_drewN | apply below_drew1) | exact HB.out)⟩⟩
    · rw [if_neg c5] at H
      have c5b0 : (t109 == 0) = false := beq_eq_false_iff_ne.mpr c5
      have c5b1 : (t109 != 0) = true := bne_iff_ne.mpr c5
      (first | rw [c5b0] | (simp only [i64_w, i32_w]; rw [c5b0]) | skip)
      have H' := Aside0.mk H
      clear H
      go_wp2
      go_meet
      case rel => exact ⟨_, (true), (by first | rfl | (simp; done) | (simp [*]; done)), H', ⟨by first | omega | exact Nat.le_refl _⟩, ⟨by repeat (first | (with_reducible first | exact HB.out | apply below_alloc | apply pw_below_drewN | apply below_drew1) | exact HB.out)⟩⟩
  case rest =>
    clear HC4
    try clear c1
    try clear p2
    try clear c4
    try clear c5
    try clear c5b0
    try clear c5b1
    obtain ⟨kq, x22_3, rfl, HA, HJ3, HB⟩ := hcut
    cases kq with
    | zero => exact absurd HA.out (by simp [skywaylaw2_GrayCodes.j0])
    | succ kj3 =>
      have H := HA.out
      clear HA
      simp only [skywaylaw2_GrayCodes.j0] at H
      by_cases c6 : x22_3 = true
      · subst c6
        have H1 : (some false) = some r := by rw [if_pos rfl] at H; exact H
        clear H
        have H := H1
        clear H1
        obtain rfl := Option.some.inj H
        go_wp2
        go_ret
        exact ⟨by first | rfl | (simp [errW_none, errW_some] <;> rfl) | (simp [*, errW_none, errW_some] <;> rfl), by repeat (first | (with_reducible first | exact HB.out | apply below_alloc | apply pw_below_drewN | apply below_drew1) | exact HB.out)⟩
      · replace c6 := Bool.eq_false_iff.mpr c6
        subst c6
        have H1 : ((skywayref2_Grays.f kj3).bind fun t110 => ((gray_Encode.f a0).bind fun bt113 => ((skywayref2_In.f a0 (-1000) 60000).bind fun t115 => (if t115 = true then (if bt113.2 = 0 then ((skywayref2_Down.f (wrap64 (a0 + 1000)) 100).bind fun t116 => (if 0 ≤ t116 then (if t116 < (t110.length : Int) then (if bt113.1 = (rd t110 t116) then (skywaylaw2_GrayCodes.j1 kj3 a1 t110) else (some false)) else (none)) else (none))) else (some false)) else (if bt113.2 = 4 then (if bt113.1 = 0 then (skywaylaw2_GrayCodes.j1 kj3 a1 t110) else (some false)) else (some false)))))) = some r := by rw [if_neg (show ¬ (false = true) by decide)] at H; exact H
        clear H
        have H := H1
        clear H1
        replace H := Option.bind_eq_some_iff.mp H
        obtain ⟨t110, A70, H⟩ := H
        replace H : ((gray_Encode.f a0).bind fun bt113 => ((skywayref2_In.f a0 (-1000) 60000).bind fun t115 => (if t115 = true then (if bt113.2 = 0 then ((skywayref2_Down.f (wrap64 (a0 + 1000)) 100).bind fun t116 => (if 0 ≤ t116 then (if t116 < (t110.length : Int) then (if bt113.1 = (rd t110 t116) then (skywaylaw2_GrayCodes.j1 kj3 a1 t110) else (some false)) else (none)) else (none))) else (some false)) else (if bt113.2 = 4 then (if bt113.1 = 0 then (skywaylaw2_GrayCodes.j1 kj3 a1 t110) else (some false)) else (some false))))) = some r := H
        have A7 := Aside0.mk A70
        clear A70
        replace H := Option.bind_eq_some_iff.mp H
        obtain ⟨⟨t113, t114⟩, A80, H⟩ := H
        replace H : ((skywayref2_In.f a0 (-1000) 60000).bind fun t115 => (if t115 = true then (if t114 = 0 then ((skywayref2_Down.f (wrap64 (a0 + 1000)) 100).bind fun t116 => (if 0 ≤ t116 then (if t116 < (t110.length : Int) then (if t113 = (rd t110 t116) then (skywaylaw2_GrayCodes.j1 kj3 a1 t110) else (some false)) else (none)) else (none))) else (some false)) else (if t114 = 4 then (if t113 = 0 then (skywaylaw2_GrayCodes.j1 kj3 a1 t110) else (some false)) else (some false)))) = some r := H
        have A8 := Aside0.mk A80
        clear A80
        replace H := Option.bind_eq_some_iff.mp H
        obtain ⟨t115, A90, H⟩ := H
        replace H : (if t115 = true then (if t114 = 0 then ((skywayref2_Down.f (wrap64 (a0 + 1000)) 100).bind fun t116 => (if 0 ≤ t116 then (if t116 < (t110.length : Int) then (if t113 = (rd t110 t116) then (skywaylaw2_GrayCodes.j1 kj3 a1 t110) else (some false)) else (none)) else (none))) else (some false)) else (if t114 = 4 then (if t113 = 0 then (skywaylaw2_GrayCodes.j1 kj3 a1 t110) else (some false)) else (some false))) = some r := H
        have A9 := Aside0.mk A90
        clear A90
        have HC10 := Aside0.mk H
        clear H
        go_upto_if 31 with (first | ((with_reducible refine gate_callee (f := 19) rfl ?_); refine goesL_ (some 23) rfl rfl Try.func19 (by kernel_rfl) rfl #[] rfl (by (try simp only [List.map_toArray, List.map_cons, List.map_nil]); first | done | rfl | (simp only [List.length_drop, List.length_take]; rfl)) ?_; (with_reducible refine (skywayref2_Grays.calls kj3  t110 _ A7.out).mono ?_); rintro e w11 ⟨v111, rfl, ho0, hb⟩; refine ⟨_, rfl, ?_⟩; have n0_ := Aside0.mk (Kd.R_lower ho0 (below_size (by repeat (first | (with_reducible first | exact HB.out | apply below_alloc | apply pw_below_drewN | apply below_drew1) | exact HB.out)))); have n1_ := Aside0.mk (below_step (by repeat (first | (with_reducible first | exact HB.out | apply below_alloc | apply pw_below_drewN | apply below_drew1) | exact HB.out)) hb); clear HB; have HO112 := n0_; have HB := n1_; clear n0_ n1_; (try clear hb); (try clear hb2); (try clear hk); (try clear hi); (try clear ho0)) | ((with_reducible refine gate_callee (f := 18) rfl ?_); refine goesL_ (some 26) rfl rfl Try.func18 (by kernel_rfl) rfl #[.int .i64 a0] rfl (by (try simp only [List.map_toArray, List.map_cons, List.map_nil]); first | done | rfl | (simp only [List.length_drop, List.length_take]; rfl)) ?_; (with_reducible refine (gray_Encode.calls a0 t113 t114 _ A8.out).mono ?_); rintro e w' ⟨rfl, ⟨nd, rfl⟩⟩; refine ⟨_, rfl, ?_⟩) | ((with_reducible refine gate_callee (f := 17) rfl ?_); refine goesL_ (some 30) rfl rfl Try.func17 (by kernel_rfl) rfl #[.int .i64 a0, .int .i64 (-1000), .int .i64 60000] rfl (by (try simp only [List.map_toArray, List.map_cons, List.map_nil]); first | done | rfl | (simp only [List.length_drop, List.length_take]; rfl)) ?_; (with_reducible refine (skywayref2_In.calls a0 (-1000) 60000 t115 _ A9.out).mono ?_); rintro e w' ⟨rfl, ⟨nd, rfl⟩⟩; refine ⟨_, rfl, ?_⟩))
        (try simp only [Act.put, List.setIfInBounds_toArray, List.set_cons_zero, List.set_cons_succ])
        go_cut [] (fun wc => ∃ (kq : Nat), Aside0 (skywaylaw2_GrayCodes.j1 kq a1 t110 = some r) ∧ Aside0 (kq ≤ kj3) ∧ Aside0 (Kd.R (Kd.int .i64) 3 wc w.heap.size (fun _ => True) v111 t110) ∧ Aside0 (Below w.heap.size w wc))
        case first =>
          have H := HC10.out
          clear HC10
          by_cases c12 : t115 = true
          · subst c12
            have H1 : (if t114 = 0 then ((skywayref2_Down.f (wrap64 (a0 + 1000)) 100).bind fun t116 => (if 0 ≤ t116 then (if t116 < (t110.length : Int) then (if t113 = (rd t110 t116) then (skywaylaw2_GrayCodes.j1 kj3 a1 t110) else (some false)) else (none)) else (none))) else (some false)) = some r := by rw [if_pos rfl] at H; exact H
            clear H
            have H := H1
            clear H1
            by_cases c13 : t114 = 0
            · rw [if_pos c13] at H
              have c13b0 : (t114 == 0) = true := beq_iff_eq.mpr c13
              have c13b1 : (t114 != 0) = false := bne_eq_false_iff_eq.mpr c13
              clear c13
              (first | rw [c13b0] | (simp only [i64_w, i32_w]; rw [c13b0]) | skip)
              replace H := Option.bind_eq_some_iff.mp H
              obtain ⟨t116, A140, H⟩ := H
              replace H : (if 0 ≤ t116 then (if t116 < (t110.length : Int) then (if t113 = (rd t110 t116) then (skywaylaw2_GrayCodes.j1 kj3 a1 t110) else (some false)) else (none)) else (none)) = some r := H
              have A14 := Aside0.mk A140
              clear A140
              by_cases c15 : 0 ≤ t116
              · rw [if_pos c15] at H
                have c15b0 : decide (0 ≤ t116) = true := decide_eq_true c15
                clear c15
                by_cases c16 : t116 < (t110.length : Int)
                · rw [if_pos c16] at H
                  have c16b0 : decide (t116 < (t110.length : Int)) = true := decide_eq_true c16
                  clear c16
                  by_cases c17 : t113 = (rd t110 t116)
                  · rw [if_pos c17] at H
                    have c17b0 : (t113 == (rd t110 t116)) = true := beq_iff_eq.mpr c17
                    have c17b1 : (t113 != (rd t110 t116)) = false := bne_eq_false_iff_eq.mpr c17
                    clear c17
                    have H' := Aside0.mk H
                    clear H
                    go_wp2_with (first | (go_at_call 20; (with_reducible refine (skywayref2_Down.calls (wrap64 (a0 + 1000)) 100 t116 _ A14.out).mono ?_); rintro e w' ⟨rfl, ⟨nd, rfl⟩⟩; obtain ⟨Ao18, co18, eo18⟩ := Kd.R_slice HO112.out; subst eo18; have p117 : 0 ≤ (t116 : Int) := of_decide_eq_true (by first | (with_reducible assumption) | assumption); have q117 : t116 < (t110.length : Int) := of_decide_eq_true (by first | (with_reducible assumption) | assumption); obtain ⟨ad117, e117, hx117_0⟩ := Kd.at_int (Kd.R_reads' HO112.out).2.2 t116 p117 q117; cases e117; replace p117 := eq_true p117; replace q117 := eq_true q117))
                    go_meet
                    case rel => exact ⟨_, H', ⟨by have := HJ3.out; first | omega | exact Nat.le_refl _⟩, ⟨by (with_reducible repeat (first | apply Kd.R_alloc | apply Kd.R_drewN | apply Kd.R_drew)); exact HO112.out⟩, ⟨by repeat (first | (with_reducible first | exact HB.out | apply below_alloc | apply pw_below_drewN | apply below_drew1) | exact HB.out)⟩⟩
                  · rw [if_neg c17] at H
                    have c17b0 : (t113 == (rd t110 t116)) = false := beq_eq_false_iff_ne.mpr c17
                    have c17b1 : (t113 != (rd t110 t116)) = true := bne_iff_ne.mpr c17
                    obtain rfl := Option.some.inj H
                    go_wp2_with (first | (go_at_call 20; (with_reducible refine (skywayref2_Down.calls (wrap64 (a0 + 1000)) 100 t116 _ A14.out).mono ?_); rintro e w' ⟨rfl, ⟨nd, rfl⟩⟩; obtain ⟨Ao19, co19, eo19⟩ := Kd.R_slice HO112.out; subst eo19; have p117 : 0 ≤ (t116 : Int) := of_decide_eq_true (by first | (with_reducible assumption) | assumption); have q117 : t116 < (t110.length : Int) := of_decide_eq_true (by first | (with_reducible assumption) | assumption); obtain ⟨ad117, e117, hx117_0⟩ := Kd.at_int (Kd.R_reads' HO112.out).2.2 t116 p117 q117; cases e117; replace p117 := eq_true p117; replace q117 := eq_true q117))
                    go_ret
                    exact ⟨by first | rfl | (simp [errW_none, errW_some] <;> rfl) | (simp [*, errW_none, errW_some] <;> rfl), by repeat (first | (with_reducible first | exact HB.out | apply below_alloc | apply pw_below_drewN | apply below_drew1) | exact HB.out)⟩
                · rw [if_neg c16] at H
                  exact absurd H (by simp)
              · rw [if_neg c15] at H
                exact absurd H (by simp)
            · rw [if_neg c13] at H
              have c13b0 : (t114 == 0) = false := beq_eq_false_iff_ne.mpr c13
              have c13b1 : (t114 != 0) = true := bne_iff_ne.mpr c13
              (first | rw [c13b0] | (simp only [i64_w, i32_w]; rw [c13b0]) | skip)
              obtain rfl := Option.some.inj H
              go_wp2
              go_ret
              exact ⟨by first | rfl | (simp [errW_none, errW_some] <;> rfl) | (simp [*, errW_none, errW_some] <;> rfl), by repeat (first | (with_reducible first | exact HB.out | apply below_alloc | apply pw_below_drewN | apply below_drew1) | exact HB.out)⟩
          · replace c12 := Bool.eq_false_iff.mpr c12
            subst c12
            have H1 : (if t114 = 4 then (if t113 = 0 then (skywaylaw2_GrayCodes.j1 kj3 a1 t110) else (some false)) else (some false)) = some r := by rw [if_neg (show ¬ (false = true) by decide)] at H; exact H
            clear H
            have H := H1
            clear H1
            by_cases c20 : t114 = 4
            · rw [if_pos c20] at H
              have c20b0 : (t114 == 4) = true := beq_iff_eq.mpr c20
              have c20b1 : (t114 != 4) = false := bne_eq_false_iff_eq.mpr c20
              clear c20
              by_cases c21 : t113 = 0
              · rw [if_pos c21] at H
                have c21b0 : (t113 == 0) = true := beq_iff_eq.mpr c21
                have c21b1 : (t113 != 0) = false := bne_eq_false_iff_eq.mpr c21
                clear c21
                have H' := Aside0.mk H
                clear H
                go_wp2
                go_meet
                case rel => exact ⟨_, H', ⟨by have := HJ3.out; first | omega | exact Nat.le_refl _⟩, ⟨by (with_reducible repeat (first | apply Kd.R_alloc | apply Kd.R_drewN | apply Kd.R_drew)); exact HO112.out⟩, ⟨by repeat (first | (with_reducible first | exact HB.out | apply below_alloc | apply pw_below_drewN | apply below_drew1) | exact HB.out)⟩⟩
              · rw [if_neg c21] at H
                have c21b0 : (t113 == 0) = false := beq_eq_false_iff_ne.mpr c21
                have c21b1 : (t113 != 0) = true := bne_iff_ne.mpr c21
                obtain rfl := Option.some.inj H
                go_wp2
                go_ret
                exact ⟨by first | rfl | (simp [errW_none, errW_some] <;> rfl) | (simp [*, errW_none, errW_some] <;> rfl), by repeat (first | (with_reducible first | exact HB.out | apply below_alloc | apply pw_below_drewN | apply below_drew1) | exact HB.out)⟩
            · rw [if_neg c20] at H
              have c20b0 : (t114 == 4) = false := beq_eq_false_iff_ne.mpr c20
              have c20b1 : (t114 != 4) = true := bne_iff_ne.mpr c20
              obtain rfl := Option.some.inj H
              go_wp2
              go_ret
              exact ⟨by first | rfl | (simp [errW_none, errW_some] <;> rfl) | (simp [*, errW_none, errW_some] <;> rfl), by repeat (first | (with_reducible first | exact HB.out | apply below_alloc | apply pw_below_drewN | apply below_drew1) | exact HB.out)⟩
        case rest =>
          clear HC10
          try clear c1
          try clear p1
          try clear q1
          try clear hx1
          try clear c2
          try clear p2
          try clear c4
          try clear c5
          try clear c5b0
          try clear c5b1
          try clear c6
          try clear p6
          try clear p11
          try clear q11
          try clear hx11
          try clear c12
          try clear c13
          try clear c13b0
          try clear c13b1
          try clear c15
          try clear c15b0
          try clear c16
          try clear c16b0
          try clear c17
          try clear c17b0
          try clear c17b1
          try clear c18
          try clear c19
          try clear c20
          try clear c20b0
          try clear c20b1
          try clear c21
          try clear c21b0
          try clear c21b1
          try clear hx117_0
          try clear p117
          try clear p2
          try clear q117
          obtain ⟨kq, HA, HJ9, HO_7, HB⟩ := hcut
          cases kq with
          | zero => exact absurd HA.out (by simp [skywaylaw2_GrayCodes.j1])
          | succ kj9 =>
            have H := HA.out
            clear HA
            simp only [skywaylaw2_GrayCodes.j1] at H
            replace H := Option.bind_eq_some_iff.mp H
            obtain ⟨⟨t118, t119⟩, A220, H⟩ := H
            replace H : ((skywayref2_In.f a1 0 4095).bind fun t120 => (if t120 = true then (skywaylaw2_GrayCodes.l0 kj9 a1 t119 t118 t110 (t110.length : Int) 0) else (if t119 = 4 then (some (t118 == 0)) else (some false)))) = some r := H
            have A22 := Aside0.mk A220
            clear A220
            replace H := Option.bind_eq_some_iff.mp H
            obtain ⟨t120, A230, H⟩ := H
            replace H : (if t120 = true then (skywaylaw2_GrayCodes.l0 kj9 a1 t119 t118 t110 (t110.length : Int) 0) else (if t119 = 4 then (some (t118 == 0)) else (some false))) = some r := H
            have A23 := Aside0.mk A230
            clear A230
            by_cases c24 : t120 = true
            · subst c24
              have H1 : (skywaylaw2_GrayCodes.l0 kj9 a1 t119 t118 t110 (t110.length : Int) 0) = some r := by rw [if_pos rfl] at H; exact H
              clear H
              have H := H1
              clear H1
              have H' := Aside0.mk H
              clear H
              go_wp2_with (first | ((with_reducible refine gate_callee (f := 21) rfl ?_); refine goesL_ (some 52) rfl rfl Try.func21 (by kernel_rfl) rfl #[.int .i64 a1] rfl (by (try simp only [List.map_toArray, List.map_cons, List.map_nil]); first | done | rfl | (simp only [List.length_drop, List.length_take]; rfl)) ?_; (with_reducible refine (gray_Decode.calls kj9 a1 t118 t119 _ A22.out).mono ?_); rintro e w' ⟨rfl, ⟨nd, rfl⟩⟩; refine ⟨_, rfl, ?_⟩) | ((with_reducible refine gate_callee (f := 17) rfl ?_); refine goesL_ (some 56) rfl rfl Try.func17 (by kernel_rfl) rfl #[.int .i64 a1, .int .i64 0, .int .i64 4095] rfl (by (try simp only [List.map_toArray, List.map_cons, List.map_nil]); first | done | rfl | (simp only [List.length_drop, List.length_take]; rfl)) ?_; (with_reducible refine (skywayref2_In.calls a1 0 4095 true _ A23.out).mono ?_); rintro e w' ⟨rfl, ⟨nd, rfl⟩⟩; refine ⟨_, rfl, ?_⟩; obtain ⟨Ao25, co25, eo25⟩ := Kd.R_slice HO_7.out; subst eo25))
              go_loopg [66] kj9 (fun kq v66 w' => ∃ (x66_3 : Int), v66 = .int .i64 x66_3 ∧ Aside0 (skywaylaw2_GrayCodes.l0 kq a1 t119 t118 t110 (t110.length : Int) x66_3 = some r) ∧ Aside0 (kq ≤ kj9) ∧ Aside0 (Kd.R (Kd.int .i64) 3 w' w.heap.size (fun _ => True) (.slice Ao25 t110.length co25) t110) ∧ Aside0 (Below w.heap.size w w'))
              case atStart => exact ⟨(0), (by first | rfl | (simp; done) | (simp [*]; done)), H', ⟨Nat.le_refl _⟩, ⟨by (with_reducible repeat (first | apply Kd.R_alloc | apply Kd.R_drewN | apply Kd.R_drew)); exact HO_7.out⟩, ⟨by repeat (first | (with_reducible first | exact HB.out | apply below_alloc | apply pw_below_drewN | apply below_drew1) | exact HB.out)⟩⟩
              case round =>
                clear H'
                try clear c1
                try clear p1
                try clear q1
                try clear hx1
                try clear c2
                try clear p2
                try clear c4
                try clear c5
                try clear c5b0
                try clear c5b1
                try clear c6
                try clear p6
                try clear p11
                try clear q11
                try clear hx11
                try clear c12
                try clear c13
                try clear c13b0
                try clear c13b1
                try clear c15
                try clear c15b0
                try clear c16
                try clear c16b0
                try clear c17
                try clear c17b0
                try clear c17b1
                try clear c18
                try clear c19
                try clear c20
                try clear c20b0
                try clear c20b1
                try clear c21
                try clear c21b0
                try clear c21b1
                try clear c24
                try clear hx117_0
                try clear p1
                try clear p11
                try clear p117
                try clear p2
                try clear p6
                try clear q1
                try clear q11
                try clear q117
                obtain ⟨x66_3, rfl, HA, HK3, HO_64, HB⟩ := hrel
                cases gk with
                | zero => exact absurd HA.out (by simp [skywaylaw2_GrayCodes.l0])
                | succ k3 =>
                  have H := HA.out
                  clear HA
                  simp only [skywaylaw2_GrayCodes.l0] at H
                  by_cases c26 : x66_3 < (t110.length : Int)
                  · rw [if_pos c26] at H
                    have c26b0 : decide (x66_3 < (t110.length : Int)) = true := decide_eq_true c26
                    clear c26
                    by_cases c27 : 0 ≤ x66_3
                    · rw [if_pos c27] at H
                      have c27b0 : decide (0 ≤ x66_3) = true := decide_eq_true c27
                      clear c27
                      by_cases c28 : x66_3 < (t110.length : Int)
                      · rw [if_pos c28] at H
                        have c28b0 : decide (x66_3 < (t110.length : Int)) = true := decide_eq_true c28
                        clear c28
                        by_cases c29 : (rd t110 x66_3) = a1
                        · rw [if_pos c29] at H
                          have c29b0 : ((rd t110 x66_3) == a1) = true := beq_iff_eq.mpr c29
                          have c29b1 : ((rd t110 x66_3) != a1) = false := bne_eq_false_iff_eq.mpr c29
                          clear c29
                          by_cases c30 : (wrap64 ((wrap64 (100 * x66_3)) - 1000)) > 60000
                          · rw [if_pos c30] at H
                            have c30b0 : decide (60000 < (wrap64 ((wrap64 (100 * x66_3)) - 1000))) = true := decide_eq_true c30
                            clear c30
                            by_cases c31 : t119 = 8
                            · rw [if_pos c31] at H
                              have c31b0 : (t119 == 8) = true := beq_iff_eq.mpr c31
                              have c31b1 : (t119 != 8) = false := bne_eq_false_iff_eq.mpr c31
                              clear c31
                              obtain rfl := Option.some.inj H
                              have p121 : 0 ≤ (x66_3 : Int) := of_decide_eq_true (by first | (with_reducible assumption) | assumption)
                              have q121 : x66_3 < (t110.length : Int) := of_decide_eq_true (by first | (with_reducible assumption) | assumption)
                              obtain ⟨ad121, e121, hx121_0⟩ := Kd.at_int (Kd.R_reads' HO_64.out).2.2 x66_3 p121 q121
                              cases e121
                              replace p121 := eq_true p121
                              replace q121 := eq_true q121
                              go_wp2
                              go_ret
                              exact ⟨by first | rfl | (simp [errW_none, errW_some] <;> rfl) | (simp [*, errW_none, errW_some] <;> rfl), by repeat (first | (with_reducible first | exact HB.out | apply below_alloc | apply pw_below_drewN | apply below_drew1) | exact HB.out)⟩
                            · rw [if_neg c31] at H
                              have c31b0 : (t119 == 8) = false := beq_eq_false_iff_ne.mpr c31
                              have c31b1 : (t119 != 8) = true := bne_iff_ne.mpr c31
                              obtain rfl := Option.some.inj H
                              have p121 : 0 ≤ (x66_3 : Int) := of_decide_eq_true (by first | (with_reducible assumption) | assumption)
                              have q121 : x66_3 < (t110.length : Int) := of_decide_eq_true (by first | (with_reducible assumption) | assumption)
                              obtain ⟨ad121, e121, hx121_0⟩ := Kd.at_int (Kd.R_reads' HO_64.out).2.2 x66_3 p121 q121
                              cases e121
                              replace p121 := eq_true p121
                              replace q121 := eq_true q121
                              go_wp2
                              go_ret
                              exact ⟨by first | rfl | (simp [errW_none, errW_some] <;> rfl) | (simp [*, errW_none, errW_some] <;> rfl), by repeat (first | (with_reducible first | exact HB.out | apply below_alloc | apply pw_below_drewN | apply below_drew1) | exact HB.out)⟩
                          · rw [if_neg c30] at H
                            have c30b0 : decide (60000 < (wrap64 ((wrap64 (100 * x66_3)) - 1000))) = false := decide_eq_false c30
                            clear c30
                            by_cases c32 : t119 = 0
                            · rw [if_pos c32] at H
                              have c32b0 : (t119 == 0) = true := beq_iff_eq.mpr c32
                              have c32b1 : (t119 != 0) = false := bne_eq_false_iff_eq.mpr c32
                              clear c32
                              obtain rfl := Option.some.inj H
                              have p121 : 0 ≤ (x66_3 : Int) := of_decide_eq_true (by first | (with_reducible assumption) | assumption)
                              have q121 : x66_3 < (t110.length : Int) := of_decide_eq_true (by first | (with_reducible assumption) | assumption)
                              obtain ⟨ad121, e121, hx121_0⟩ := Kd.at_int (Kd.R_reads' HO_64.out).2.2 x66_3 p121 q121
                              cases e121
                              replace p121 := eq_true p121
                              replace q121 := eq_true q121
                              go_wp2
                              go_ret
                              exact ⟨by first | rfl | (simp [errW_none, errW_some] <;> rfl) | (simp [*, errW_none, errW_some] <;> rfl), by repeat (first | (with_reducible first | exact HB.out | apply below_alloc | apply pw_below_drewN | apply below_drew1) | exact HB.out)⟩
                            · rw [if_neg c32] at H
                              have c32b0 : (t119 == 0) = false := beq_eq_false_iff_ne.mpr c32
                              have c32b1 : (t119 != 0) = true := bne_iff_ne.mpr c32
                              obtain rfl := Option.some.inj H
                              have p121 : 0 ≤ (x66_3 : Int) := of_decide_eq_true (by first | (with_reducible assumption) | assumption)
                              have q121 : x66_3 < (t110.length : Int) := of_decide_eq_true (by first | (with_reducible assumption) | assumption)
                              obtain ⟨ad121, e121, hx121_0⟩ := Kd.at_int (Kd.R_reads' HO_64.out).2.2 x66_3 p121 q121
                              cases e121
                              replace p121 := eq_true p121
                              replace q121 := eq_true q121
                              go_wp2
                              go_ret
                              exact ⟨by first | rfl | (simp [errW_none, errW_some] <;> rfl) | (simp [*, errW_none, errW_some] <;> rfl), by repeat (first | (with_reducible first | exact HB.out | apply below_alloc | apply pw_below_drewN | apply below_drew1) | exact HB.out)⟩
                        · rw [if_neg c29] at H
                          have c29b0 : ((rd t110 x66_3) == a1) = false := beq_eq_false_iff_ne.mpr c29
                          have c29b1 : ((rd t110 x66_3) != a1) = true := bne_iff_ne.mpr c29
                          have H' := Aside0.mk H
                          clear H
                          have p121 : 0 ≤ (x66_3 : Int) := of_decide_eq_true (by first | (with_reducible assumption) | assumption)
                          have q121 : x66_3 < (t110.length : Int) := of_decide_eq_true (by first | (with_reducible assumption) | assumption)
                          obtain ⟨ad121, e121, hx121_0⟩ := Kd.at_int (Kd.R_reads' HO_64.out).2.2 x66_3 p121 q121
                          cases e121
                          replace p121 := eq_true p121
                          replace q121 := eq_true q121
                          go_wp2
                          go_roundg k3
                          case measure => have := HJ3.out; have := HJ9.out; have := HK3.out; omega
                          case rel => exact ⟨(wrap64 (x66_3 + 1)), (by first | rfl | (simp; done) | (simp [*]; done)), H', ⟨by have := HJ3.out; have := HJ9.out; have := HK3.out; omega⟩, ⟨by (with_reducible repeat (first | apply Kd.R_alloc | apply Kd.R_drewN | apply Kd.R_drew)); exact HO_64.out⟩, ⟨by repeat (first | (with_reducible first | exact HB.out | apply below_alloc | apply pw_below_drewN | apply below_drew1) | exact HB.out)⟩⟩
                      · rw [if_neg c28] at H
                        exact absurd H (by simp)
                    · rw [if_neg c27] at H
                      exact absurd H (by simp)
                  · rw [if_neg c26] at H
                    have c26b0 : decide (x66_3 < (t110.length : Int)) = false := decide_eq_false c26
                    clear c26
                    obtain rfl := Option.some.inj H
                    go_wp2
                    go_ret
                    exact ⟨by first | rfl | (simp [errW_none, errW_some] <;> rfl) | (simp [*, errW_none, errW_some] <;> rfl), by repeat (first | (with_reducible first | exact HB.out | apply below_alloc | apply pw_below_drewN | apply below_drew1) | exact HB.out)⟩
            · replace c24 := Bool.eq_false_iff.mpr c24
              subst c24
              have H1 : (if t119 = 4 then (some (t118 == 0)) else (some false)) = some r := by rw [if_neg (show ¬ (false = true) by decide)] at H; exact H
              clear H
              have H := H1
              clear H1
              by_cases c33 : t119 = 4
              · rw [if_pos c33] at H
                have c33b0 : (t119 == 4) = true := beq_iff_eq.mpr c33
                have c33b1 : (t119 != 4) = false := bne_eq_false_iff_eq.mpr c33
                clear c33
                obtain rfl := Option.some.inj H
                go_wp2_with (first | ((with_reducible refine gate_callee (f := 21) rfl ?_); refine goesL_ (some 52) rfl rfl Try.func21 (by kernel_rfl) rfl #[.int .i64 a1] rfl (by (try simp only [List.map_toArray, List.map_cons, List.map_nil]); first | done | rfl | (simp only [List.length_drop, List.length_take]; rfl)) ?_; (with_reducible refine (gray_Decode.calls kj9 a1 t118 t119 _ A22.out).mono ?_); rintro e w' ⟨rfl, ⟨nd, rfl⟩⟩; refine ⟨_, rfl, ?_⟩) | ((with_reducible refine gate_callee (f := 17) rfl ?_); refine goesL_ (some 56) rfl rfl Try.func17 (by kernel_rfl) rfl #[.int .i64 a1, .int .i64 0, .int .i64 4095] rfl (by (try simp only [List.map_toArray, List.map_cons, List.map_nil]); first | done | rfl | (simp only [List.length_drop, List.length_take]; rfl)) ?_; (with_reducible refine (skywayref2_In.calls a1 0 4095 false _ A23.out).mono ?_); rintro e w' ⟨rfl, ⟨nd, rfl⟩⟩; refine ⟨_, rfl, ?_⟩))
                go_ret
                exact ⟨by first | rfl | (simp [errW_none, errW_some] <;> rfl) | (simp [*, errW_none, errW_some] <;> rfl), by repeat (first | (with_reducible first | exact HB.out | apply below_alloc | apply pw_below_drewN | apply below_drew1) | exact HB.out)⟩
              · rw [if_neg c33] at H
                have c33b0 : (t119 == 4) = false := beq_eq_false_iff_ne.mpr c33
                have c33b1 : (t119 != 4) = true := bne_iff_ne.mpr c33
                obtain rfl := Option.some.inj H
                go_wp2_with (first | ((with_reducible refine gate_callee (f := 21) rfl ?_); refine goesL_ (some 52) rfl rfl Try.func21 (by kernel_rfl) rfl #[.int .i64 a1] rfl (by (try simp only [List.map_toArray, List.map_cons, List.map_nil]); first | done | rfl | (simp only [List.length_drop, List.length_take]; rfl)) ?_; (with_reducible refine (gray_Decode.calls kj9 a1 t118 t119 _ A22.out).mono ?_); rintro e w' ⟨rfl, ⟨nd, rfl⟩⟩; refine ⟨_, rfl, ?_⟩) | ((with_reducible refine gate_callee (f := 17) rfl ?_); refine goesL_ (some 56) rfl rfl Try.func17 (by kernel_rfl) rfl #[.int .i64 a1, .int .i64 0, .int .i64 4095] rfl (by (try simp only [List.map_toArray, List.map_cons, List.map_nil]); first | done | rfl | (simp only [List.length_drop, List.length_take]; rfl)) ?_; (with_reducible refine (skywayref2_In.calls a1 0 4095 false _ A23.out).mono ?_); rintro e w' ⟨rfl, ⟨nd, rfl⟩⟩; refine ⟨_, rfl, ?_⟩))
                go_ret
                exact ⟨by first | rfl | (simp [errW_none, errW_some] <;> rfl) | (simp [*, errW_none, errW_some] <;> rfl), by repeat (first | (with_reducible first | exact HB.out | apply below_alloc | apply pw_below_drewN | apply below_drew1) | exact HB.out)⟩

/-- THE ONE PURE STATEMENT of skywaylaw2_GrayCodes: yours. -/
def skywaylaw2_GrayCodes.Pure : Prop := ∀ (a0 : Int) (a1 : Int), (Lit.int .i64 a0).wf = true → (Lit.int .i64 a1).wf = true → ∃ k, skywaylaw2_GrayCodes.f k a0 a1 = some true
theorem skywaylaw2_GrayCodes.walk (P : skywaylaw2_GrayCodes.Pure) (a0 : Int) (a1 : Int) (w : World) (w0 : (Lit.int .i64 a0).wf = true) (w1 : (Lit.int .i64 a1).wf = true) :
    Calls Try.prog 4 #[.int .i64 a0, .int .i64 a1] w fun e w' => e = .returned (.bool true) ∧ Below w.heap.size w w' := by
  obtain ⟨k, h⟩ := P a0 a1 w0 w1
  refine (skywaylaw2_GrayCodes.calls k a0 a1 true w h).mono ?_
  rintro e w' ⟨rfl, hd⟩
  exact ⟨rfl, hd⟩

end Go.Proofs.Ytlaaeighanknpaa.PGrayCodes
