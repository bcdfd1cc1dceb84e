/- What is proved here: what the functions below compute, each as a plain function, with the proof that the call comes to it; written by a program of the session's over the kit's printer. No condition. -/
import Derived.Test.YtlaaeighanknpaaMLabelBoxesx0
import Derived.Test.YtlaaeighanknpaaMLabelBoxesx2
namespace Go.Proofs.Ytlaaeighanknpaa.MLabelBoxes
open Go.RowKit Go.Proofs.YtlaaeighanknpaaW.PrintWords Go.Proofs.YtlaaeighanknpaaW.PrintLast Go.Proofs.YtlaaeighanknpaaW.PrintMore
attribute [local go_sem] max2_int min2_int max_two min_two max_three min_three max_four min_four   -- for this text's walks alone
set_option linter.unusedVariables false
set_option linter.unusedSimpArgs false

/-! ### skywayref4_LabelError: function 35 -/
def skywayref4_LabelError.l0 : Nat → List (S58) → Int → Int → Option (Int)
  | 0, _, _, _ => none
  | k + 1, x8, x9, x10 => if x10 < x9 then (if 0 ≤ x10 then (if x10 < (x8.length : Int) then ((skywayref4_In.f ((rd_T58 x8 x10).f0) (-1000) 1000).bind fun t118 => (if t118 = true then ((skywayref4_In.f ((rd_T58 x8 x10).f1) (-1000) 1000).bind fun t119 => (if t119 = true then ((skywayref4_In.f ((rd_T58 x8 x10).f2) 1 40).bind fun t120 => (if t120 = true then ((skywayref4_In.f ((rd_T58 x8 x10).f3) 1 40).bind fun t121 => (if t121 = true then (skywayref4_LabelError.l0 k x8 x9 (wrap64 (x10 + 1))) else (some 4))) else (some 4))) else (some 4))) else (some 4))) else (none)) else (none)) else (some 0)
def skywayref4_LabelError.f (k : Nat) (l0 : List (S58)) : Option (Int) := if (l0.length : Int) > 32 then (some 2) else (skywayref4_LabelError.l0 k l0 (l0.length : Int) 0)
theorem skywayref4_LabelError.mono_l : ∀ k, (∀ y0 y1 y2, LeO (skywayref4_LabelError.l0 k y0 y1 y2) (skywayref4_LabelError.l0 (k + 1) y0 y1 y2))
  | 0 => fun _ _ _ r h => by simp [skywayref4_LabelError.l0] at h
  | k + 1 => by
    have ih0 := skywayref4_LabelError.mono_l k
    · intro y0 y1 y2
      unfold skywayref4_LabelError.l0
      repeat' first
      | (with_reducible exact ih0 _ _ _)
      | (with_reducible exact LeO.refl _)
      | (with_reducible exact LeO.none _)
      | (with_reducible refine LeO.ite ?_ ?_)
      | (with_reducible refine LeO.bind ?_ (fun _ => ?_))
      | exact ih0 _ _ _
      | exact LeO.none _
      | refine LeO.ite ?_ ?_
      | refine LeO.bind ?_ (fun _ => ?_)
theorem skywayref4_LabelError.mono : ∀ a0 k, LeO (skywayref4_LabelError.f k a0) (skywayref4_LabelError.f (k + 1) a0) := by
  intro a0 k
  have ih0 := skywayref4_LabelError.mono_l k
  unfold skywayref4_LabelError.f
  repeat' first
      | (with_reducible exact ih0 _ _ _)
      | (with_reducible exact LeO.refl _)
      | (with_reducible exact LeO.none _)
      | (with_reducible refine LeO.ite ?_ ?_)
      | (with_reducible refine LeO.bind ?_ (fun _ => ?_))
      | exact ih0 _ _ _
      | exact LeO.none _
      | refine LeO.ite ?_ ?_
      | refine LeO.bind ?_ (fun _ => ?_)
set_option maxHeartbeats 8000000 in
set_option maxRecDepth 100000 in
theorem skywayref4_LabelError.calls (k : Nat) (A0 : Option Addr) (c0 : Nat) (l0 : List (S58)) (r : Int) (w : World) (hr0 : Kd.C k58 w A0 l0.length l0) (hc0 : l0.length ≤ c0) (h : skywayref4_LabelError.f k l0 = some r) :
    Calls Try.prog 35 #[.slice A0 l0.length c0] w fun e w' => e = .returned (.int .i64 r) ∧ Below w.heap.size w w' := by
  have hu58 := Try.underlying58
  have HR0 := Aside0.mk hr0
  have HC0 := Aside0.mk hc0
  clear hr0 hc0
  have HB := Aside0.mk (Below.refl w.heap.size w)
  have H : (if (l0.length : Int) > 32 then (some 2) else (skywayref4_LabelError.l0 k l0 (l0.length : Int) 0)) = some r := h
  clear h
  by_cases c2 : (l0.length : Int) > 32
  · rw [if_pos c2] at H
    have c2b0 : decide (32 < (l0.length : Int)) = true := decide_eq_true c2
    have c2b1 : decide (32 < l0.length) = true := decide_eq_true (by omega)
    clear c2
    obtain rfl := Option.some.inj H
    go_enter Try.func35, Try.ntmps35
    go_wp2
    go_ret
    exact ⟨by first | rfl | (simp [errW_none, errW_some] <;> rfl) | (simp [*, errW_none, errW_some] <;> rfl), by repeat (first | (with_reducible first | exact HB.out | apply below_alloc | apply pw_below_drewN | apply below_drew1) | exact HB.out)⟩
  · rw [if_neg c2] at H
    have c2b0 : decide (32 < (l0.length : Int)) = false := decide_eq_false c2
    have c2b1 : decide (32 < l0.length) = false := decide_eq_false (by omega)
    clear c2
    have H' := Aside0.mk H
    clear H
    go_enter Try.func35, Try.ntmps35
    go_wp2
    go_loopg [10] k (fun kq v10 w' => ∃ (x10_1 : Int), v10 = .int .i64 x10_1 ∧ Aside0 (skywayref4_LabelError.l0 kq l0 (l0.length : Int) x10_1 = some r) ∧ Aside0 (kq ≤ k) ∧ Aside0 (Below w.heap.size w w'))
    case atStart => exact ⟨(0), (by first | rfl | (simp; done) | (simp [*]; done)), H', ⟨Nat.le_refl _⟩, ⟨by repeat (first | (with_reducible first | exact HB.out | apply below_alloc | apply pw_below_drewN | apply below_drew1) | exact HB.out)⟩⟩
    case round =>
      clear H'
      try clear c2
      try clear c2b0
      try clear c2b1
      try clear p2
      obtain ⟨x10_1, rfl, HA, HK1, HB⟩ := hrel
      cases gk with
      | zero => exact absurd HA.out (by simp [skywayref4_LabelError.l0])
      | succ k1 =>
        have H := HA.out
        clear HA
        simp only [skywayref4_LabelError.l0] at H
        by_cases c3 : x10_1 < (l0.length : Int)
        · rw [if_pos c3] at H
          have c3b0 : decide (x10_1 < (l0.length : Int)) = true := decide_eq_true c3
          clear c3
          by_cases c4 : 0 ≤ x10_1
          · rw [if_pos c4] at H
            have c4b0 : decide (0 ≤ x10_1) = true := decide_eq_true c4
            clear c4
            by_cases c5 : x10_1 < (l0.length : Int)
            · rw [if_pos c5] at H
              have c5b0 : decide (x10_1 < (l0.length : Int)) = true := decide_eq_true c5
              clear c5
              replace H := Option.bind_eq_some_iff.mp H
              obtain ⟨t118, A60, H⟩ := H
              replace H : (if t118 = true then ((skywayref4_In.f ((rd_T58 l0 x10_1).f1) (-1000) 1000).bind fun t119 => (if t119 = true then ((skywayref4_In.f ((rd_T58 l0 x10_1).f2) 1 40).bind fun t120 => (if t120 = true then ((skywayref4_In.f ((rd_T58 l0 x10_1).f3) 1 40).bind fun t121 => (if t121 = true then (skywayref4_LabelError.l0 k1 l0 (l0.length : Int) (wrap64 (x10_1 + 1))) else (some 4))) else (some 4))) else (some 4))) else (some 4)) = some r := H
              have A6 := Aside0.mk A60
              clear A60
              by_cases c7 : t118 = true
              · subst c7
                have H1 : ((skywayref4_In.f ((rd_T58 l0 x10_1).f1) (-1000) 1000).bind fun t119 => (if t119 = true then ((skywayref4_In.f ((rd_T58 l0 x10_1).f2) 1 40).bind fun t120 => (if t120 = true then ((skywayref4_In.f ((rd_T58 l0 x10_1).f3) 1 40).bind fun t121 => (if t121 = true then (skywayref4_LabelError.l0 k1 l0 (l0.length : Int) (wrap64 (x10_1 + 1))) else (some 4))) else (some 4))) else (some 4))) = some r := by rw [if_pos rfl] at H; exact H
                clear H
                have H := H1
                clear H1
                replace H := Option.bind_eq_some_iff.mp H
                obtain ⟨t119, A80, H⟩ := H
                replace H : (if t119 = true then ((skywayref4_In.f ((rd_T58 l0 x10_1).f2) 1 40).bind fun t120 => (if t120 = true then ((skywayref4_In.f ((rd_T58 l0 x10_1).f3) 1 40).bind fun t121 => (if t121 = true then (skywayref4_LabelError.l0 k1 l0 (l0.length : Int) (wrap64 (x10_1 + 1))) else (some 4))) else (some 4))) else (some 4)) = some r := H
                have A8 := Aside0.mk A80
                clear A80
                by_cases c9 : t119 = true
                · subst c9
                  have H1 : ((skywayref4_In.f ((rd_T58 l0 x10_1).f2) 1 40).bind fun t120 => (if t120 = true then ((skywayref4_In.f ((rd_T58 l0 x10_1).f3) 1 40).bind fun t121 => (if t121 = true then (skywayref4_LabelError.l0 k1 l0 (l0.length : Int) (wrap64 (x10_1 + 1))) else (some 4))) else (some 4))) = some r := by rw [if_pos rfl] at H; exact H
                  clear H
                  have H := H1
                  clear H1
                  replace H := Option.bind_eq_some_iff.mp H
                  obtain ⟨t120, A100, H⟩ := H
                  replace H : (if t120 = true then ((skywayref4_In.f ((rd_T58 l0 x10_1).f3) 1 40).bind fun t121 => (if t121 = true then (skywayref4_LabelError.l0 k1 l0 (l0.length : Int) (wrap64 (x10_1 + 1))) else (some 4))) else (some 4)) = some r := H
                  have A10 := Aside0.mk A100
                  clear A100
                  by_cases c11 : t120 = true
                  · subst c11
                    have H1 : ((skywayref4_In.f ((rd_T58 l0 x10_1).f3) 1 40).bind fun t121 => (if t121 = true then (skywayref4_LabelError.l0 k1 l0 (l0.length : Int) (wrap64 (x10_1 + 1))) else (some 4))) = some r := by rw [if_pos rfl] at H; exact H
                    clear H
                    have H := H1
                    clear H1
                    replace H := Option.bind_eq_some_iff.mp H
                    obtain ⟨t121, A120, H⟩ := H
                    replace H : (if t121 = true then (skywayref4_LabelError.l0 k1 l0 (l0.length : Int) (wrap64 (x10_1 + 1))) else (some 4)) = some r := H
                    have A12 := Aside0.mk A120
                    clear A120
                    by_cases c13 : t121 = true
                    · subst c13
                      have H1 : (skywayref4_LabelError.l0 k1 l0 (l0.length : Int) (wrap64 (x10_1 + 1))) = some r := by rw [if_pos rfl] at H; exact H
                      clear H
                      have H := H1
                      clear H1
                      have H' := Aside0.mk H
                      clear H
                      have p116 : 0 ≤ (x10_1 : Int) := of_decide_eq_true (by first | (with_reducible assumption) | assumption)
                      have q116 : x10_1 < (l0.length : Int) := of_decide_eq_true (by first | (with_reducible assumption) | assumption)
                      obtain ⟨ad116, e116, hx116_0, hx116_1, hx116_2, hx116_3⟩ := at_T58 HR0.out x10_1 p116 q116
                      cases e116
                      replace hx116_0 := (HB.out.cell (World.block_lt_of_cell? w _ hx116_0)).trans hx116_0
                      replace hx116_1 := (HB.out.cell (World.block_lt_of_cell? w _ hx116_1)).trans hx116_1
                      replace hx116_2 := (HB.out.cell (World.block_lt_of_cell? w _ hx116_2)).trans hx116_2
                      replace hx116_3 := (HB.out.cell (World.block_lt_of_cell? w _ hx116_3)).trans hx116_3
                      replace p116 := eq_true p116
                      replace q116 := eq_true q116
                      go_wp2_with (first | ((with_reducible refine gate_dst (N := 4) rfl ?_); refine box_event ?hg (N := 4) ?hd (cs := #[.int .i64 0, .int .i64 0, .int .i64 0, .int .i64 0]) (t := 58) ?hr ?_; (case hd => rfl); (case hg => rfl); (case hr => first | (go_simp; done) | (go_simp; rfl)); intro gb117 hg w14 hbox hb; have n0_ := Aside0.mk (below_step (by repeat (first | (with_reducible first | exact HB.out | apply below_alloc | apply pw_below_drewN | apply below_drew1) | exact HB.out)) hb); have n1_ := Aside0.mk (hbox); have n2_ := Aside0.mk ((by rw [hg]; exact (below_size (by repeat (first | (with_reducible first | exact HB.out | apply below_alloc | apply pw_below_drewN | apply below_drew1) | exact HB.out))) : w.heap.size ≤ gb117)); have n3_ := Aside0.mk ((by rw [hg]; exact (below_size (by repeat (first | (with_reducible first | exact HB.out | apply below_alloc | apply pw_below_drewN | apply below_drew1) | exact HB.out))) : w.heap.size ≤ gb117)); clear HB; have HB := n0_; have BK117 := n1_; have GW117 := n2_; have GE117 := n3_; clear n0_ n1_ n2_ n3_; clear hb hbox hg; have hcz15_0 : w14.cell? ⟨gb117, 0, none⟩ = some (.int .i64 0) := (blk_cell BK117.out 0).trans rfl; have hcz15_1 : w14.cell? ⟨gb117, 1, none⟩ = some (.int .i64 0) := (blk_cell BK117.out 1).trans rfl; have hcz15_2 : w14.cell? ⟨gb117, 2, none⟩ = some (.int .i64 0) := (blk_cell BK117.out 2).trans rfl; have hcz15_3 : w14.cell? ⟨gb117, 3, none⟩ = some (.int .i64 0) := (blk_cell BK117.out 3).trans rfl; have hfz15_0 := blk_frozen BK117.out 0; have hfz15_1 := blk_frozen BK117.out 1; have hfz15_2 := blk_frozen BK117.out 2; have hfz15_3 := blk_frozen BK117.out 3) | ((with_reducible refine gate_callee (f := 24) rfl ?_); refine goesL_ (some 16) rfl rfl Try.func24 (by kernel_rfl) rfl #[.int .i64 ((rd_T58 l0 x10_1).f0), .int .i64 (-1000), .int .i64 1000] rfl (by (try simp only [List.map_toArray, List.map_cons, List.map_nil]); first | done | rfl | (simp only [List.length_drop, List.length_take]; rfl)) ?_; (with_reducible refine (skywayref4_In.calls ((rd_T58 l0 x10_1).f0) (-1000) 1000 true _ A6.out).mono ?_); rintro e w' ⟨rfl, ⟨nd, rfl⟩⟩; refine ⟨_, rfl, ?_⟩) | (go_at_call 24; (with_reducible refine (skywayref4_In.calls ((rd_T58 l0 x10_1).f1) (-1000) 1000 true _ A8.out).mono ?_); rintro e w' ⟨rfl, ⟨nd, rfl⟩⟩) | (go_at_call 24; (with_reducible refine (skywayref4_In.calls ((rd_T58 l0 x10_1).f2) 1 40 true _ A10.out).mono ?_); rintro e w' ⟨rfl, ⟨nd, rfl⟩⟩) | (go_at_call 24; (with_reducible refine (skywayref4_In.calls ((rd_T58 l0 x10_1).f3) 1 40 true _ A12.out).mono ?_); rintro e w' ⟨rfl, ⟨nd, rfl⟩⟩))
                      go_roundg k1
                      case measure => have := HK1.out; omega
                      case rel => exact ⟨(wrap64 (x10_1 + 1)), (by first | rfl | (simp; done) | (simp [*]; done)), H', ⟨by have := HK1.out; omega⟩, ⟨by repeat (first | (with_reducible first | exact HB.out | apply below_alloc | apply pw_below_drewN | apply below_drew1 | refine below_set ?_ GE117.out) | exact HB.out)⟩⟩
                    · replace c13 := Bool.eq_false_iff.mpr c13
                      subst c13
                      have H1 : (some 4) = some r := by rw [if_neg (show ¬ (false = true) by decide)] at H; exact H
                      clear H
                      have H := H1
                      clear H1
                      obtain rfl := Option.some.inj H
                      have p116 : 0 ≤ (x10_1 : Int) := of_decide_eq_true (by first | (with_reducible assumption) | assumption)
                      have q116 : x10_1 < (l0.length : Int) := of_decide_eq_true (by first | (with_reducible assumption) | assumption)
                      obtain ⟨ad116, e116, hx116_0, hx116_1, hx116_2, hx116_3⟩ := at_T58 HR0.out x10_1 p116 q116
                      cases e116
                      replace hx116_0 := (HB.out.cell (World.block_lt_of_cell? w _ hx116_0)).trans hx116_0
                      replace hx116_1 := (HB.out.cell (World.block_lt_of_cell? w _ hx116_1)).trans hx116_1
                      replace hx116_2 := (HB.out.cell (World.block_lt_of_cell? w _ hx116_2)).trans hx116_2
                      replace hx116_3 := (HB.out.cell (World.block_lt_of_cell? w _ hx116_3)).trans hx116_3
                      replace p116 := eq_true p116
                      replace q116 := eq_true q116
                      go_wp2_with (first | ((with_reducible refine gate_dst (N := 4) rfl ?_); refine box_event ?hg (N := 4) ?hd (cs := #[.int .i64 0, .int .i64 0, .int .i64 0, .int .i64 0]) (t := 58) ?hr ?_; (case hd => rfl); (case hg => rfl); (case hr => first | (go_simp; done) | (go_simp; rfl)); intro gb117 hg w16 hbox hb; have n0_ := Aside0.mk (below_step (by repeat (first | (with_reducible first | exact HB.out | apply below_alloc | apply pw_below_drewN | apply below_drew1) | exact HB.out)) hb); have n1_ := Aside0.mk (hbox); have n2_ := Aside0.mk ((by rw [hg]; exact (below_size (by repeat (first | (with_reducible first | exact HB.out | apply below_alloc | apply pw_below_drewN | apply below_drew1) | exact HB.out))) : w.heap.size ≤ gb117)); have n3_ := Aside0.mk ((by rw [hg]; exact (below_size (by repeat (first | (with_reducible first | exact HB.out | apply below_alloc | apply pw_below_drewN | apply below_drew1) | exact HB.out))) : w.heap.size ≤ gb117)); clear HB; have HB := n0_; have BK117 := n1_; have GW117 := n2_; have GE117 := n3_; clear n0_ n1_ n2_ n3_; clear hb hbox hg; have hcz17_0 : w16.cell? ⟨gb117, 0, none⟩ = some (.int .i64 0) := (blk_cell BK117.out 0).trans rfl; have hcz17_1 : w16.cell? ⟨gb117, 1, none⟩ = some (.int .i64 0) := (blk_cell BK117.out 1).trans rfl; have hcz17_2 : w16.cell? ⟨gb117, 2, none⟩ = some (.int .i64 0) := (blk_cell BK117.out 2).trans rfl; have hcz17_3 : w16.cell? ⟨gb117, 3, none⟩ = some (.int .i64 0) := (blk_cell BK117.out 3).trans rfl; have hfz17_0 := blk_frozen BK117.out 0; have hfz17_1 := blk_frozen BK117.out 1; have hfz17_2 := blk_frozen BK117.out 2; have hfz17_3 := blk_frozen BK117.out 3) | ((with_reducible refine gate_callee (f := 24) rfl ?_); refine goesL_ (some 16) rfl rfl Try.func24 (by kernel_rfl) rfl #[.int .i64 ((rd_T58 l0 x10_1).f0), .int .i64 (-1000), .int .i64 1000] rfl (by (try simp only [List.map_toArray, List.map_cons, List.map_nil]); first | done | rfl | (simp only [List.length_drop, List.length_take]; rfl)) ?_; (with_reducible refine (skywayref4_In.calls ((rd_T58 l0 x10_1).f0) (-1000) 1000 true _ A6.out).mono ?_); rintro e w' ⟨rfl, ⟨nd, rfl⟩⟩; refine ⟨_, rfl, ?_⟩) | (go_at_call 24; (with_reducible refine (skywayref4_In.calls ((rd_T58 l0 x10_1).f1) (-1000) 1000 true _ A8.out).mono ?_); rintro e w' ⟨rfl, ⟨nd, rfl⟩⟩) | (go_at_call 24; (with_reducible refine (skywayref4_In.calls ((rd_T58 l0 x10_1).f2) 1 40 true _ A10.out).mono ?_); rintro e w' ⟨rfl, ⟨nd, rfl⟩⟩) | (go_at_call 24; (with_reducible refine (skywayref4_In.calls ((rd_T58 l0 x10_1).f3) 1 40 false _ A12.out).mono ?_); rintro e w' ⟨rfl, ⟨nd, rfl⟩⟩))
                      go_ret
                      exact ⟨by first | rfl | (simp [errW_none, errW_some] <;> rfl) | (simp [*, errW_none, errW_some] <;> rfl), by repeat (first | (with_reducible first | exact HB.out | apply below_alloc | apply pw_below_drewN | apply below_drew1 | refine below_set ?_ GE117.out) | exact HB.out)⟩
                  · replace c11 := Bool.eq_false_iff.mpr c11
                    subst c11
                    have H1 : (some 4) = some r := by rw [if_neg (show ¬ (false = true) by decide)] at H; exact H
                    clear H
                    have H := H1
                    clear H1
                    obtain rfl := Option.some.inj H
                    have p116 : 0 ≤ (x10_1 : Int) := of_decide_eq_true (by first | (with_reducible assumption) | assumption)
                    have q116 : x10_1 < (l0.length : Int) := of_decide_eq_true (by first | (with_reducible assumption) | assumption)
                    obtain ⟨ad116, e116, hx116_0, hx116_1, hx116_2, hx116_3⟩ := at_T58 HR0.out x10_1 p116 q116
                    cases e116
                    replace hx116_0 := (HB.out.cell (World.block_lt_of_cell? w _ hx116_0)).trans hx116_0
                    replace hx116_1 := (HB.out.cell (World.block_lt_of_cell? w _ hx116_1)).trans hx116_1
                    replace hx116_2 := (HB.out.cell (World.block_lt_of_cell? w _ hx116_2)).trans hx116_2
                    replace hx116_3 := (HB.out.cell (World.block_lt_of_cell? w _ hx116_3)).trans hx116_3
                    replace p116 := eq_true p116
                    replace q116 := eq_true q116
                    go_wp2_with (first | ((with_reducible refine gate_dst (N := 4) rfl ?_); refine box_event ?hg (N := 4) ?hd (cs := #[.int .i64 0, .int .i64 0, .int .i64 0, .int .i64 0]) (t := 58) ?hr ?_; (case hd => rfl); (case hg => rfl); (case hr => first | (go_simp; done) | (go_simp; rfl)); intro gb117 hg w18 hbox hb; have n0_ := Aside0.mk (below_step (by repeat (first | (with_reducible first | exact HB.out | apply below_alloc | apply pw_below_drewN | apply below_drew1) | exact HB.out)) hb); have n1_ := Aside0.mk (hbox); have n2_ := Aside0.mk ((by rw [hg]; exact (below_size (by repeat (first | (with_reducible first | exact HB.out | apply below_alloc | apply pw_below_drewN | apply below_drew1) | exact HB.out))) : w.heap.size ≤ gb117)); have n3_ := Aside0.mk ((by rw [hg]; exact (below_size (by repeat (first | (with_reducible first | exact HB.out | apply below_alloc | apply pw_below_drewN | apply below_drew1) | exact HB.out))) : w.heap.size ≤ gb117)); clear HB; have HB := n0_; have BK117 := n1_; have GW117 := n2_; have GE117 := n3_; clear n0_ n1_ n2_ n3_; clear hb hbox hg; have hcz19_0 : w18.cell? ⟨gb117, 0, none⟩ = some (.int .i64 0) := (blk_cell BK117.out 0).trans rfl; have hcz19_1 : w18.cell? ⟨gb117, 1, none⟩ = some (.int .i64 0) := (blk_cell BK117.out 1).trans rfl; have hcz19_2 : w18.cell? ⟨gb117, 2, none⟩ = some (.int .i64 0) := (blk_cell BK117.out 2).trans rfl; have hcz19_3 : w18.cell? ⟨gb117, 3, none⟩ = some (.int .i64 0) := (blk_cell BK117.out 3).trans rfl; have hfz19_0 := blk_frozen BK117.out 0; have hfz19_1 := blk_frozen BK117.out 1; have hfz19_2 := blk_frozen BK117.out 2; have hfz19_3 := blk_frozen BK117.out 3) | ((with_reducible refine gate_callee (f := 24) rfl ?_); refine goesL_ (some 16) rfl rfl Try.func24 (by kernel_rfl) rfl #[.int .i64 ((rd_T58 l0 x10_1).f0), .int .i64 (-1000), .int .i64 1000] rfl (by (try simp only [List.map_toArray, List.map_cons, List.map_nil]); first | done | rfl | (simp only [List.length_drop, List.length_take]; rfl)) ?_; (with_reducible refine (skywayref4_In.calls ((rd_T58 l0 x10_1).f0) (-1000) 1000 true _ A6.out).mono ?_); rintro e w' ⟨rfl, ⟨nd, rfl⟩⟩; refine ⟨_, rfl, ?_⟩) | (go_at_call 24; (with_reducible refine (skywayref4_In.calls ((rd_T58 l0 x10_1).f1) (-1000) 1000 true _ A8.out).mono ?_); rintro e w' ⟨rfl, ⟨nd, rfl⟩⟩) | (go_at_call 24; (with_reducible refine (skywayref4_In.calls ((rd_T58 l0 x10_1).f2) 1 40 false _ A10.out).mono ?_); rintro e w' ⟨rfl, ⟨nd, rfl⟩⟩))
                    go_ret
                    exact ⟨by first | rfl | (simp [errW_none, errW_some] <;> rfl) | (simp [*, errW_none, errW_some] <;> rfl), by repeat (first | (with_reducible first | exact HB.out | apply below_alloc | apply pw_below_drewN | apply below_drew1 | refine below_set ?_ GE117.out) | exact HB.out)⟩
                · replace c9 := Bool.eq_false_iff.mpr c9
                  subst c9
                  have H1 : (some 4) = some r := by rw [if_neg (show ¬ (false = true) by decide)] at H; exact H
                  clear H
                  have H := H1
                  clear H1
                  obtain rfl := Option.some.inj H
                  have p116 : 0 ≤ (x10_1 : Int) := of_decide_eq_true (by first | (with_reducible assumption) | assumption)
                  have q116 : x10_1 < (l0.length : Int) := of_decide_eq_true (by first | (with_reducible assumption) | assumption)
                  obtain ⟨ad116, e116, hx116_0, hx116_1, hx116_2, hx116_3⟩ := at_T58 HR0.out x10_1 p116 q116
                  cases e116
                  replace hx116_0 := (HB.out.cell (World.block_lt_of_cell? w _ hx116_0)).trans hx116_0
                  replace hx116_1 := (HB.out.cell (World.block_lt_of_cell? w _ hx116_1)).trans hx116_1
                  replace hx116_2 := (HB.out.cell (World.block_lt_of_cell? w _ hx116_2)).trans hx116_2
                  replace hx116_3 := (HB.out.cell (World.block_lt_of_cell? w _ hx116_3)).trans hx116_3
                  replace p116 := eq_true p116
                  replace q116 := eq_true q116
                  go_wp2_with (first | ((with_reducible refine gate_dst (N := 4) rfl ?_); refine box_event ?hg (N := 4) ?hd (cs := #[.int .i64 0, .int .i64 0, .int .i64 0, .int .i64 0]) (t := 58) ?hr ?_; (case hd => rfl); (case hg => rfl); (case hr => first | (go_simp; done) | (go_simp; rfl)); intro gb117 hg w20 hbox hb; have n0_ := Aside0.mk (below_step (by repeat (first | (with_reducible first | exact HB.out | apply below_alloc | apply pw_below_drewN | apply below_drew1) | exact HB.out)) hb); have n1_ := Aside0.mk (hbox); have n2_ := Aside0.mk ((by rw [hg]; exact (below_size (by repeat (first | (with_reducible first | exact HB.out | apply below_alloc | apply pw_below_drewN | apply below_drew1) | exact HB.out))) : w.heap.size ≤ gb117)); have n3_ := Aside0.mk ((by rw [hg]; exact (below_size (by repeat (first | (with_reducible first | exact HB.out | apply below_alloc | apply pw_below_drewN | apply below_drew1) | exact HB.out))) : w.heap.size ≤ gb117)); clear HB; have HB := n0_; have BK117 := n1_; have GW117 := n2_; have GE117 := n3_; clear n0_ n1_ n2_ n3_; clear hb hbox hg; have hcz21_0 : w20.cell? ⟨gb117, 0, none⟩ = some (.int .i64 0) := (blk_cell BK117.out 0).trans rfl; have hcz21_1 : w20.cell? ⟨gb117, 1, none⟩ = some (.int .i64 0) := (blk_cell BK117.out 1).trans rfl; have hcz21_2 : w20.cell? ⟨gb117, 2, none⟩ = some (.int .i64 0) := (blk_cell BK117.out 2).trans rfl; have hcz21_3 : w20.cell? ⟨gb117, 3, none⟩ = some (.int .i64 0) := (blk_cell BK117.out 3).trans rfl; have hfz21_0 := blk_frozen BK117.out 0; have hfz21_1 := blk_frozen BK117.out 1; have hfz21_2 := blk_frozen BK117.out 2; have hfz21_3 := blk_frozen BK117.out 3) | ((with_reducible refine gate_callee (f := 24) rfl ?_); refine goesL_ (some 16) rfl rfl Try.func24 (by kernel_rfl) rfl #[.int .i64 ((rd_T58 l0 x10_1).f0), .int .i64 (-1000), .int .i64 1000] rfl (by (try simp only [List.map_toArray, List.map_cons, List.map_nil]); first | done | rfl | (simp only [List.length_drop, List.length_take]; rfl)) ?_; (with_reducible refine (skywayref4_In.calls ((rd_T58 l0 x10_1).f0) (-1000) 1000 true _ A6.out).mono ?_); rintro e w' ⟨rfl, ⟨nd, rfl⟩⟩; refine ⟨_, rfl, ?_⟩) | (go_at_call 24; (with_reducible refine (skywayref4_In.calls ((rd_T58 l0 x10_1).f1) (-1000) 1000 false _ A8.out).mono ?_); rintro e w' ⟨rfl, ⟨nd, rfl⟩⟩))
                  go_ret
                  exact ⟨by first | rfl | (simp [errW_none, errW_some] <;> rfl) | (simp [*, errW_none, errW_some] <;> rfl), by repeat (first | (with_reducible first | exact HB.out | apply below_alloc | apply pw_below_drewN | apply below_drew1 | refine below_set ?_ GE117.out) | exact HB.out)⟩
              · replace c7 := Bool.eq_false_iff.mpr c7
                subst c7
                have H1 : (some 4) = some r := by rw [if_neg (show ¬ (false = true) by decide)] at H; exact H
                clear H
                have H := H1
                clear H1
                obtain rfl := Option.some.inj H
                have p116 : 0 ≤ (x10_1 : Int) := of_decide_eq_true (by first | (with_reducible assumption) | assumption)
                have q116 : x10_1 < (l0.length : Int) := of_decide_eq_true (by first | (with_reducible assumption) | assumption)
                obtain ⟨ad116, e116, hx116_0, hx116_1, hx116_2, hx116_3⟩ := at_T58 HR0.out x10_1 p116 q116
                cases e116
                replace hx116_0 := (HB.out.cell (World.block_lt_of_cell? w _ hx116_0)).trans hx116_0
                replace hx116_1 := (HB.out.cell (World.block_lt_of_cell? w _ hx116_1)).trans hx116_1
                replace hx116_2 := (HB.out.cell (World.block_lt_of_cell? w _ hx116_2)).trans hx116_2
                replace hx116_3 := (HB.out.cell (World.block_lt_of_cell? w _ hx116_3)).trans hx116_3
                replace p116 := eq_true p116
                replace q116 := eq_true q116
                go_wp2_with (first | ((with_reducible refine gate_dst (N := 4) rfl ?_); refine box_event ?hg (N := 4) ?hd (cs := #[.int .i64 0, .int .i64 0, .int .i64 0, .int .i64 0]) (t := 58) ?hr ?_; (case hd => rfl); (case hg => rfl); (case hr => first | (go_simp; done) | (go_simp; rfl)); intro gb117 hg w22 hbox hb; have n0_ := Aside0.mk (below_step (by repeat (first | (with_reducible first | exact HB.out | apply below_alloc | apply pw_below_drewN | apply below_drew1) | exact HB.out)) hb); have n1_ := Aside0.mk (hbox); have n2_ := Aside0.mk ((by rw [hg]; exact (below_size (by repeat (first | (with_reducible first | exact HB.out | apply below_alloc | apply pw_below_drewN | apply below_drew1) | exact HB.out))) : w.heap.size ≤ gb117)); have n3_ := Aside0.mk ((by rw [hg]; exact (below_size (by repeat (first | (with_reducible first | exact HB.out | apply below_alloc | apply pw_below_drewN | apply below_drew1) | exact HB.out))) : w.heap.size ≤ gb117)); clear HB; have HB := n0_; have BK117 := n1_; have GW117 := n2_; have GE117 := n3_; clear n0_ n1_ n2_ n3_; clear hb hbox hg; have hcz23_0 : w22.cell? ⟨gb117, 0, none⟩ = some (.int .i64 0) := (blk_cell BK117.out 0).trans rfl; have hcz23_1 : w22.cell? ⟨gb117, 1, none⟩ = some (.int .i64 0) := (blk_cell BK117.out 1).trans rfl; have hcz23_2 : w22.cell? ⟨gb117, 2, none⟩ = some (.int .i64 0) := (blk_cell BK117.out 2).trans rfl; have hcz23_3 : w22.cell? ⟨gb117, 3, none⟩ = some (.int .i64 0) := (blk_cell BK117.out 3).trans rfl; have hfz23_0 := blk_frozen BK117.out 0; have hfz23_1 := blk_frozen BK117.out 1; have hfz23_2 := blk_frozen BK117.out 2; have hfz23_3 := blk_frozen BK117.out 3) | ((with_reducible refine gate_callee (f := 24) rfl ?_); refine goesL_ (some 16) rfl rfl Try.func24 (by kernel_rfl) rfl #[.int .i64 ((rd_T58 l0 x10_1).f0), .int .i64 (-1000), .int .i64 1000] rfl (by (try simp only [List.map_toArray, List.map_cons, List.map_nil]); first | done | rfl | (simp only [List.length_drop, List.length_take]; rfl)) ?_; (with_reducible refine (skywayref4_In.calls ((rd_T58 l0 x10_1).f0) (-1000) 1000 false _ A6.out).mono ?_); rintro e w' ⟨rfl, ⟨nd, rfl⟩⟩; refine ⟨_, rfl, ?_⟩))
                go_ret
                exact ⟨by first | rfl | (simp [errW_none, errW_some] <;> rfl) | (simp [*, errW_none, errW_some] <;> rfl), by repeat (first | (with_reducible first | exact HB.out | apply below_alloc | apply pw_below_drewN | apply below_drew1 | refine below_set ?_ GE117.out) | exact HB.out)⟩
            · rw [if_neg c5] at H
              exact absurd H (by simp)
          · rw [if_neg c4] at H
            exact absurd H (by simp)
        · rw [if_neg c3] at H
          have c3b0 : decide (x10_1 < (l0.length : Int)) = false := decide_eq_false c3
          clear c3
          obtain rfl := Option.some.inj H
          go_wp2
          go_ret
          exact ⟨by first | rfl | (simp [errW_none, errW_some] <;> rfl) | (simp [*, errW_none, errW_some] <;> rfl), by repeat (first | (with_reducible first | exact HB.out | apply below_alloc | apply pw_below_drewN | apply below_drew1) | exact HB.out)⟩

/-! ### skywayref4_LabelBox: function 37 -/
def skywayref4_LabelBox.f (a0_0 : Int) (a0_1 : Int) (a0_2 : Int) (a0_3 : Int) (a1 : Int) : Option (Int × Int × Int × Int) := (if a1 = 0 then some ((wrap64 (a0_0 + 1)), (wrap64 (a0_1 + 1)), a0_2, a0_3) else (if a1 = 1 then some ((wrap64 (a0_0 - a0_2)), (wrap64 (a0_1 + 1)), a0_2, a0_3) else (if a1 = 2 then some ((wrap64 (a0_0 - a0_2)), (wrap64 (a0_1 - a0_3)), a0_2, a0_3) else (if a1 = 3 then some ((wrap64 (a0_0 + 1)), (wrap64 (a0_1 - a0_3)), a0_2, a0_3) else (if a1 = 4 then some ((wrap64 (a0_0 + 1)), (wrap64 (a0_1 - wrap64 (Int.tdiv a0_3 2))), a0_2, a0_3) else (if a1 = 5 then some ((wrap64 (a0_0 - a0_2)), (wrap64 (a0_1 - wrap64 (Int.tdiv a0_3 2))), a0_2, a0_3) else (if a1 = 6 then some ((wrap64 (a0_0 - wrap64 (Int.tdiv a0_2 2))), (wrap64 (a0_1 + 1)), a0_2, a0_3) else (if a1 = 7 then some ((wrap64 (a0_0 - wrap64 (Int.tdiv a0_2 2))), (wrap64 (a0_1 - a0_3)), a0_2, a0_3) else none))))))))
set_option maxHeartbeats 8000000 in
set_option maxRecDepth 100000 in
theorem skywayref4_LabelBox.at0 (a0_0 a0_1 a0_2 a0_3 : Int) (w : World) :
    Calls Try.prog 37 #[.agg #[.int .i64 a0_0, .int .i64 a0_1, .int .i64 a0_2, .int .i64 a0_3], .int .i64 0] w fun e w' => e = .returned (.agg #[.int .i64 (wrap64 (a0_0 + 1)), .int .i64 (wrap64 (a0_1 + 1)), .int .i64 a0_2, .int .i64 a0_3]) ∧ Below w.heap.size w w' := by
  have hu := Try.underlying58
  have ix : ∀ (x0 x1 x2 x3 x4 x5 x6 x7 x8 x9 x10 x11 x12 x13 x14 x15 : Value) (w : World), (Instr.index 126 (.agg #[x0, x1, x2, x3, x4, x5, x6, x7, x8, x9, x10, x11, x12, x13, x14, x15]) (.int .i64 0)).run Try.prog w = .ok (.agg #[x0, x1]) w :=
    fun _ _ _ _ _ _ _ _ _ _ _ _ _ _ _ _ _ => by kernel_rfl
  go_enter Try.func37, Try.ntmps37
  go_wp2
  go_quiet (fail)
  go_wp2
  go_quiet (fail)
  go_wp2
  refine bodyPost_ret (v := .agg #[.int .i64 (wrap64 (a0_0 + 1)), .int .i64 (wrap64 (a0_1 + 1)), .int .i64 a0_2, .int .i64 a0_3]) (by simp [results, Try.results37, go_sem]) rfl ⟨rfl, ?_⟩
  repeat (first | exact Below.refl _ _ | apply below_alloc | apply pw_below_drewN | refine Below.setCell ?_ (by simp) _)
set_option maxHeartbeats 8000000 in
set_option maxRecDepth 100000 in
theorem skywayref4_LabelBox.at1 (a0_0 a0_1 a0_2 a0_3 : Int) (w : World) :
    Calls Try.prog 37 #[.agg #[.int .i64 a0_0, .int .i64 a0_1, .int .i64 a0_2, .int .i64 a0_3], .int .i64 1] w fun e w' => e = .returned (.agg #[.int .i64 (wrap64 (a0_0 - a0_2)), .int .i64 (wrap64 (a0_1 + 1)), .int .i64 a0_2, .int .i64 a0_3]) ∧ Below w.heap.size w w' := by
  have hu := Try.underlying58
  have ix : ∀ (x0 x1 x2 x3 x4 x5 x6 x7 x8 x9 x10 x11 x12 x13 x14 x15 : Value) (w : World), (Instr.index 126 (.agg #[x0, x1, x2, x3, x4, x5, x6, x7, x8, x9, x10, x11, x12, x13, x14, x15]) (.int .i64 1)).run Try.prog w = .ok (.agg #[x2, x3]) w :=
    fun _ _ _ _ _ _ _ _ _ _ _ _ _ _ _ _ _ => by kernel_rfl
  go_enter Try.func37, Try.ntmps37
  go_wp2
  go_quiet (fail)
  go_wp2
  go_quiet (fail)
  go_wp2
  refine bodyPost_ret (v := .agg #[.int .i64 (wrap64 (a0_0 - a0_2)), .int .i64 (wrap64 (a0_1 + 1)), .int .i64 a0_2, .int .i64 a0_3]) (by simp [results, Try.results37, go_sem]) rfl ⟨rfl, ?_⟩
  repeat (first | exact Below.refl _ _ | apply below_alloc | apply pw_below_drewN | refine Below.setCell ?_ (by simp) _)
set_option maxHeartbeats 8000000 in
set_option maxRecDepth 100000 in
theorem skywayref4_LabelBox.at2 (a0_0 a0_1 a0_2 a0_3 : Int) (w : World) :
    Calls Try.prog 37 #[.agg #[.int .i64 a0_0, .int .i64 a0_1, .int .i64 a0_2, .int .i64 a0_3], .int .i64 2] w fun e w' => e = .returned (.agg #[.int .i64 (wrap64 (a0_0 - a0_2)), .int .i64 (wrap64 (a0_1 - a0_3)), .int .i64 a0_2, .int .i64 a0_3]) ∧ Below w.heap.size w w' := by
  have hu := Try.underlying58
  have ix : ∀ (x0 x1 x2 x3 x4 x5 x6 x7 x8 x9 x10 x11 x12 x13 x14 x15 : Value) (w : World), (Instr.index 126 (.agg #[x0, x1, x2, x3, x4, x5, x6, x7, x8, x9, x10, x11, x12, x13, x14, x15]) (.int .i64 2)).run Try.prog w = .ok (.agg #[x4, x5]) w :=
    fun _ _ _ _ _ _ _ _ _ _ _ _ _ _ _ _ _ => by kernel_rfl
  go_enter Try.func37, Try.ntmps37
  go_wp2
  go_quiet (fail)
  go_wp2
  go_quiet (fail)
  go_wp2
  refine bodyPost_ret (v := .agg #[.int .i64 (wrap64 (a0_0 - a0_2)), .int .i64 (wrap64 (a0_1 - a0_3)), .int .i64 a0_2, .int .i64 a0_3]) (by simp [results, Try.results37, go_sem]) rfl ⟨rfl, ?_⟩
  repeat (first | exact Below.refl _ _ | apply below_alloc | apply pw_below_drewN | refine Below.setCell ?_ (by simp) _)
set_option maxHeartbeats 8000000 in
set_option maxRecDepth 100000 in
theorem skywayref4_LabelBox.at3 (a0_0 a0_1 a0_2 a0_3 : Int) (w : World) :
    Calls Try.prog 37 #[.agg #[.int .i64 a0_0, .int .i64 a0_1, .int .i64 a0_2, .int .i64 a0_3], .int .i64 3] w fun e w' => e = .returned (.agg #[.int .i64 (wrap64 (a0_0 + 1)), .int .i64 (wrap64 (a0_1 - a0_3)), .int .i64 a0_2, .int .i64 a0_3]) ∧ Below w.heap.size w w' := by
  have hu := Try.underlying58
  have ix : ∀ (x0 x1 x2 x3 x4 x5 x6 x7 x8 x9 x10 x11 x12 x13 x14 x15 : Value) (w : World), (Instr.index 126 (.agg #[x0, x1, x2, x3, x4, x5, x6, x7, x8, x9, x10, x11, x12, x13, x14, x15]) (.int .i64 3)).run Try.prog w = .ok (.agg #[x6, x7]) w :=
    fun _ _ _ _ _ _ _ _ _ _ _ _ _ _ _ _ _ => by kernel_rfl
  go_enter Try.func37, Try.ntmps37
  go_wp2
  go_quiet (fail)
  go_wp2
  go_quiet (fail)
  go_wp2
  refine bodyPost_ret (v := .agg #[.int .i64 (wrap64 (a0_0 + 1)), .int .i64 (wrap64 (a0_1 - a0_3)), .int .i64 a0_2, .int .i64 a0_3]) (by simp [results, Try.results37, go_sem]) rfl ⟨rfl, ?_⟩
  repeat (first | exact Below.refl _ _ | apply below_alloc | apply pw_below_drewN | refine Below.setCell ?_ (by simp) _)
set_option maxHeartbeats 8000000 in
set_option maxRecDepth 100000 in
theorem skywayref4_LabelBox.at4 (a0_0 a0_1 a0_2 a0_3 : Int) (w : World) :
    Calls Try.prog 37 #[.agg #[.int .i64 a0_0, .int .i64 a0_1, .int .i64 a0_2, .int .i64 a0_3], .int .i64 4] w fun e w' => e = .returned (.agg #[.int .i64 (wrap64 (a0_0 + 1)), .int .i64 (wrap64 (a0_1 - wrap64 (Int.tdiv a0_3 2))), .int .i64 a0_2, .int .i64 a0_3]) ∧ Below w.heap.size w w' := by
  have hu := Try.underlying58
  have ix : ∀ (x0 x1 x2 x3 x4 x5 x6 x7 x8 x9 x10 x11 x12 x13 x14 x15 : Value) (w : World), (Instr.index 126 (.agg #[x0, x1, x2, x3, x4, x5, x6, x7, x8, x9, x10, x11, x12, x13, x14, x15]) (.int .i64 4)).run Try.prog w = .ok (.agg #[x8, x9]) w :=
    fun _ _ _ _ _ _ _ _ _ _ _ _ _ _ _ _ _ => by kernel_rfl
  go_enter Try.func37, Try.ntmps37
  go_wp2
  go_quiet (fail)
  go_wp2
  go_quiet (fail)
  go_wp2
  refine bodyPost_ret (v := .agg #[.int .i64 (wrap64 (a0_0 + 1)), .int .i64 (wrap64 (a0_1 - wrap64 (Int.tdiv a0_3 2))), .int .i64 a0_2, .int .i64 a0_3]) (by simp [results, Try.results37, go_sem]) rfl ⟨rfl, ?_⟩
  repeat (first | exact Below.refl _ _ | apply below_alloc | apply pw_below_drewN | refine Below.setCell ?_ (by simp) _)
set_option maxHeartbeats 8000000 in
set_option maxRecDepth 100000 in
theorem skywayref4_LabelBox.at5 (a0_0 a0_1 a0_2 a0_3 : Int) (w : World) :
    Calls Try.prog 37 #[.agg #[.int .i64 a0_0, .int .i64 a0_1, .int .i64 a0_2, .int .i64 a0_3], .int .i64 5] w fun e w' => e = .returned (.agg #[.int .i64 (wrap64 (a0_0 - a0_2)), .int .i64 (wrap64 (a0_1 - wrap64 (Int.tdiv a0_3 2))), .int .i64 a0_2, .int .i64 a0_3]) ∧ Below w.heap.size w w' := by
  have hu := Try.underlying58
  have ix : ∀ (x0 x1 x2 x3 x4 x5 x6 x7 x8 x9 x10 x11 x12 x13 x14 x15 : Value) (w : World), (Instr.index 126 (.agg #[x0, x1, x2, x3, x4, x5, x6, x7, x8, x9, x10, x11, x12, x13, x14, x15]) (.int .i64 5)).run Try.prog w = .ok (.agg #[x10, x11]) w :=
    fun _ _ _ _ _ _ _ _ _ _ _ _ _ _ _ _ _ => by kernel_rfl
  go_enter Try.func37, Try.ntmps37
  go_wp2
  go_quiet (fail)
  go_wp2
  go_quiet (fail)
  go_wp2
  refine bodyPost_ret (v := .agg #[.int .i64 (wrap64 (a0_0 - a0_2)), .int .i64 (wrap64 (a0_1 - wrap64 (Int.tdiv a0_3 2))), .int .i64 a0_2, .int .i64 a0_3]) (by simp [results, Try.results37, go_sem]) rfl ⟨rfl, ?_⟩
  repeat (first | exact Below.refl _ _ | apply below_alloc | apply pw_below_drewN | refine Below.setCell ?_ (by simp) _)
set_option maxHeartbeats 8000000 in
set_option maxRecDepth 100000 in
theorem skywayref4_LabelBox.at6 (a0_0 a0_1 a0_2 a0_3 : Int) (w : World) :
    Calls Try.prog 37 #[.agg #[.int .i64 a0_0, .int .i64 a0_1, .int .i64 a0_2, .int .i64 a0_3], .int .i64 6] w fun e w' => e = .returned (.agg #[.int .i64 (wrap64 (a0_0 - wrap64 (Int.tdiv a0_2 2))), .int .i64 (wrap64 (a0_1 + 1)), .int .i64 a0_2, .int .i64 a0_3]) ∧ Below w.heap.size w w' := by
  have hu := Try.underlying58
  have ix : ∀ (x0 x1 x2 x3 x4 x5 x6 x7 x8 x9 x10 x11 x12 x13 x14 x15 : Value) (w : World), (Instr.index 126 (.agg #[x0, x1, x2, x3, x4, x5, x6, x7, x8, x9, x10, x11, x12, x13, x14, x15]) (.int .i64 6)).run Try.prog w = .ok (.agg #[x12, x13]) w :=
    fun _ _ _ _ _ _ _ _ _ _ _ _ _ _ _ _ _ => by kernel_rfl
  go_enter Try.func37, Try.ntmps37
  go_wp2
  go_quiet (fail)
  go_wp2
  go_quiet (fail)
  go_wp2
  refine bodyPost_ret (v := .agg #[.int .i64 (wrap64 (a0_0 - wrap64 (Int.tdiv a0_2 2))), .int .i64 (wrap64 (a0_1 + 1)), .int .i64 a0_2, .int .i64 a0_3]) (by simp [results, Try.results37, go_sem]) rfl ⟨rfl, ?_⟩
  repeat (first | exact Below.refl _ _ | apply below_alloc | apply pw_below_drewN | refine Below.setCell ?_ (by simp) _)
set_option maxHeartbeats 8000000 in
set_option maxRecDepth 100000 in
theorem skywayref4_LabelBox.at7 (a0_0 a0_1 a0_2 a0_3 : Int) (w : World) :
    Calls Try.prog 37 #[.agg #[.int .i64 a0_0, .int .i64 a0_1, .int .i64 a0_2, .int .i64 a0_3], .int .i64 7] w fun e w' => e = .returned (.agg #[.int .i64 (wrap64 (a0_0 - wrap64 (Int.tdiv a0_2 2))), .int .i64 (wrap64 (a0_1 - a0_3)), .int .i64 a0_2, .int .i64 a0_3]) ∧ Below w.heap.size w w' := by
  have hu := Try.underlying58
  have ix : ∀ (x0 x1 x2 x3 x4 x5 x6 x7 x8 x9 x10 x11 x12 x13 x14 x15 : Value) (w : World), (Instr.index 126 (.agg #[x0, x1, x2, x3, x4, x5, x6, x7, x8, x9, x10, x11, x12, x13, x14, x15]) (.int .i64 7)).run Try.prog w = .ok (.agg #[x14, x15]) w :=
    fun _ _ _ _ _ _ _ _ _ _ _ _ _ _ _ _ _ => by kernel_rfl
  go_enter Try.func37, Try.ntmps37
  go_wp2
  go_quiet (fail)
  go_wp2
  go_quiet (fail)
  go_wp2
  refine bodyPost_ret (v := .agg #[.int .i64 (wrap64 (a0_0 - wrap64 (Int.tdiv a0_2 2))), .int .i64 (wrap64 (a0_1 - a0_3)), .int .i64 a0_2, .int .i64 a0_3]) (by simp [results, Try.results37, go_sem]) rfl ⟨rfl, ?_⟩
  repeat (first | exact Below.refl _ _ | apply below_alloc | apply pw_below_drewN | refine Below.setCell ?_ (by simp) _)
theorem skywayref4_LabelBox.calls (a0_0 : Int) (a0_1 : Int) (a0_2 : Int) (a0_3 : Int) (a1 : Int) (r1 : Int) (r2 : Int) (r3 : Int) (r4 : Int) (w : World) (h : skywayref4_LabelBox.f a0_0 a0_1 a0_2 a0_3 a1 = some (r1, r2, r3, r4)) :
    Calls Try.prog 37 #[.agg #[.int .i64 a0_0, .int .i64 a0_1, .int .i64 a0_2, .int .i64 a0_3], .int .i64 a1] w fun e w' => e = .returned (.agg #[.int .i64 r1, .int .i64 r2, .int .i64 r3, .int .i64 r4]) ∧ Below w.heap.size w w' := by
  unfold skywayref4_LabelBox.f at h
  by_cases c0 : a1 = 0
  · rw [if_pos c0] at h
    simp only [Option.some.injEq, Prod.mk.injEq] at h
    obtain ⟨rfl, rfl, rfl, rfl⟩ := h
    subst c0
    exact skywayref4_LabelBox.at0 a0_0 a0_1 a0_2 a0_3 w
  rw [if_neg c0] at h
  by_cases c1 : a1 = 1
  · rw [if_pos c1] at h
    simp only [Option.some.injEq, Prod.mk.injEq] at h
    obtain ⟨rfl, rfl, rfl, rfl⟩ := h
    subst c1
    exact skywayref4_LabelBox.at1 a0_0 a0_1 a0_2 a0_3 w
  rw [if_neg c1] at h
  by_cases c2 : a1 = 2
  · rw [if_pos c2] at h
    simp only [Option.some.injEq, Prod.mk.injEq] at h
    obtain ⟨rfl, rfl, rfl, rfl⟩ := h
    subst c2
    exact skywayref4_LabelBox.at2 a0_0 a0_1 a0_2 a0_3 w
  rw [if_neg c2] at h
  by_cases c3 : a1 = 3
  · rw [if_pos c3] at h
    simp only [Option.some.injEq, Prod.mk.injEq] at h
    obtain ⟨rfl, rfl, rfl, rfl⟩ := h
    subst c3
    exact skywayref4_LabelBox.at3 a0_0 a0_1 a0_2 a0_3 w
  rw [if_neg c3] at h
  by_cases c4 : a1 = 4
  · rw [if_pos c4] at h
    simp only [Option.some.injEq, Prod.mk.injEq] at h
    obtain ⟨rfl, rfl, rfl, rfl⟩ := h
    subst c4
    exact skywayref4_LabelBox.at4 a0_0 a0_1 a0_2 a0_3 w
  rw [if_neg c4] at h
  by_cases c5 : a1 = 5
  · rw [if_pos c5] at h
    simp only [Option.some.injEq, Prod.mk.injEq] at h
    obtain ⟨rfl, rfl, rfl, rfl⟩ := h
    subst c5
    exact skywayref4_LabelBox.at5 a0_0 a0_1 a0_2 a0_3 w
  rw [if_neg c5] at h
  by_cases c6 : a1 = 6
  · rw [if_pos c6] at h
    simp only [Option.some.injEq, Prod.mk.injEq] at h
    obtain ⟨rfl, rfl, rfl, rfl⟩ := h
    subst c6
    exact skywayref4_LabelBox.at6 a0_0 a0_1 a0_2 a0_3 w
  rw [if_neg c6] at h
  by_cases c7 : a1 = 7
  · rw [if_pos c7] at h
    simp only [Option.some.injEq, Prod.mk.injEq] at h
    obtain ⟨rfl, rfl, rfl, rfl⟩ := h
    subst c7
    exact skywayref4_LabelBox.at7 a0_0 a0_1 a0_2 a0_3 w
  rw [if_neg c7] at h
  exact absurd h (by simp)

end Go.Proofs.Ytlaaeighanknpaa.MLabelBoxes
