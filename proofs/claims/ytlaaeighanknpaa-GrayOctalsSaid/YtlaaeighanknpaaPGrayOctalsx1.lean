-- PRINTED BY print.sh 35421559b90ae4d0a3588c463048766b98c2df88dd9212a6774a882060cdf62d: not written by this session
import Derived.Test.YtlaaeighanknpaaPGrayOctalsx0
namespace Go.Proofs.Ytlaaeighanknpaa.PGrayOctals
open Go.RowKit Go.Proofs.YtlaaeighanknpaaW.PrintWords Go.Proofs.YtlaaeighanknpaaW.PrintLast Go.Proofs.YtlaaeighanknpaaW.PrintMore
attribute [local go_sem] max2_int min2_int max_two min_two max_three min_three max_four min_four   -- for this text's walks alone
set_option linter.unusedVariables false
set_option linter.unusedSimpArgs false

/-! ### gray_Octal: function 15 -/
def gray_Octal.f (a0 : Int) : Option (ByteArray × Int) := if a0 < 0 then (some ((⟨#[]⟩ : ByteArray), 4)) else (if a0 > 4095 then (some ((⟨#[]⟩ : ByteArray), 4)) else (some (strOfNums (([(48 + ((a0 / 512) % 256)) % 256, (48 + ((Go.bits .and .i64 (a0 / 64) 7) % 256)) % 256, (48 + ((Go.bits .and .i64 (a0 / 8) 7) % 256)) % 256, (48 + ((Go.bits .and .i64 a0 7) % 256)) % 256] : List Int)), 0)))
set_option maxHeartbeats 8000000 in
set_option maxRecDepth 100000 in
theorem gray_Octal.calls (a0 : Int) (r1 : ByteArray) (r2 : Int) (w : World) (h : gray_Octal.f a0 = some (r1, r2)) :
    Calls Try.prog 15 #[.int .i64 a0] w fun e w' => e = .returned (.tuple #[.string r1, .int .i64 r2]) ∧ Below w.heap.size w w' := by
  have HB := Aside0.mk (Below.refl w.heap.size w)
  have H : (if a0 < 0 then (some ((⟨#[]⟩ : ByteArray), 4)) else (if a0 > 4095 then (some ((⟨#[]⟩ : ByteArray), 4)) else (some (strOfNums (([(48 + ((a0 / 512) % 256)) % 256, (48 + ((Go.bits .and .i64 (a0 / 64) 7) % 256)) % 256, (48 + ((Go.bits .and .i64 (a0 / 8) 7) % 256)) % 256, (48 + ((Go.bits .and .i64 a0 7) % 256)) % 256] : List Int)), 0)))) = some (r1, r2) := h
  clear h
  by_cases c2 : a0 < 0
  · rw [if_pos c2] at H
    have c2b0 : decide (a0 < 0) = true := decide_eq_true c2
    clear c2
    simp only [Option.some.injEq, Prod.mk.injEq] at H
    obtain ⟨rfl, rfl⟩ := H
    go_enter Try.func15, Try.ntmps15
    go_wp2
    go_ret2
    exact ⟨by first | rfl | (simp [errW_none, errW_some] <;> rfl) | (simp [*, errW_none, errW_some] <;> rfl), by repeat (first | (with_reducible first | exact HB.out | apply below_alloc | apply pw_below_drewN | apply below_drew1) | exact HB.out)⟩
  · rw [if_neg c2] at H
    have c2b0 : decide (a0 < 0) = false := decide_eq_false c2
    clear c2
    by_cases c3 : a0 > 4095
    · rw [if_pos c3] at H
      have c3b0 : decide (4095 < a0) = true := decide_eq_true c3
      clear c3
      simp only [Option.some.injEq, Prod.mk.injEq] at H
      obtain ⟨rfl, rfl⟩ := H
      go_enter Try.func15, Try.ntmps15
      go_wp2
      go_ret2
      exact ⟨by first | rfl | (simp [errW_none, errW_some] <;> rfl) | (simp [*, errW_none, errW_some] <;> rfl), by repeat (first | (with_reducible first | exact HB.out | apply below_alloc | apply pw_below_drewN | apply below_drew1) | exact HB.out)⟩
    · rw [if_neg c3] at H
      have c3b0 : decide (4095 < a0) = false := decide_eq_false c3
      clear c3
      obtain ⟨y101, hy101⟩ : ∃ y_ : List Int, y_ = (([(48 + ((a0 / 512) % 256)) % 256, (48 + ((Go.bits .and .i64 (a0 / 64) 7) % 256)) % 256, (48 + ((Go.bits .and .i64 (a0 / 8) 7) % 256)) % 256, (48 + ((Go.bits .and .i64 a0 7) % 256)) % 256] : List Int)) := ⟨_, rfl⟩
      replace H : (some (strOfNums y101, 0)) = some (r1, r2) := by first | (rw [hy101]; with_reducible exact H) | (have H2_ := (Option.bind_some _ _).symm.trans H; rw [hy101]; with_reducible exact H2_) | (have H2_ := (Option.bind_some _ _).symm.trans H; with_reducible exact H2_) | with_reducible exact H | (rw [hy101]; exact H) | exact H
      have Ny101 := Aside0.mk hy101
      clear hy101
      simp only [Option.some.injEq, Prod.mk.injEq] at H
      obtain ⟨rfl, rfl⟩ := H
      go_enter Try.func15, Try.ntmps15
      go_wp2_with (first | ((with_reducible refine gate_dst (N := 28) rfl ?_); refine Kd.R_lit (Kd.int .u8) _ 5 ?hg (N := 28) ?hd (xs := ([(48 + ((a0 / 512) % 256)) % 256, (48 + ((Go.bits .and .i64 (a0 / 64) 7) % 256)) % 256, (48 + ((Go.bits .and .i64 (a0 / 8) 7) % 256)) % 256, (48 + ((Go.bits .and .i64 a0 7) % 256)) % 256] : List Int)) (inner := [.int .u8 ((48 + ((a0 / 512) % 256)) % 256), .int .u8 ((48 + ((Go.bits .and .i64 (a0 / 64) 7) % 256)) % 256), .int .u8 ((48 + ((Go.bits .and .i64 (a0 / 8) 7) % 256)) % 256), .int .u8 ((48 + ((Go.bits .and .i64 a0 7) % 256)) % 256)]) (ok := fun _ => True) (okp := fun _ => True) ?hr ?hp (fun _ hk => hk) trivial (Below.refl _ _) (Nat.le_refl _) (by simp) ?_; (case hd => rfl); (case hg => rfl); (case hr => first | (go_simp; done) | (go_simp; rfl)); (case hp => exact (Reps.one (show Kd.M (Kd.int .u8) _ _ _ ((48 + ((a0 / 512) % 256)) % 256) [.int .u8 ((48 + ((a0 / 512) % 256)) % 256)] from rfl) (Reps.one (show Kd.M (Kd.int .u8) _ _ _ ((48 + ((Go.bits .and .i64 (a0 / 64) 7) % 256)) % 256) [.int .u8 ((48 + ((Go.bits .and .i64 (a0 / 64) 7) % 256)) % 256)] from rfl) (Reps.one (show Kd.M (Kd.int .u8) _ _ _ ((48 + ((Go.bits .and .i64 (a0 / 8) 7) % 256)) % 256) [.int .u8 ((48 + ((Go.bits .and .i64 (a0 / 8) 7) % 256)) % 256)] from rfl) (Reps.one (show Kd.M (Kd.int .u8) _ _ _ ((48 + ((Go.bits .and .i64 a0 7) % 256)) % 256) [.int .u8 ((48 + ((Go.bits .and .i64 a0 7) % 256)) % 256)] from rfl) (Reps.none _ _)))))); intro v102 w4 ho5 hb hg_ hnew_; clear hg_ hnew_; (first | rw [← Ny101.out] at ho5 | (simp only [Int.reduceToNat] at ho5; rw [← Ny101.out] at ho5)); have n0_ := Aside0.mk (Kd.R_lower ho5 (below_size (by repeat (first | (with_reducible first | exact HB.out | apply below_alloc | apply pw_below_drewN | apply below_drew1) | exact HB.out)))); have n1_ := Aside0.mk (below_step (by repeat (first | (with_reducible first | exact HB.out | apply below_alloc | apply pw_below_drewN | apply below_drew1) | exact HB.out)) hb); clear HB; have HO103 := n0_; have HB := n1_; clear n0_ n1_; clear hb ho5; have hcv6 := own_string (P := Try.prog) Try.underlying117 Try.underlying5 Try.underlying9 (Kd.own_of_R HO103.out)))
      go_ret2
      exact ⟨by first | rfl | (simp [errW_none, errW_some] <;> rfl) | (simp [*, errW_none, errW_some] <;> rfl), by repeat (first | (with_reducible first | exact HB.out | apply below_alloc | apply pw_below_drewN | apply below_drew1) | exact HB.out)⟩

/-! ### gray_Read: function 16 -/
def gray_Read.l0 : Nat → ByteArray → Int → Int → Int → Option (Int × Int)
  | 0, _, _, _, _ => none
  | k + 1, x0, x4, x10, x11 => if x11 < x10 then (if 0 ≤ x11 then (if x11 < (x0.size : Int) then (if (bt x0 x11) < 48 then (some (0, 5)) else (if (bt x0 x11) > 55 then (some (0, 5)) else (gray_Read.l0 k x0 (Go.bits .or .i64 (wrap64 (x4 * 8)) (((bt x0 x11) - 48) % 256)) x10 (wrap64 (x11 + 1))))) else (none)) else (none)) else (some (x4, 0))
def gray_Read.f (k : Nat) (a0 : ByteArray) : Option (Int × Int) := if (a0.size : Int) = 4 then (gray_Read.l0 k a0 0 (a0.size : Int) 0) else (some (0, 5))
theorem gray_Read.mono_l : ∀ k, (∀ y0 y1 y2 y3, LeO (gray_Read.l0 k y0 y1 y2 y3) (gray_Read.l0 (k + 1) y0 y1 y2 y3))
  | 0 => fun _ _ _ _ r h => by simp [gray_Read.l0] at h
  | k + 1 => by
    have ih0 := gray_Read.mono_l k
    · intro y0 y1 y2 y3
      unfold gray_Read.l0
      repeat' first
      | (with_reducible exact ih0 _ _ _ _)
      | (with_reducible exact LeO.refl _)
      | (with_reducible exact LeO.none _)
      | (with_reducible refine LeO.ite ?_ ?_)
      | (with_reducible refine LeO.bind ?_ (fun _ => ?_))
      | exact ih0 _ _ _ _
      | exact LeO.none _
      | refine LeO.ite ?_ ?_
      | refine LeO.bind ?_ (fun _ => ?_)
theorem gray_Read.mono : ∀ a0 k, LeO (gray_Read.f k a0) (gray_Read.f (k + 1) a0) := by
  intro a0 k
  have ih0 := gray_Read.mono_l k
  unfold gray_Read.f
  repeat' first
      | (with_reducible exact ih0 _ _ _ _)
      | (with_reducible exact LeO.refl _)
      | (with_reducible exact LeO.none _)
      | (with_reducible refine LeO.ite ?_ ?_)
      | (with_reducible refine LeO.bind ?_ (fun _ => ?_))
      | exact ih0 _ _ _ _
      | exact LeO.none _
      | refine LeO.ite ?_ ?_
      | refine LeO.bind ?_ (fun _ => ?_)
set_option maxHeartbeats 8000000 in
set_option maxRecDepth 100000 in
theorem gray_Read.calls (k : Nat) (a0 : ByteArray) (r1 : Int) (r2 : Int) (w : World) (h : gray_Read.f k a0 = some (r1, r2)) :
    Calls Try.prog 16 #[.string a0] w fun e w' => e = .returned (.tuple #[.int .i64 r1, .int .i64 r2]) ∧ Drawn0 w w' := by
  have H : (if (a0.size : Int) = 4 then (gray_Read.l0 k a0 0 (a0.size : Int) 0) else (some (0, 5))) = some (r1, r2) := h
  clear h
  by_cases c2 : (a0.size : Int) = 4
  · rw [if_pos c2] at H
    have c2b0 : ((a0.size : Int) == 4) = true := beq_iff_eq.mpr c2
    have c2b1 : ((a0.size : Int) != 4) = false := bne_eq_false_iff_eq.mpr c2
    clear c2
    have H' := Aside0.mk H
    clear H
    go_enter Try.func16, Try.ntmps16
    go_wp2
    go_loopg [4, 11] k (fun kq v4 v11 w' => ∃ (x4_1 : Int) (x11_1 : Int), v4 = .int .i64 x4_1 ∧ v11 = .int .i64 x11_1 ∧ Aside0 (gray_Read.l0 kq a0 x4_1 (a0.size : Int) x11_1 = some (r1, r2)) ∧ Aside0 (kq ≤ k) ∧ Drawn0 w w')
    case atStart => exact ⟨(0), (0), (by first | rfl | (simp; done) | (simp [*]; done)), (by first | rfl | (simp; done) | (simp [*]; done)), H', ⟨Nat.le_refl _⟩, by repeat (first | exact Drawn0.refl _ | apply Drawn0.step)⟩
    case round =>
      clear H'
      try clear c1
      try clear c2
      try clear c2b0
      try clear c2b1
      try clear p2
      obtain ⟨x4_1, x11_1, rfl, rfl, HA, HK1, ⟨m1, rfl⟩⟩ := hrel
      cases gk with
      | zero => exact absurd HA.out (by simp [gray_Read.l0])
      | succ k1 =>
        have H := HA.out
        clear HA
        simp only [gray_Read.l0] at H
        by_cases c3 : x11_1 < (a0.size : Int)
        · rw [if_pos c3] at H
          have c3b0 : decide (x11_1 < (a0.size : Int)) = true := decide_eq_true c3
          clear c3
          by_cases c4 : 0 ≤ x11_1
          · rw [if_pos c4] at H
            have c4b0 : decide (0 ≤ x11_1) = true := decide_eq_true c4
            clear c4
            by_cases c5 : x11_1 < (a0.size : Int)
            · rw [if_pos c5] at H
              have c5b0 : decide (x11_1 < (a0.size : Int)) = true := decide_eq_true c5
              clear c5
              by_cases c7 : (bt a0 x11_1) < 48
              · rw [if_pos c7] at H
                have c7b0 : decide ((bt a0 x11_1) < 48) = true := decide_eq_true c7
                clear c7
                simp only [Option.some.injEq, Prod.mk.injEq] at H
                obtain ⟨rfl, rfl⟩ := H
                have p6 : 0 ≤ (x11_1 : Int) := of_decide_eq_true (by first | (with_reducible assumption) | assumption)
                have q6 : x11_1 < (a0.size : Int) := of_decide_eq_true (by first | (with_reducible assumption) | assumption)
                have hx6 := bt_at a0 x11_1
                replace p6 := eq_true p6
                replace q6 := eq_true q6
                go_wp2
                go_ret2
                exact ⟨by first | rfl | (simp; done) | (simp [*]; done), by repeat (first | exact Drawn0.refl _ | apply Drawn0.step)⟩
              · rw [if_neg c7] at H
                have c7b0 : decide ((bt a0 x11_1) < 48) = false := decide_eq_false c7
                clear c7
                by_cases c9 : (bt a0 x11_1) > 55
                · rw [if_pos c9] at H
                  have c9b0 : decide (55 < (bt a0 x11_1)) = true := decide_eq_true c9
                  clear c9
                  simp only [Option.some.injEq, Prod.mk.injEq] at H
                  obtain ⟨rfl, rfl⟩ := H
                  have p6 : 0 ≤ (x11_1 : Int) := of_decide_eq_true (by first | (with_reducible assumption) | assumption)
                  have q6 : x11_1 < (a0.size : Int) := of_decide_eq_true (by first | (with_reducible assumption) | assumption)
                  have hx6 := bt_at a0 x11_1
                  replace p6 := eq_true p6
                  replace q6 := eq_true q6
                  have p8 : 0 ≤ (x11_1 : Int) := of_decide_eq_true (by first | (with_reducible assumption) | assumption)
                  have q8 : x11_1 < (a0.size : Int) := of_decide_eq_true (by first | (with_reducible assumption) | assumption)
                  have hx8 := bt_at a0 x11_1
                  replace p8 := eq_true p8
                  replace q8 := eq_true q8
                  go_wp2
                  go_ret2
                  exact ⟨by first | rfl | (simp; done) | (simp [*]; done), by repeat (first | exact Drawn0.refl _ | apply Drawn0.step)⟩
                · rw [if_neg c9] at H
                  have c9b0 : decide (55 < (bt a0 x11_1)) = false := decide_eq_false c9
                  clear c9
                  have H' := Aside0.mk H
                  clear H
                  have p6 : 0 ≤ (x11_1 : Int) := of_decide_eq_true (by first | (with_reducible assumption) | assumption)
                  have q6 : x11_1 < (a0.size : Int) := of_decide_eq_true (by first | (with_reducible assumption) | assumption)
                  have hx6 := bt_at a0 x11_1
                  replace p6 := eq_true p6
                  replace q6 := eq_true q6
                  have p8 : 0 ≤ (x11_1 : Int) := of_decide_eq_true (by first | (with_reducible assumption) | assumption)
                  have q8 : x11_1 < (a0.size : Int) := of_decide_eq_true (by first | (with_reducible assumption) | assumption)
                  have hx8 := bt_at a0 x11_1
                  replace p8 := eq_true p8
                  replace q8 := eq_true q8
                  have p10 : 0 ≤ (x11_1 : Int) := of_decide_eq_true (by first | (with_reducible assumption) | assumption)
                  have q10 : x11_1 < (a0.size : Int) := of_decide_eq_true (by first | (with_reducible assumption) | assumption)
                  have hx10 := bt_at a0 x11_1
                  replace p10 := eq_true p10
                  replace q10 := eq_true q10
                  go_wp2
                  go_roundg k1
                  case measure => have := HK1.out; omega
                  case rel => exact ⟨(Go.bits .or .i64 (wrap64 (x4_1 * 8)) (((bt a0 x11_1) - 48) % 256)), (wrap64 (x11_1 + 1)), (by first | rfl | (simp; done) | (simp [*]; done)), (by first | rfl | (simp; done) | (simp [*]; done)), H', ⟨by have := HK1.out; omega⟩, by repeat (first | exact Drawn0.refl _ | apply Drawn0.step)⟩
            · rw [if_neg c5] at H
              exact absurd H (by simp)
          · rw [if_neg c4] at H
            exact absurd H (by simp)
        · rw [if_neg c3] at H
          have c3b0 : decide (x11_1 < (a0.size : Int)) = false := decide_eq_false c3
          clear c3
          simp only [Option.some.injEq, Prod.mk.injEq] at H
          obtain ⟨rfl, rfl⟩ := H
          go_wp2
          go_ret2
          exact ⟨by first | rfl | (simp; done) | (simp [*]; done), by repeat (first | exact Drawn0.refl _ | apply Drawn0.step)⟩
  · rw [if_neg c2] at H
    have c2b0 : ((a0.size : Int) == 4) = false := beq_eq_false_iff_ne.mpr c2
    have c2b1 : ((a0.size : Int) != 4) = true := bne_iff_ne.mpr c2
    simp only [Option.some.injEq, Prod.mk.injEq] at H
    obtain ⟨rfl, rfl⟩ := H
    go_enter Try.func16, Try.ntmps16
    go_wp2
    go_ret2
    exact ⟨by first | rfl | (simp; done) | (simp [*]; done), by repeat (first | exact Drawn0.refl _ | apply Drawn0.step)⟩

/-! ### skywayref2_In: function 17 -/
def skywayref2_In.f (a0 : Int) (a1 : Int) (a2 : Int) : Option (Bool) := if a0 ≥ a1 then (some (decide (a0 ≤ a2))) else (some false)
set_option maxHeartbeats 8000000 in
set_option maxRecDepth 100000 in
theorem skywayref2_In.calls (a0 : Int) (a1 : Int) (a2 : Int) (r : Bool) (w : World) (h : skywayref2_In.f a0 a1 a2 = some r) :
    Calls Try.prog 17 #[.int .i64 a0, .int .i64 a1, .int .i64 a2] w fun e w' => e = .returned (.bool r) ∧ Drawn0 w w' := by
  have H : (if a0 ≥ a1 then (some (decide (a0 ≤ a2))) else (some false)) = some r := h
  clear h
  by_cases c4 : a0 ≥ a1
  · rw [if_pos c4] at H
    have c4b0 : decide (a1 ≤ a0) = true := decide_eq_true c4
    clear c4
    obtain rfl := Option.some.inj H
    go_enter Try.func17, Try.ntmps17
    go_wp2
    go_ret
    exact ⟨by first | rfl | (simp; done) | (simp [*]; done), by repeat (first | exact Drawn0.refl _ | apply Drawn0.step)⟩
  · rw [if_neg c4] at H
    have c4b0 : decide (a1 ≤ a0) = false := decide_eq_false c4
    clear c4
    obtain rfl := Option.some.inj H
    go_enter Try.func17, Try.ntmps17
    go_wp2
    go_ret
    exact ⟨by first | rfl | (simp; done) | (simp [*]; done), by repeat (first | exact Drawn0.refl _ | apply Drawn0.step)⟩

/-! ### skywaylaw2_GrayOctals: function 3 -/
mutual
def skywaylaw2_GrayOctals.j0 : Nat → Int → ByteArray → Bool → Option (Bool)
  | 0, _, _, _ => none
  | k + 1, x0, x1, x25 => if x25 = true then (some false) else ((gray_Read.f k x1).bind fun bt106 => (skywaylaw2_GrayOctals.l0 k x0 x1 bt106.1 bt106.2 0 ((x1.size : Int) == 4) (x1.size : Int) 0))
def skywaylaw2_GrayOctals.l0 : Nat → Int → ByteArray → Int → Int → Int → Bool → Int → Int → Option (Bool)
  | 0, _, _, _, _, _, _, _, _ => none
  | k + 1, x0, x1, x7, x8, x9, x10, x35, x36 => if x36 < x35 then (if x10 = true then (if 0 ≤ x36 then (if x36 < (x1.size : Int) then ((skywayref2_In.f (wrap64 (bt x1 x36)) 48 55).bind fun t108 => (skywaylaw2_GrayOctals.l0 k x0 x1 x7 x8 (Int.tmod (wrap64 ((wrap64 (x9 * 8)) + (Go.bits .and .i64 (((bt x1 x36) - 48) % 256) 7))) 4096) t108 x35 (wrap64 (x36 + 1)))) else (none)) else (none)) else (if 0 ≤ x36 then (if x36 < (x1.size : Int) then (skywaylaw2_GrayOctals.l0 k x0 x1 x7 x8 (Int.tmod (wrap64 ((wrap64 (x9 * 8)) + (Go.bits .and .i64 (((bt x1 x36) - 48) % 256) 7))) 4096) false x35 (wrap64 (x36 + 1))) else (none)) else (none))) else (if (x10 != (x8 == 0)) = true then (skywaylaw2_GrayOctals.j2 k x0 true) else (if x10 = true then (if x7 = x9 then (skywaylaw2_GrayOctals.j2 k x0 false) else (skywaylaw2_GrayOctals.j2 k x0 true)) else (if x7 = 0 then (skywaylaw2_GrayOctals.j2 k x0 (x8 != 5)) else (skywaylaw2_GrayOctals.j2 k x0 true))))
def skywaylaw2_GrayOctals.j2 : Nat → Int → Bool → Option (Bool)
  | 0, _, _ => none
  | k + 1, x0, x81 => if x81 = true then (some false) else ((gray_Octal.f x0).bind fun bt109 => ((skywayref2_In.f x0 0 4095).bind fun t111 => (if t111 = true then ((gray_Read.f k bt109.1).bind fun bt112 => (if bt109.2 = 0 then (if bt112.2 = 0 then (if bt112.1 = x0 then (some ((bt109.1.size : Int) == 4)) else (some false)) else (some false)) else (some false))) else (if bt109.2 = 4 then (some (bt109.1.toList == ([] : List UInt8))) else (some false)))))
end
def skywaylaw2_GrayOctals.f (k : Nat) (a0 : Int) (a1 : ByteArray) : Option (Bool) := (gray_Octal.f 4032).bind fun bt104 => (if bt104.2 = 0 then (skywaylaw2_GrayOctals.j0 k a0 a1 (bt104.1.toList != ([55, 55, 48, 48] : List UInt8))) else (skywaylaw2_GrayOctals.j0 k a0 a1 true))
theorem skywaylaw2_GrayOctals.mono_l : ∀ k, (∀ y0 y1 y2, LeO (skywaylaw2_GrayOctals.j0 k y0 y1 y2) (skywaylaw2_GrayOctals.j0 (k + 1) y0 y1 y2)) ∧ (∀ y0 y1 y2 y3 y4 y5 y6 y7, LeO (skywaylaw2_GrayOctals.l0 k y0 y1 y2 y3 y4 y5 y6 y7) (skywaylaw2_GrayOctals.l0 (k + 1) y0 y1 y2 y3 y4 y5 y6 y7)) ∧ (∀ y0 y1, LeO (skywaylaw2_GrayOctals.j2 k y0 y1) (skywaylaw2_GrayOctals.j2 (k + 1) y0 y1))
  | 0 => ⟨fun _ _ _ r h => by simp [skywaylaw2_GrayOctals.j0] at h, fun _ _ _ _ _ _ _ _ r h => by simp [skywaylaw2_GrayOctals.l0] at h, fun _ _ r h => by simp [skywaylaw2_GrayOctals.j2] at h⟩
  | k + 1 => by
    obtain ⟨ih0, ih1, ih2⟩ := skywaylaw2_GrayOctals.mono_l k
    refine ⟨?_, ?_, ?_⟩
    · intro y0 y1 y2
      unfold skywaylaw2_GrayOctals.j0
      repeat' first
      | (with_reducible exact ih0 _ _ _)
      | (with_reducible exact ih1 _ _ _ _ _ _ _ _)
      | (with_reducible exact ih2 _ _)
      | (with_reducible exact gray_Read.mono _ _)
      | (with_reducible exact LeO.refl _)
      | (with_reducible exact LeO.none _)
      | (with_reducible refine LeO.ite ?_ ?_)
      | (with_reducible refine LeO.bind ?_ (fun _ => ?_))
      | exact ih0 _ _ _
      | exact ih1 _ _ _ _ _ _ _ _
      | exact ih2 _ _
      | exact gray_Read.mono _ _
      | exact LeO.none _
      | refine LeO.ite ?_ ?_
      | refine LeO.bind ?_ (fun _ => ?_)
    · intro y0 y1 y2 y3 y4 y5 y6 y7
      unfold skywaylaw2_GrayOctals.l0
      repeat' first
      | (with_reducible exact ih0 _ _ _)
      | (with_reducible exact ih1 _ _ _ _ _ _ _ _)
      | (with_reducible exact ih2 _ _)
      | (with_reducible exact gray_Read.mono _ _)
      | (with_reducible exact LeO.refl _)
      | (with_reducible exact LeO.none _)
      | (with_reducible refine LeO.ite ?_ ?_)
      | (with_reducible refine LeO.bind ?_ (fun _ => ?_))
      | exact ih0 _ _ _
      | exact ih1 _ _ _ _ _ _ _ _
      | exact ih2 _ _
      | exact gray_Read.mono _ _
      | exact LeO.none _
      | refine LeO.ite ?_ ?_
      | refine LeO.bind ?_ (fun _ => ?_)
    · intro y0 y1
      unfold skywaylaw2_GrayOctals.j2
      repeat' first
      | (with_reducible exact ih0 _ _ _)
      | (with_reducible exact ih1 _ _ _ _ _ _ _ _)
      | (with_reducible exact ih2 _ _)
      | (with_reducible exact gray_Read.mono _ _)
      | (with_reducible exact LeO.refl _)
      | (with_reducible exact LeO.none _)
      | (with_reducible refine LeO.ite ?_ ?_)
      | (with_reducible refine LeO.bind ?_ (fun _ => ?_))
      | exact ih0 _ _ _
      | exact ih1 _ _ _ _ _ _ _ _
      | exact ih2 _ _
      | exact gray_Read.mono _ _
      | exact LeO.none _
      | refine LeO.ite ?_ ?_
      | refine LeO.bind ?_ (fun _ => ?_)
theorem skywaylaw2_GrayOctals.mono : ∀ a0 a1 k, LeO (skywaylaw2_GrayOctals.f k a0 a1) (skywaylaw2_GrayOctals.f (k + 1) a0 a1) := by
  intro a0 a1 k
  obtain ⟨ih0, ih1, ih2⟩ := skywaylaw2_GrayOctals.mono_l k
  unfold skywaylaw2_GrayOctals.f
  repeat' first
      | (with_reducible exact ih0 _ _ _)
      | (with_reducible exact ih1 _ _ _ _ _ _ _ _)
      | (with_reducible exact ih2 _ _)
      | (with_reducible exact gray_Read.mono _ _)
      | (with_reducible exact LeO.refl _)
      | (with_reducible exact LeO.none _)
      | (with_reducible refine LeO.ite ?_ ?_)
      | (with_reducible refine LeO.bind ?_ (fun _ => ?_))
      | exact ih0 _ _ _
      | exact ih1 _ _ _ _ _ _ _ _
      | exact ih2 _ _
      | exact gray_Read.mono _ _
      | exact LeO.none _
      | refine LeO.ite ?_ ?_
      | refine LeO.bind ?_ (fun _ => ?_)
set_option maxHeartbeats 8000000 in
set_option maxRecDepth 100000 in
theorem skywaylaw2_GrayOctals.calls (k : Nat) (a0 : Int) (a1 : ByteArray) (r : Bool) (w : World) (h : skywaylaw2_GrayOctals.f k a0 a1 = some r) :
    Calls Try.prog 3 #[.int .i64 a0, .string a1] w fun e w' => e = .returned (.bool r) ∧ Below w.heap.size w w' := by
  have HB := Aside0.mk (Below.refl w.heap.size w)
  have H : ((gray_Octal.f 4032).bind fun bt104 => (if bt104.2 = 0 then (skywaylaw2_GrayOctals.j0 k a0 a1 (bt104.1.toList != ([55, 55, 48, 48] : List UInt8))) else (skywaylaw2_GrayOctals.j0 k a0 a1 true))) = some r := h
  clear h
  replace H := Option.bind_eq_some_iff.mp H
  obtain ⟨⟨t104, t105⟩, A30, H⟩ := H
  replace H : (if t105 = 0 then (skywaylaw2_GrayOctals.j0 k a0 a1 (t104.toList != ([55, 55, 48, 48] : List UInt8))) else (skywaylaw2_GrayOctals.j0 k a0 a1 true)) = some r := H
  have A3 := Aside0.mk A30
  clear A30
  have HC4 := Aside0.mk H
  clear H
  go_enter Try.func3, Try.ntmps3
  go_upto_region 2 with (first | ((with_reducible refine gate_callee (f := 15) rfl ?_); refine goesL_ (some 17) rfl rfl Try.func15 (by kernel_rfl) rfl #[.int .i64 4032] rfl (by (try simp only [List.map_toArray, List.map_cons, List.map_nil]); first | done | rfl | (simp only [List.length_drop, List.length_take]; rfl)) ?_; (with_reducible refine (gray_Octal.calls 4032 t104 t105 _ A3.out).mono ?_); rintro e w5 ⟨rfl, hb⟩; refine ⟨_, rfl, ?_⟩; have n0_ := Aside0.mk (below_step (by repeat (first | (with_reducible first | exact HB.out | apply below_alloc | apply pw_below_drewN | apply below_drew1) | exact HB.out)) hb); clear HB; have HB := n0_; clear n0_; (try clear hb); (try clear hb2); (try clear hk); (try clear hi)))
  (try simp only [Act.put, List.setIfInBounds_toArray, List.set_cons_zero, List.set_cons_succ])
  go_cut [25] (fun v25 wc => ∃ (kq : Nat) (x25_3 : Bool), v25 = .bool x25_3 ∧ Aside0 (skywaylaw2_GrayOctals.j0 kq a0 a1 x25_3 = some r) ∧ Aside0 (kq ≤ k) ∧ Aside0 (Below w.heap.size w wc))
  case first =>
    have H := HC4.out
    clear HC4
    by_cases c6 : t105 = 0
    · rw [if_pos c6] at H
      have c6b0 : (t105 == 0) = true := beq_iff_eq.mpr c6
      have c6b1 : (t105 != 0) = false := bne_eq_false_iff_eq.mpr c6
      clear c6
      (first | rw [c6b0] | (simp only [i64_w, i32_w]; rw [c6b0]) | skip)
      have H' := Aside0.mk H
      clear H
      go_wp2
      go_meet
      case rel => exact ⟨_, ((t104.toList != ([55, 55, 48, 48] : List UInt8))), (by first | rfl | (simp; done) | (simp [*]; done)), H', ⟨by first | omega | exact Nat.le_refl _⟩, ⟨by repeat (first | (with_reducible first | exact HB.out | apply below_alloc | apply pw_below_drewN | apply below_drew1) | exact HB.out)⟩⟩
    · rw [if_neg c6] at H
      have c6b0 : (t105 == 0) = false := beq_eq_false_iff_ne.mpr c6
      have c6b1 : (t105 != 0) = true := bne_iff_ne.mpr c6
      (first | rw [c6b0] | (simp only [i64_w, i32_w]; rw [c6b0]) | skip)
      have H' := Aside0.mk H
      clear H
      go_wp2
      go_meet
      case rel => exact ⟨_, (true), (by first | rfl | (simp; done) | (simp [*]; done)), H', ⟨by first | omega | exact Nat.le_refl _⟩, ⟨by repeat (first | (with_reducible first | exact HB.out | apply below_alloc | apply pw_below_drewN | apply below_drew1) | exact HB.out)⟩⟩
  case rest =>
    clear HC4
    try clear c1
    try clear p2
    try clear c3
    try clear c6
    try clear c6b0
    try clear c6b1
    obtain ⟨kq, x25_3, rfl, HA, HJ3, HB⟩ := hcut
    cases kq with
    | zero => exact absurd HA.out (by simp [skywaylaw2_GrayOctals.j0])
    | succ kj3 =>
      have H := HA.out
      clear HA
      simp only [skywaylaw2_GrayOctals.j0] at H
      by_cases c7 : x25_3 = true
      · subst c7
        have H1 : (some false) = some r := by rw [if_pos rfl] at H; exact H
        clear H
        have H := H1
        clear H1
        obtain rfl := Option.some.inj H
        go_wp2
        go_ret
        exact ⟨by first | rfl | (simp [errW_none, errW_some] <;> rfl) | (simp [*, errW_none, errW_some] <;> rfl), by repeat (first | (with_reducible first | exact HB.out | apply below_alloc | apply pw_below_drewN | apply below_drew1) | exact HB.out)⟩
      · replace c7 := Bool.eq_false_iff.mpr c7
        subst c7
        have H1 : ((gray_Read.f kj3 a1).bind fun bt106 => (skywaylaw2_GrayOctals.l0 kj3 a0 a1 bt106.1 bt106.2 0 ((a1.size : Int) == 4) (a1.size : Int) 0)) = some r := by rw [if_neg (show ¬ (false = true) by decide)] at H; exact H
        clear H
        have H := H1
        clear H1
        replace H := Option.bind_eq_some_iff.mp H
        obtain ⟨⟨t106, t107⟩, A80, H⟩ := H
        replace H : (skywaylaw2_GrayOctals.l0 kj3 a0 a1 t106 t107 0 ((a1.size : Int) == 4) (a1.size : Int) 0) = some r := H
        have A8 := Aside0.mk A80
        clear A80
        have H' := Aside0.mk H
        clear H
        go_wp2_with (first | ((with_reducible refine gate_callee (f := 16) rfl ?_); refine goesL_ (some 28) rfl rfl Try.func16 (by kernel_rfl) rfl #[.string a1] rfl (by (try simp only [List.map_toArray, List.map_cons, List.map_nil]); first | done | rfl | (simp only [List.length_drop, List.length_take]; rfl)) ?_; (with_reducible refine (gray_Read.calls kj3 a1 t106 t107 _ A8.out).mono ?_); rintro e w' ⟨rfl, ⟨nd, rfl⟩⟩; refine ⟨_, rfl, ?_⟩))
        go_loopg [9, 10, 36] kj3 (fun kq v9 v10 v36 w' => ∃ (x9_2 : Int) (x10_2 : Bool) (x36_2 : Int), v9 = .int .i64 x9_2 ∧ v10 = .bool x10_2 ∧ v36 = .int .i64 x36_2 ∧ Aside0 (skywaylaw2_GrayOctals.l0 kq a0 a1 t106 t107 x9_2 x10_2 (a1.size : Int) x36_2 = some r) ∧ Aside0 (kq ≤ kj3) ∧ Aside0 (Below w.heap.size w w'))
        case atStart => exact ⟨(0), (((a1.size : Int) == 4)), (0), (by first | rfl | (simp; done) | (simp [*]; done)), (by first | rfl | (simp; done) | (simp [*]; done)), (by first | rfl | (simp; done) | (simp [*]; done)), H', ⟨Nat.le_refl _⟩, ⟨by repeat (first | (with_reducible first | exact HB.out | apply below_alloc | apply pw_below_drewN | apply below_drew1) | exact HB.out)⟩⟩
        case round =>
          clear H'
          try clear c1
          try clear p2
          try clear c3
          try clear c6
          try clear c6b0
          try clear c6b1
          try clear c7
          try clear p2
          obtain ⟨x9_2, x10_2, x36_2, rfl, rfl, rfl, HA, HK2, HB⟩ := hrel
          cases gk with
          | zero => exact absurd HA.out (by simp [skywaylaw2_GrayOctals.l0])
          | succ k2 =>
            have H := HA.out
            clear HA
            simp only [skywaylaw2_GrayOctals.l0] at H
            by_cases c9 : x36_2 < (a1.size : Int)
            · rw [if_pos c9] at H
              have c9b0 : decide (x36_2 < (a1.size : Int)) = true := decide_eq_true c9
              clear c9
              by_cases c10 : x10_2 = true
              · subst c10
                have H1 : (if 0 ≤ x36_2 then (if x36_2 < (a1.size : Int) then ((skywayref2_In.f (wrap64 (bt a1 x36_2)) 48 55).bind fun t108 => (skywaylaw2_GrayOctals.l0 k2 a0 a1 t106 t107 (Int.tmod (wrap64 ((wrap64 (x9_2 * 8)) + (Go.bits .and .i64 (((bt a1 x36_2) - 48) % 256) 7))) 4096) t108 (a1.size : Int) (wrap64 (x36_2 + 1)))) else (none)) else (none)) = some r := by rw [if_pos rfl] at H; exact H
                clear H
                have H := H1
                clear H1
                by_cases c11 : 0 ≤ x36_2
                · rw [if_pos c11] at H
                  have c11b0 : decide (0 ≤ x36_2) = true := decide_eq_true c11
                  clear c11
                  by_cases c12 : x36_2 < (a1.size : Int)
                  · rw [if_pos c12] at H
                    have c12b0 : decide (x36_2 < (a1.size : Int)) = true := decide_eq_true c12
                    clear c12
                    replace H := Option.bind_eq_some_iff.mp H
                    obtain ⟨t108, A140, H⟩ := H
                    replace H : (skywaylaw2_GrayOctals.l0 k2 a0 a1 t106 t107 (Int.tmod (wrap64 ((wrap64 (x9_2 * 8)) + (Go.bits .and .i64 (((bt a1 x36_2) - 48) % 256) 7))) 4096) t108 (a1.size : Int) (wrap64 (x36_2 + 1))) = some r := H
                    have A14 := Aside0.mk A140
                    clear A140
                    have H' := Aside0.mk H
                    clear H
                    have p13 : 0 ≤ (x36_2 : Int) := of_decide_eq_true (by first | (with_reducible assumption) | assumption)
                    have q13 : x36_2 < (a1.size : Int) := of_decide_eq_true (by first | (with_reducible assumption) | assumption)
                    have hx13 := bt_at a1 x36_2
                    replace p13 := eq_true p13
                    replace q13 := eq_true q13
                    go_wp2_with (first | (go_at_call 17; (with_reducible refine (skywayref2_In.calls (wrap64 (bt a1 x36_2)) 48 55 t108 _ A14.out).mono ?_); rintro e w' ⟨rfl, ⟨nd, rfl⟩⟩; have p15 : 0 ≤ (x36_2 : Int) := of_decide_eq_true (by first | (with_reducible assumption) | assumption); have q15 : x36_2 < (a1.size : Int) := of_decide_eq_true (by first | (with_reducible assumption) | assumption); have hx15 := bt_at a1 x36_2; replace p15 := eq_true p15; replace q15 := eq_true q15))
                    go_roundg k2
                    case measure => have := HJ3.out; have := HK2.out; omega
                    case rel => exact ⟨(Int.tmod (wrap64 ((wrap64 (x9_2 * 8)) + (Go.bits .and .i64 (((bt a1 x36_2) - 48) % 256) 7))) 4096), (t108), (wrap64 (x36_2 + 1)), (by first | rfl | (simp; done) | (simp [*]; done)), (by first | rfl | (simp; done) | (simp [*]; done)), (by first | rfl | (simp; done) | (simp [*]; done)), H', ⟨by have := HJ3.out; have := HK2.out; omega⟩, ⟨by repeat (first | (with_reducible first | exact HB.out | apply below_alloc | apply pw_below_drewN | apply below_drew1) | exact HB.out)⟩⟩
                  · rw [if_neg c12] at H
                    exact absurd H (by simp)
                · rw [if_neg c11] at H
                  exact absurd H (by simp)
              · replace c10 := Bool.eq_false_iff.mpr c10
                subst c10
                have H1 : (if 0 ≤ x36_2 then (if x36_2 < (a1.size : Int) then (skywaylaw2_GrayOctals.l0 k2 a0 a1 t106 t107 (Int.tmod (wrap64 ((wrap64 (x9_2 * 8)) + (Go.bits .and .i64 (((bt a1 x36_2) - 48) % 256) 7))) 4096) false (a1.size : Int) (wrap64 (x36_2 + 1))) else (none)) else (none)) = some r := by rw [if_neg (show ¬ (false = true) by decide)] at H; exact H
                clear H
                have H := H1
                clear H1
                by_cases c16 : 0 ≤ x36_2
                · rw [if_pos c16] at H
                  have c16b0 : decide (0 ≤ x36_2) = true := decide_eq_true c16
                  clear c16
                  by_cases c17 : x36_2 < (a1.size : Int)
                  · rw [if_pos c17] at H
                    have c17b0 : decide (x36_2 < (a1.size : Int)) = true := decide_eq_true c17
                    clear c17
                    have H' := Aside0.mk H
                    clear H
                    have p18 : 0 ≤ (x36_2 : Int) := of_decide_eq_true (by first | (with_reducible assumption) | assumption)
                    have q18 : x36_2 < (a1.size : Int) := of_decide_eq_true (by first | (with_reducible assumption) | assumption)
                    have hx18 := bt_at a1 x36_2
                    replace p18 := eq_true p18
                    replace q18 := eq_true q18
                    go_wp2
                    go_roundg k2
                    case measure => have := HJ3.out; have := HK2.out; omega
                    case rel => exact ⟨(Int.tmod (wrap64 ((wrap64 (x9_2 * 8)) + (Go.bits .and .i64 (((bt a1 x36_2) - 48) % 256) 7))) 4096), (false), (wrap64 (x36_2 + 1)), (by first | rfl | (simp; done) | (simp [*]; done)), (by first | rfl | (simp; done) | (simp [*]; done)), (by first | rfl | (simp; done) | (simp [*]; done)), H', ⟨by have := HJ3.out; have := HK2.out; omega⟩, ⟨by repeat (first | (with_reducible first | exact HB.out | apply below_alloc | apply pw_below_drewN | apply below_drew1) | exact HB.out)⟩⟩
                  · rw [if_neg c17] at H
                    exact absurd H (by simp)
                · rw [if_neg c16] at H
                  exact absurd H (by simp)
            · rw [if_neg c9] at H
              have c9b0 : decide (x36_2 < (a1.size : Int)) = false := decide_eq_false c9
              clear c9
              have HC19 := Aside0.mk H
              clear H
              go_upto_region 12 with (fail)
              go_cut [81] (fun v81 wc => ∃ (kq : Nat) (x81_18 : Bool), v81 = .bool x81_18 ∧ Aside0 (skywaylaw2_GrayOctals.j2 kq a0 x81_18 = some r) ∧ Aside0 (kq ≤ k2) ∧ Aside0 (Below w.heap.size w wc))
              case first =>
                have H := HC19.out
                clear HC19
                by_cases c20 : (x10_2 != (t107 == 0)) = true
                · rw [if_pos c20] at H
                  have c20b0 : (x10_2 != (t107 == 0)) = true := c20
                  (try (have c20b1 : decide (x10_2 = (t107 == 0)) = false := by simpa using c20))
                  (try (have c20b2 : (x10_2 == (t107 == 0)) = false := by simpa using c20))
                  (try (have c20b3 : ¬ (x10_2 = (t107 == 0)) := by simpa using c20))
                  clear c20
                  (first | rw [c20b0] | (simp only [i64_w, i32_w]; rw [c20b0]) | skip)
                  have H' := Aside0.mk H
                  clear H
                  go_wp2
                  go_meet
                  case rel => exact ⟨_, (true), (by first | rfl | (simp; done) | (simp [*]; done)), H', ⟨by have := HJ3.out; have := HK2.out; first | omega | exact Nat.le_refl _⟩, ⟨by repeat (first | (with_reducible first | exact HB.out | apply below_alloc | apply pw_below_drewN | apply below_drew1) | exact HB.out)⟩⟩
                · rw [if_neg c20] at H
                  have c20b0 : (x10_2 != (t107 == 0)) = false := by simpa using c20
                  (try (have c20b1 : decide (x10_2 = (t107 == 0)) = true := by simpa using c20))
                  (try (have c20b2 : (x10_2 == (t107 == 0)) = true := by simpa using c20))
                  clear c20
                  (first | rw [c20b0] | (simp only [i64_w, i32_w]; rw [c20b0]) | skip)
                  by_cases c21 : x10_2 = true
                  · subst c21
                    have H1 : (if t106 = x9_2 then (skywaylaw2_GrayOctals.j2 k2 a0 false) else (skywaylaw2_GrayOctals.j2 k2 a0 true)) = some r := by rw [if_pos rfl] at H; exact H
                    clear H
                    have H := H1
                    clear H1
                    by_cases c22 : t106 = x9_2
                    · rw [if_pos c22] at H
                      have c22b0 : (t106 == x9_2) = true := beq_iff_eq.mpr c22
                      have c22b1 : (t106 != x9_2) = false := bne_eq_false_iff_eq.mpr c22
                      clear c22
                      have H' := Aside0.mk H
                      clear H
                      go_wp2
                      go_meet
                      case rel => exact ⟨_, (false), (by first | rfl | (simp; done) | (simp [*]; done)), H', ⟨by have := HJ3.out; have := HK2.out; first | omega | exact Nat.le_refl _⟩, ⟨by repeat (first | (with_reducible first | exact HB.out | apply below_alloc | apply pw_below_drewN | apply below_drew1) | exact HB.out)⟩⟩
                    · rw [if_neg c22] at H
                      have c22b0 : (t106 == x9_2) = false := beq_eq_false_iff_ne.mpr c22
                      have c22b1 : (t106 != x9_2) = true := bne_iff_ne.mpr c22
                      have H' := Aside0.mk H
                      clear H
                      go_wp2
                      go_meet
                      case rel => exact ⟨_, (true), (by first | rfl | (simp; done) | (simp [*]; done)), H', ⟨by have := HJ3.out; have := HK2.out; first | omega | exact Nat.le_refl _⟩, ⟨by repeat (first | (with_reducible first | exact HB.out | apply below_alloc | apply pw_below_drewN | apply below_drew1) | exact HB.out)⟩⟩
                  · replace c21 := Bool.eq_false_iff.mpr c21
                    subst c21
                    have H1 : (if t106 = 0 then (skywaylaw2_GrayOctals.j2 k2 a0 (t107 != 5)) else (skywaylaw2_GrayOctals.j2 k2 a0 true)) = some r := by rw [if_neg (show ¬ (false = true) by decide)] at H; exact H
                    clear H
                    have H := H1
                    clear H1
                    by_cases c23 : t106 = 0
                    · rw [if_pos c23] at H
                      have c23b0 : (t106 == 0) = true := beq_iff_eq.mpr c23
                      have c23b1 : (t106 != 0) = false := bne_eq_false_iff_eq.mpr c23
                      clear c23
                      have H' := Aside0.mk H
                      clear H
                      go_wp2
                      go_meet
                      case rel => exact ⟨_, ((t107 != 5)), (by first | rfl | (simp; done) | (simp [*]; done)), H', ⟨by have := HJ3.out; have := HK2.out; first | omega | exact Nat.le_refl _⟩, ⟨by repeat (first | (with_reducible first | exact HB.out | apply below_alloc | apply pw_below_drewN | apply below_drew1) | exact HB.out)⟩⟩
                    · rw [if_neg c23] at H
                      have c23b0 : (t106 == 0) = false := beq_eq_false_iff_ne.mpr c23
                      have c23b1 : (t106 != 0) = true := bne_iff_ne.mpr c23
                      have H' := Aside0.mk H
                      clear H
                      go_wp2
                      go_meet
                      case rel => exact ⟨_, (true), (by first | rfl | (simp; done) | (simp [*]; done)), H', ⟨by have := HJ3.out; have := HK2.out; first | omega | exact Nat.le_refl _⟩, ⟨by repeat (first | (with_reducible first | exact HB.out | apply below_alloc | apply pw_below_drewN | apply below_drew1) | exact HB.out)⟩⟩
              case rest =>
                clear HC19
                try clear c1
                try clear p1
                try clear q1
                try clear hx1
                try clear c2
                try clear p2
                try clear c3
                try clear c6
                try clear c6b0
                try clear c6b1
                try clear p6
                try clear c7
                try clear c9
                try clear c9b0
                try clear c10
                try clear c11
                try clear c11b0
                try clear c12
                try clear c12b0
                try clear p13
                try clear q13
                try clear hx13
                try clear c15
                try clear p15
                try clear q15
                try clear hx15
                try clear c16
                try clear c16b0
                try clear c17
                try clear c17b0
                try clear p18
                try clear q18
                try clear hx18
                try clear c20
                try clear c20b0
                try clear c20b1
                try clear c20b2
                try clear c21
                try clear c22
                try clear c22b0
                try clear c22b1
                try clear c23
                try clear c23b0
                try clear c23b1
                try clear p13
                try clear p15
                try clear p18
                try clear p2
                try clear q13
                try clear q15
                try clear q18
                obtain ⟨kq, x81_18, rfl, HA, HJ18, HB⟩ := hcut
                cases kq with
                | zero => exact absurd HA.out (by simp [skywaylaw2_GrayOctals.j2])
                | succ kj18 =>
                  have H := HA.out
                  clear HA
                  simp only [skywaylaw2_GrayOctals.j2] at H
                  by_cases c24 : x81_18 = true
                  · subst c24
                    have H1 : (some false) = some r := by rw [if_pos rfl] at H; exact H
                    clear H
                    have H := H1
                    clear H1
                    obtain rfl := Option.some.inj H
                    go_wp2
                    go_ret
                    exact ⟨by first | rfl | (simp [errW_none, errW_some] <;> rfl) | (simp [*, errW_none, errW_some] <;> rfl), by repeat (first | (with_reducible first | exact HB.out | apply below_alloc | apply pw_below_drewN | apply below_drew1) | exact HB.out)⟩
                  · replace c24 := Bool.eq_false_iff.mpr c24
                    subst c24
                    have H1 : ((gray_Octal.f a0).bind fun bt109 => ((skywayref2_In.f a0 0 4095).bind fun t111 => (if t111 = true then ((gray_Read.f kj18 bt109.1).bind fun bt112 => (if bt109.2 = 0 then (if bt112.2 = 0 then (if bt112.1 = a0 then (some ((bt109.1.size : Int) == 4)) else (some false)) else (some false)) else (some false))) else (if bt109.2 = 4 then (some (bt109.1.toList == ([] : List UInt8))) else (some false))))) = some r := by rw [if_neg (show ¬ (false = true) by decide)] at H; exact H
                    clear H
                    have H := H1
                    clear H1
                    replace H := Option.bind_eq_some_iff.mp H
                    obtain ⟨⟨t109, t110⟩, A250, H⟩ := H
                    replace H : ((skywayref2_In.f a0 0 4095).bind fun t111 => (if t111 = true then ((gray_Read.f kj18 t109).bind fun bt112 => (if t110 = 0 then (if bt112.2 = 0 then (if bt112.1 = a0 then (some ((t109.size : Int) == 4)) else (some false)) else (some false)) else (some false))) else (if t110 = 4 then (some (t109.toList == ([] : List UInt8))) else (some false)))) = some r := H
                    have A25 := Aside0.mk A250
                    clear A250
                    replace H := Option.bind_eq_some_iff.mp H
                    obtain ⟨t111, A260, H⟩ := H
                    replace H : (if t111 = true then ((gray_Read.f kj18 t109).bind fun bt112 => (if t110 = 0 then (if bt112.2 = 0 then (if bt112.1 = a0 then (some ((t109.size : Int) == 4)) else (some false)) else (some false)) else (some false))) else (if t110 = 4 then (some (t109.toList == ([] : List UInt8))) else (some false))) = some r := H
                    have A26 := Aside0.mk A260
                    clear A260
                    by_cases c27 : t111 = true
                    · subst c27
                      have H1 : ((gray_Read.f kj18 t109).bind fun bt112 => (if t110 = 0 then (if bt112.2 = 0 then (if bt112.1 = a0 then (some ((t109.size : Int) == 4)) else (some false)) else (some false)) else (some false))) = some r := by rw [if_pos rfl] at H; exact H
                      clear H
                      have H := H1
                      clear H1
                      replace H := Option.bind_eq_some_iff.mp H
                      obtain ⟨⟨t112, t113⟩, A280, H⟩ := H
                      replace H : (if t110 = 0 then (if t113 = 0 then (if t112 = a0 then (some ((t109.size : Int) == 4)) else (some false)) else (some false)) else (some false)) = some r := H
                      have A28 := Aside0.mk A280
                      clear A280
                      by_cases c29 : t110 = 0
                      · rw [if_pos c29] at H
                        have c29b0 : (t110 == 0) = true := beq_iff_eq.mpr c29
                        have c29b1 : (t110 != 0) = false := bne_eq_false_iff_eq.mpr c29
                        clear c29
                        by_cases c30 : t113 = 0
                        · rw [if_pos c30] at H
                          have c30b0 : (t113 == 0) = true := beq_iff_eq.mpr c30
                          have c30b1 : (t113 != 0) = false := bne_eq_false_iff_eq.mpr c30
                          clear c30
                          by_cases c31 : t112 = a0
                          · rw [if_pos c31] at H
                            have c31b0 : (t112 == a0) = true := beq_iff_eq.mpr c31
                            have c31b1 : (t112 != a0) = false := bne_eq_false_iff_eq.mpr c31
                            clear c31
                            obtain rfl := Option.some.inj H
                            go_wp2_with (first | ((with_reducible refine gate_callee (f := 15) rfl ?_); refine goesL_ (some 84) rfl rfl Try.func15 (by kernel_rfl) rfl #[.int .i64 a0] rfl (by (try simp only [List.map_toArray, List.map_cons, List.map_nil]); first | done | rfl | (simp only [List.length_drop, List.length_take]; rfl)) ?_; (with_reducible refine (gray_Octal.calls a0 t109 t110 _ A25.out).mono ?_); rintro e w32 ⟨rfl, hb⟩; refine ⟨_, rfl, ?_⟩; have n0_ := Aside0.mk (below_step (by repeat (first | (with_reducible first | exact HB.out | apply below_alloc | apply pw_below_drewN | apply below_drew1) | exact HB.out)) hb); clear HB; have HB := n0_; clear n0_; (try clear hb); (try clear hb2); (try clear hk); (try clear hi)) | ((with_reducible refine gate_callee (f := 17) rfl ?_); refine goesL_ (some 88) rfl rfl Try.func17 (by kernel_rfl) rfl #[.int .i64 a0, .int .i64 0, .int .i64 4095] rfl (by (try simp only [List.map_toArray, List.map_cons, List.map_nil]); first | done | rfl | (simp only [List.length_drop, List.length_take]; rfl)) ?_; (with_reducible refine (skywayref2_In.calls a0 0 4095 true _ A26.out).mono ?_); rintro e w' ⟨rfl, ⟨nd, rfl⟩⟩; refine ⟨_, rfl, ?_⟩) | ((with_reducible refine gate_callee (f := 16) rfl ?_); refine goesL_ (some 98) rfl rfl Try.func16 (by kernel_rfl) rfl #[.string t109] rfl (by (try simp only [List.map_toArray, List.map_cons, List.map_nil]); first | done | rfl | (simp only [List.length_drop, List.length_take]; rfl)) ?_; (with_reducible refine (gray_Read.calls kj18 t109 t112 t113 _ A28.out).mono ?_); rintro e w' ⟨rfl, ⟨nd, rfl⟩⟩; refine ⟨_, rfl, ?_⟩))
                            go_ret
                            exact ⟨by first | rfl | (simp [errW_none, errW_some] <;> rfl) | (simp [*, errW_none, errW_some] <;> rfl), by repeat (first | (with_reducible first | exact HB.out | apply below_alloc | apply pw_below_drewN | apply below_drew1) | exact HB.out)⟩
                          · rw [if_neg c31] at H
                            have c31b0 : (t112 == a0) = false := beq_eq_false_iff_ne.mpr c31
                            have c31b1 : (t112 != a0) = true := bne_iff_ne.mpr c31
                            obtain rfl := Option.some.inj H
                            go_wp2_with (first | ((with_reducible refine gate_callee (f := 15) rfl ?_); refine goesL_ (some 84) rfl rfl Try.func15 (by kernel_rfl) rfl #[.int .i64 a0] rfl (by (try simp only [List.map_toArray, List.map_cons, List.map_nil]); first | done | rfl | (simp only [List.length_drop, List.length_take]; rfl)) ?_; (with_reducible refine (gray_Octal.calls a0 t109 t110 _ A25.out).mono ?_); rintro e w33 ⟨rfl, hb⟩; refine ⟨_, rfl, ?_⟩; have n0_ := Aside0.mk (below_step (by repeat (first | (with_reducible first | exact HB.out | apply below_alloc | apply pw_below_drewN | apply below_drew1) | exact HB.out)) hb); clear HB; have HB := n0_; clear n0_; (try clear hb); (try clear hb2); (try clear hk); (try clear hi)) | ((with_reducible refine gate_callee (f := 17) rfl ?_); refine goesL_ (some 88) rfl rfl Try.func17 (by kernel_rfl) rfl #[.int .i64 a0, .int .i64 0, .int .i64 4095] rfl (by (try simp only [List.map_toArray, List.map_cons, List.map_nil]); first | done | rfl | (simp only [List.length_drop, List.length_take]; rfl)) ?_; (with_reducible refine (skywayref2_In.calls a0 0 4095 true _ A26.out).mono ?_); rintro e w' ⟨rfl, ⟨nd, rfl⟩⟩; refine ⟨_, rfl, ?_⟩) | ((with_reducible refine gate_callee (f := 16) rfl ?_); refine goesL_ (some 98) rfl rfl Try.func16 (by kernel_rfl) rfl #[.string t109] rfl (by (try simp only [List.map_toArray, List.map_cons, List.map_nil]); first | done | rfl | (simp only [List.length_drop, List.length_take]; rfl)) ?_; (with_reducible refine (gray_Read.calls kj18 t109 t112 t113 _ A28.out).mono ?_); rintro e w' ⟨rfl, ⟨nd, rfl⟩⟩; refine ⟨_, rfl, ?_⟩))
                            go_ret
                            exact ⟨by first | rfl | (simp [errW_none, errW_some] <;> rfl) | (simp [*, errW_none, errW_some] <;> rfl), by repeat (first | (with_reducible first | exact HB.out | apply below_alloc | apply pw_below_drewN | apply below_drew1) | exact HB.out)⟩
                        · rw [if_neg c30] at H
                          have c30b0 : (t113 == 0) = false := beq_eq_false_iff_ne.mpr c30
                          have c30b1 : (t113 != 0) = true := bne_iff_ne.mpr c30
                          obtain rfl := Option.some.inj H
                          go_wp2_with (first | ((with_reducible refine gate_callee (f := 15) rfl ?_); refine goesL_ (some 84) rfl rfl Try.func15 (by kernel_rfl) rfl #[.int .i64 a0] rfl (by (try simp only [List.map_toArray, List.map_cons, List.map_nil]); first | done | rfl | (simp only [List.length_drop, List.length_take]; rfl)) ?_; (with_reducible refine (gray_Octal.calls a0 t109 t110 _ A25.out).mono ?_); rintro e w34 ⟨rfl, hb⟩; refine ⟨_, rfl, ?_⟩; have n0_ := Aside0.mk (below_step (by repeat (first | (with_reducible first | exact HB.out | apply below_alloc | apply pw_below_drewN | apply below_drew1) | exact HB.out)) hb); clear HB; have HB := n0_; clear n0_; (try clear hb); (try clear hb2); (try clear hk); (try clear hi)) | ((with_reducible refine gate_callee (f := 17) rfl ?_); refine goesL_ (some 88) rfl rfl Try.func17 (by kernel_rfl) rfl #[.int .i64 a0, .int .i64 0, .int .i64 4095] rfl (by (try simp only [List.map_toArray, List.map_cons, List.map_nil]); first | done | rfl | (simp only [List.length_drop, List.length_take]; rfl)) ?_; (with_reducible refine (skywayref2_In.calls a0 0 4095 true _ A26.out).mono ?_); rintro e w' ⟨rfl, ⟨nd, rfl⟩⟩; refine ⟨_, rfl, ?_⟩) | ((with_reducible refine gate_callee (f := 16) rfl ?_); refine goesL_ (some 98) rfl rfl Try.func16 (by kernel_rfl) rfl #[.string t109] rfl (by (try simp only [List.map_toArray, List.map_cons, List.map_nil]); first | done | rfl | (simp only [List.length_drop, List.length_take]; rfl)) ?_; (with_reducible refine (gray_Read.calls kj18 t109 t112 t113 _ A28.out).mono ?_); rintro e w' ⟨rfl, ⟨nd, rfl⟩⟩; refine ⟨_, rfl, ?_⟩))
                          go_ret
                          exact ⟨by first | rfl | (simp [errW_none, errW_some] <;> rfl) | (simp [*, errW_none, errW_some] <;> rfl), by repeat (first | (with_reducible first | exact HB.out | apply below_alloc | apply pw_below_drewN | apply below_drew1) | exact HB.out)⟩
                      · rw [if_neg c29] at H
                        have c29b0 : (t110 == 0) = false := beq_eq_false_iff_ne.mpr c29
                        have c29b1 : (t110 != 0) = true := bne_iff_ne.mpr c29
                        obtain rfl := Option.some.inj H
                        go_wp2_with (first | ((with_reducible refine gate_callee (f := 15) rfl ?_); refine goesL_ (some 84) rfl rfl Try.func15 (by kernel_rfl) rfl #[.int .i64 a0] rfl (by (try simp only [List.map_toArray, List.map_cons, List.map_nil]); first | done | rfl | (simp only [List.length_drop, List.length_take]; rfl)) ?_; (with_reducible refine (gray_Octal.calls a0 t109 t110 _ A25.out).mono ?_); rintro e w35 ⟨rfl, hb⟩; refine ⟨_, rfl, ?_⟩; have n0_ := Aside0.mk (below_step (by repeat (first | (with_reducible first | exact HB.out | apply below_alloc | apply pw_below_drewN | apply below_drew1) | exact HB.out)) hb); clear HB; have HB := n0_; clear n0_; (try clear hb); (try clear hb2); (try clear hk); (try clear hi)) | ((with_reducible refine gate_callee (f := 17) rfl ?_); refine goesL_ (some 88) rfl rfl Try.func17 (by kernel_rfl) rfl #[.int .i64 a0, .int .i64 0, .int .i64 4095] rfl (by (try simp only [List.map_toArray, List.map_cons, List.map_nil]); first | done | rfl | (simp only [List.length_drop, List.length_take]; rfl)) ?_; (with_reducible refine (skywayref2_In.calls a0 0 4095 true _ A26.out).mono ?_); rintro e w' ⟨rfl, ⟨nd, rfl⟩⟩; refine ⟨_, rfl, ?_⟩) | ((with_reducible refine gate_callee (f := 16) rfl ?_); refine goesL_ (some 98) rfl rfl Try.func16 (by kernel_rfl) rfl #[.string t109] rfl (by (try simp only [List.map_toArray, List.map_cons, List.map_nil]); first | done | rfl | (simp only [List.length_drop, List.length_take]; rfl)) ?_; (with_reducible refine (gray_Read.calls kj18 t109 t112 t113 _ A28.out).mono ?_); rintro e w' ⟨rfl, ⟨nd, rfl⟩⟩; refine ⟨_, rfl, ?_⟩))
                        go_ret
                        exact ⟨by first | rfl | (simp [errW_none, errW_some] <;> rfl) | (simp [*, errW_none, errW_some] <;> rfl), by repeat (first | (with_reducible first | exact HB.out | apply below_alloc | apply pw_below_drewN | apply below_drew1) | exact HB.out)⟩
                    · replace c27 := Bool.eq_false_iff.mpr c27
                      subst c27
                      have H1 : (if t110 = 4 then (some (t109.toList == ([] : List UInt8))) else (some false)) = some r := by rw [if_neg (show ¬ (false = true) by decide)] at H; exact H
                      clear H
                      have H := H1
                      clear H1
                      by_cases c36 : t110 = 4
                      · rw [if_pos c36] at H
                        have c36b0 : (t110 == 4) = true := beq_iff_eq.mpr c36
                        have c36b1 : (t110 != 4) = false := bne_eq_false_iff_eq.mpr c36
                        clear c36
                        obtain rfl := Option.some.inj H
                        go_wp2_with (first | ((with_reducible refine gate_callee (f := 15) rfl ?_); refine goesL_ (some 84) rfl rfl Try.func15 (by kernel_rfl) rfl #[.int .i64 a0] rfl (by (try simp only [List.map_toArray, List.map_cons, List.map_nil]); first | done | rfl | (simp only [List.length_drop, List.length_take]; rfl)) ?_; (with_reducible refine (gray_Octal.calls a0 t109 t110 _ A25.out).mono ?_); rintro e w37 ⟨rfl, hb⟩; refine ⟨_, rfl, ?_⟩; have n0_ := Aside0.mk (below_step (by repeat (first | (with_reducible first | exact HB.out | apply below_alloc | apply pw_below_drewN | apply below_drew1) | exact HB.out)) hb); clear HB; have HB := n0_; clear n0_; (try clear hb); (try clear hb2); (try clear hk); (try clear hi)) | ((with_reducible refine gate_callee (f := 17) rfl ?_); refine goesL_ (some 88) rfl rfl Try.func17 (by kernel_rfl) rfl #[.int .i64 a0, .int .i64 0, .int .i64 4095] rfl (by (try simp only [List.map_toArray, List.map_cons, List.map_nil]); first | done | rfl | (simp only [List.length_drop, List.length_take]; rfl)) ?_; (with_reducible refine (skywayref2_In.calls a0 0 4095 false _ A26.out).mono ?_); rintro e w' ⟨rfl, ⟨nd, rfl⟩⟩; refine ⟨_, rfl, ?_⟩))
                        go_ret
                        exact ⟨by first | rfl | (simp [errW_none, errW_some] <;> rfl) | (simp [*, errW_none, errW_some] <;> rfl), by repeat (first | (with_reducible first | exact HB.out | apply below_alloc | apply pw_below_drewN | apply below_drew1) | exact HB.out)⟩
                      · rw [if_neg c36] at H
                        have c36b0 : (t110 == 4) = false := beq_eq_false_iff_ne.mpr c36
                        have c36b1 : (t110 != 4) = true := bne_iff_ne.mpr c36
                        obtain rfl := Option.some.inj H
                        go_wp2_with (first | ((with_reducible refine gate_callee (f := 15) rfl ?_); refine goesL_ (some 84) rfl rfl Try.func15 (by kernel_rfl) rfl #[.int .i64 a0] rfl (by (try simp only [List.map_toArray, List.map_cons, List.map_nil]); first | done | rfl | (simp only [List.length_drop, List.length_take]; rfl)) ?_; (with_reducible refine (gray_Octal.calls a0 t109 t110 _ A25.out).mono ?_); rintro e w38 ⟨rfl, hb⟩; refine ⟨_, rfl, ?_⟩; have n0_ := Aside0.mk (below_step (by repeat (first | (with_reducible first | exact HB.out | apply below_alloc | apply pw_below_drewN | apply below_drew1) | exact HB.out)) hb); clear HB; have HB := n0_; clear n0_; (try clear hb); (try clear hb2); (try clear hk); (try clear hi)) | ((with_reducible refine gate_callee (f := 17) rfl ?_); refine goesL_ (some 88) rfl rfl Try.func17 (by kernel_rfl) rfl #[.int .i64 a0, .int .i64 0, .int .i64 4095] rfl (by (try simp only [List.map_toArray, List.map_cons, List.map_nil]); first | done | rfl | (simp only [List.length_drop, List.length_take]; rfl)) ?_; (with_reducible refine (skywayref2_In.calls a0 0 4095 false _ A26.out).mono ?_); rintro e w' ⟨rfl, ⟨nd, rfl⟩⟩; refine ⟨_, rfl, ?_⟩))
                        go_ret
                        exact ⟨by first | rfl | (simp [errW_none, errW_some] <;> rfl) | (simp [*, errW_none, errW_some] <;> rfl), by repeat (first | (with_reducible first | exact HB.out | apply below_alloc | apply pw_below_drewN | apply below_drew1) | exact HB.out)⟩

/-- THE ONE PURE STATEMENT of skywaylaw2_GrayOctals: yours. -/
def skywaylaw2_GrayOctals.Pure : Prop := ∀ (a0 : Int) (a1 : ByteArray), (Lit.int .i64 a0).wf = true → a1.size ≤ 140737488351232 → ∃ k, skywaylaw2_GrayOctals.f k a0 a1 = some true
theorem skywaylaw2_GrayOctals.walk (P : skywaylaw2_GrayOctals.Pure) (a0 : Int) (a1 : ByteArray) (w : World) (w0 : (Lit.int .i64 a0).wf = true) (w1 : a1.size ≤ 140737488351232) :
    Calls Try.prog 3 #[.int .i64 a0, .string a1] w fun e w' => e = .returned (.bool true) ∧ Below w.heap.size w w' := by
  obtain ⟨k, h⟩ := P a0 a1 w0 w1
  refine (skywaylaw2_GrayOctals.calls k a0 a1 true w h).mono ?_
  rintro e w' ⟨rfl, hd⟩
  exact ⟨rfl, hd⟩

end Go.Proofs.Ytlaaeighanknpaa.PGrayOctals
