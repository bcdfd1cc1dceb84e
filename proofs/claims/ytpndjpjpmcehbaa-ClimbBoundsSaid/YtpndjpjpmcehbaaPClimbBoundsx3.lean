-- PRINTED BY print.sh 35421559b90ae4d0a3588c463048766b98c2df88dd9212a6774a882060cdf62d: not written by this session
import Derived.Test.YtpndjpjpmcehbaaPClimbBoundsx0
import Derived.Test.YtpndjpjpmcehbaaPClimbBoundsx1
import Derived.Test.YtpndjpjpmcehbaaPClimbBoundsx2
namespace Go.Proofs.Ytpndjpjpmcehbaa.PClimbBounds
open Go.RowKit Go.Proofs.YtpndjpjpmcehbaaW.PrintWords Go.Proofs.YtpndjpjpmcehbaaW.PrintLast Go.Proofs.YtpndjpjpmcehbaaW.PrintMore
attribute [local go_sem] max2_int min2_int max_two min_two max_three min_three max_four min_four   -- for this text's walks alone
set_option linter.unusedVariables false
set_option linter.unusedSimpArgs false

/-! ### skywaylaw2_ClimbBounds: function 4 -/
mutual
def skywaylaw2_ClimbBounds.j0 : Nat → List (S40) → Int → Bool → Option (Bool)
  | 0, _, _, _ => none
  | k + 1, x0, x1, x43 => if x43 = true then (some false) else ((climb_Rates.f k x0).bind fun bt144 => ((climb_Heights.f k x0 x1).bind fun bt147 => ((skywayref2_ReportsError.f k x0).bind fun t150 => (if t150 = 0 then (skywaylaw2_ClimbBounds.l0 k x0 x1 bt144.1 bt144.2.1 bt144.2.2 bt147.1 bt147.2.1 bt147.2.2 (-3200) 3200 (x0.length : Int) 0) else ((climb_Check.f k x0).bind fun t151 => (if t151 = t150 then (if bt144.2.2 = t150 then (some (bt147.2.2 == t150)) else (some false)) else (some false)))))))
def skywaylaw2_ClimbBounds.l0 : Nat → List (S40) → Int → Int → Int → Int → Int → Int → Int → Int → Int → Int → Int → Option (Bool)
  | 0, _, _, _, _, _, _, _, _, _, _, _, _ => none
  | k + 1, x0, x1, x8, x9, x10, x11, x12, x13, x15, x16, x76, x77 => if x77 < x76 then (skywaylaw2_ClimbBounds.l1 k x0 x1 x8 x9 x10 x11 x12 x13 x15 x16 x77 x76 x77 x77 0) else (if x15 > x16 then (if x10 = 8 then (if x13 = 8 then (if x8 = 0 then (some (x9 == 0)) else (some false)) else (some false)) else (some false)) else (if x10 = 0 then (if x8 = x15 then (skywaylaw2_ClimbBounds.j3 k x0 x1 x11 x12 x13 x15 x16 (x9 != x16)) else (skywaylaw2_ClimbBounds.j3 k x0 x1 x11 x12 x13 x15 x16 true)) else (skywaylaw2_ClimbBounds.j3 k x0 x1 x11 x12 x13 x15 x16 true)))
def skywaylaw2_ClimbBounds.l1 : Nat → List (S40) → Int → Int → Int → Int → Int → Int → Int → Int → Int → Int → Int → Int → Int → Int → Option (Bool)
  | 0, _, _, _, _, _, _, _, _, _, _, _, _, _, _, _ => none
  | k + 1, x0, x1, x8, x9, x10, x11, x12, x13, x15, x16, x17, x76, x77, x80, x81 => if x81 < x80 then (if 0 ≤ x17 then (if x17 < (x0.length : Int) then (if 0 ≤ x81 then (if x81 < (x0.length : Int) then ((skywayref2_Down.f (wrap64 ((wrap64 (16 * (wrap64 ((wrap64 (100 * ((rd_T40 x0 x17).f1))) - (wrap64 (100 * ((rd_T40 x0 x81).f1))))))) - 1584)) (wrap64 (((rd_T40 x0 x17).f0) - ((rd_T40 x0 x81).f0)))).bind fun t156 => ((skywayref2_Up.f (wrap64 ((wrap64 (16 * (wrap64 ((wrap64 (100 * ((rd_T40 x0 x17).f1))) - (wrap64 (100 * ((rd_T40 x0 x81).f1))))))) + 1584)) (wrap64 (((rd_T40 x0 x17).f0) - ((rd_T40 x0 x81).f0)))).bind fun t157 => (skywaylaw2_ClimbBounds.l1 k x0 x1 x8 x9 x10 x11 x12 x13 (mx x15 t156) (mn x16 t157) x17 x76 x77 x80 (wrap64 (x81 + 1))))) else (none)) else (none)) else (none)) else (none)) else (skywaylaw2_ClimbBounds.l0 k x0 x1 x8 x9 x10 x11 x12 x13 x15 x16 x76 (wrap64 (x77 + 1)))
def skywaylaw2_ClimbBounds.j3 : Nat → List (S40) → Int → Int → Int → Int → Int → Int → Bool → Option (Bool)
  | 0, _, _, _, _, _, _, _, _ => none
  | k + 1, x0, x1, x11, x12, x13, x15, x16, x152 => if x152 = true then (some false) else ((skywayref2_In.f x1 0 200000).bind fun t158 => (if t158 = true then (skywaylaw2_ClimbBounds.l2 k x1 x11 x12 x13 x15 x16 0 60000 x0 (x0.length : Int) 0) else (some (x13 == 4))))
def skywaylaw2_ClimbBounds.l2 : Nat → Int → Int → Int → Int → Int → Int → Int → Int → List (S40) → Int → Int → Option (Bool)
  | 0, _, _, _, _, _, _, _, _, _, _, _ => none
  | k + 1, x1, x11, x12, x13, x15, x16, x21, x22, x158, x159, x160 => if x160 < x159 then (if 0 ≤ x160 then (if x160 < (x158.length : Int) then ((skywayref2_Down.f (mn (wrap64 (x15 * (wrap64 (x1 - ((rd_T40 x158 x160).f0))))) (wrap64 (x16 * (wrap64 (x1 - ((rd_T40 x158 x160).f0)))))) 16).bind fun t161 => ((skywayref2_Up.f (mx (wrap64 (x15 * (wrap64 (x1 - ((rd_T40 x158 x160).f0))))) (wrap64 (x16 * (wrap64 (x1 - ((rd_T40 x158 x160).f0)))))) 16).bind fun t162 => (skywaylaw2_ClimbBounds.l2 k x1 x11 x12 x13 x15 x16 (mx x21 (wrap64 ((wrap64 (100 * ((rd_T40 x158 x160).f1))) + t161))) (mn x22 (wrap64 ((wrap64 ((wrap64 (100 * ((rd_T40 x158 x160).f1))) + 99)) + t162))) x158 x159 (wrap64 (x160 + 1))))) else (none)) else (none)) else (if x21 > x22 then (if x13 = 8 then (if x11 = 0 then (some (x12 == 0)) else (some false)) else (some false)) else (if x13 = 0 then (if x11 = x21 then (some (x12 == x22)) else (some false)) else (some false)))
end
def skywaylaw2_ClimbBounds.f (k : Nat) (l0 : List (S40)) (a1 : Int) : Option (Bool) := (climb_Rates.f k (([(⟨0, 10⟩ : S40), (⟨100, 20⟩ : S40)] : List (S40)))).bind fun bt141 => (if bt141.2.2 = 0 then (if bt141.1 = 144 then (skywaylaw2_ClimbBounds.j0 k l0 a1 (bt141.2.1 != 176)) else (skywaylaw2_ClimbBounds.j0 k l0 a1 true)) else (skywaylaw2_ClimbBounds.j0 k l0 a1 true))
theorem skywaylaw2_ClimbBounds.mono_l : ∀ k, (∀ y0 y1 y2, LeO (skywaylaw2_ClimbBounds.j0 k y0 y1 y2) (skywaylaw2_ClimbBounds.j0 (k + 1) y0 y1 y2)) ∧ (∀ y0 y1 y2 y3 y4 y5 y6 y7 y8 y9 y10 y11, LeO (skywaylaw2_ClimbBounds.l0 k y0 y1 y2 y3 y4 y5 y6 y7 y8 y9 y10 y11) (skywaylaw2_ClimbBounds.l0 (k + 1) y0 y1 y2 y3 y4 y5 y6 y7 y8 y9 y10 y11)) ∧ (∀ y0 y1 y2 y3 y4 y5 y6 y7 y8 y9 y10 y11 y12 y13 y14, LeO (skywaylaw2_ClimbBounds.l1 k y0 y1 y2 y3 y4 y5 y6 y7 y8 y9 y10 y11 y12 y13 y14) (skywaylaw2_ClimbBounds.l1 (k + 1) y0 y1 y2 y3 y4 y5 y6 y7 y8 y9 y10 y11 y12 y13 y14)) ∧ (∀ y0 y1 y2 y3 y4 y5 y6 y7, LeO (skywaylaw2_ClimbBounds.j3 k y0 y1 y2 y3 y4 y5 y6 y7) (skywaylaw2_ClimbBounds.j3 (k + 1) y0 y1 y2 y3 y4 y5 y6 y7)) ∧ (∀ y0 y1 y2 y3 y4 y5 y6 y7 y8 y9 y10, LeO (skywaylaw2_ClimbBounds.l2 k y0 y1 y2 y3 y4 y5 y6 y7 y8 y9 y10) (skywaylaw2_ClimbBounds.l2 (k + 1) y0 y1 y2 y3 y4 y5 y6 y7 y8 y9 y10))
  | 0 => ⟨fun _ _ _ r h => by simp [skywaylaw2_ClimbBounds.j0] at h, fun _ _ _ _ _ _ _ _ _ _ _ _ r h => by simp [skywaylaw2_ClimbBounds.l0] at h, fun _ _ _ _ _ _ _ _ _ _ _ _ _ _ _ r h => by simp [skywaylaw2_ClimbBounds.l1] at h, fun _ _ _ _ _ _ _ _ r h => by simp [skywaylaw2_ClimbBounds.j3] at h, fun _ _ _ _ _ _ _ _ _ _ _ r h => by simp [skywaylaw2_ClimbBounds.l2] at h⟩
  | k + 1 => by
    obtain ⟨ih0, ih1, ih2, ih3, ih4⟩ := skywaylaw2_ClimbBounds.mono_l k
    refine ⟨?_, ?_, ?_, ?_, ?_⟩
    · intro y0 y1 y2
      unfold skywaylaw2_ClimbBounds.j0
      repeat' first
      | (with_reducible exact ih0 _ _ _)
      | (with_reducible exact ih1 _ _ _ _ _ _ _ _ _ _ _ _)
      | (with_reducible exact ih2 _ _ _ _ _ _ _ _ _ _ _ _ _ _ _)
      | (with_reducible exact ih3 _ _ _ _ _ _ _ _)
      | (with_reducible exact ih4 _ _ _ _ _ _ _ _ _ _ _)
      | (with_reducible exact climb_Check.mono _ _)
      | (with_reducible exact climb_Heights.mono _ _ _)
      | (with_reducible exact climb_Rates.mono _ _)
      | (with_reducible exact skywayref2_ReportsError.mono _ _)
      | (with_reducible exact LeO.refl _)
      | (with_reducible exact LeO.none _)
      | (with_reducible refine LeO.ite ?_ ?_)
      | (with_reducible refine LeO.bind ?_ (fun _ => ?_))
      | exact ih0 _ _ _
      | exact ih1 _ _ _ _ _ _ _ _ _ _ _ _
      | exact ih2 _ _ _ _ _ _ _ _ _ _ _ _ _ _ _
      | exact ih3 _ _ _ _ _ _ _ _
      | exact ih4 _ _ _ _ _ _ _ _ _ _ _
      | exact climb_Check.mono _ _
      | exact climb_Heights.mono _ _ _
      | exact climb_Rates.mono _ _
      | exact skywayref2_ReportsError.mono _ _
      | exact LeO.none _
      | refine LeO.ite ?_ ?_
      | refine LeO.bind ?_ (fun _ => ?_)
    · intro y0 y1 y2 y3 y4 y5 y6 y7 y8 y9 y10 y11
      unfold skywaylaw2_ClimbBounds.l0
      repeat' first
      | (with_reducible exact ih0 _ _ _)
      | (with_reducible exact ih1 _ _ _ _ _ _ _ _ _ _ _ _)
      | (with_reducible exact ih2 _ _ _ _ _ _ _ _ _ _ _ _ _ _ _)
      | (with_reducible exact ih3 _ _ _ _ _ _ _ _)
      | (with_reducible exact ih4 _ _ _ _ _ _ _ _ _ _ _)
      | (with_reducible exact climb_Check.mono _ _)
      | (with_reducible exact climb_Heights.mono _ _ _)
      | (with_reducible exact climb_Rates.mono _ _)
      | (with_reducible exact skywayref2_ReportsError.mono _ _)
      | (with_reducible exact LeO.refl _)
      | (with_reducible exact LeO.none _)
      | (with_reducible refine LeO.ite ?_ ?_)
      | (with_reducible refine LeO.bind ?_ (fun _ => ?_))
      | exact ih0 _ _ _
      | exact ih1 _ _ _ _ _ _ _ _ _ _ _ _
      | exact ih2 _ _ _ _ _ _ _ _ _ _ _ _ _ _ _
      | exact ih3 _ _ _ _ _ _ _ _
      | exact ih4 _ _ _ _ _ _ _ _ _ _ _
      | exact climb_Check.mono _ _
      | exact climb_Heights.mono _ _ _
      | exact climb_Rates.mono _ _
      | exact skywayref2_ReportsError.mono _ _
      | exact LeO.none _
      | refine LeO.ite ?_ ?_
      | refine LeO.bind ?_ (fun _ => ?_)
    · intro y0 y1 y2 y3 y4 y5 y6 y7 y8 y9 y10 y11 y12 y13 y14
      unfold skywaylaw2_ClimbBounds.l1
      repeat' first
      | (with_reducible exact ih0 _ _ _)
      | (with_reducible exact ih1 _ _ _ _ _ _ _ _ _ _ _ _)
      | (with_reducible exact ih2 _ _ _ _ _ _ _ _ _ _ _ _ _ _ _)
      | (with_reducible exact ih3 _ _ _ _ _ _ _ _)
      | (with_reducible exact ih4 _ _ _ _ _ _ _ _ _ _ _)
      | (with_reducible exact climb_Check.mono _ _)
      | (with_reducible exact climb_Heights.mono _ _ _)
      | (with_reducible exact climb_Rates.mono _ _)
      | (with_reducible exact skywayref2_ReportsError.mono _ _)
      | (with_reducible exact LeO.refl _)
      | (with_reducible exact LeO.none _)
      | (with_reducible refine LeO.ite ?_ ?_)
      | (with_reducible refine LeO.bind ?_ (fun _ => ?_))
      | exact ih0 _ _ _
      | exact ih1 _ _ _ _ _ _ _ _ _ _ _ _
      | exact ih2 _ _ _ _ _ _ _ _ _ _ _ _ _ _ _
      | exact ih3 _ _ _ _ _ _ _ _
      | exact ih4 _ _ _ _ _ _ _ _ _ _ _
      | exact climb_Check.mono _ _
      | exact climb_Heights.mono _ _ _
      | exact climb_Rates.mono _ _
      | exact skywayref2_ReportsError.mono _ _
      | exact LeO.none _
      | refine LeO.ite ?_ ?_
      | refine LeO.bind ?_ (fun _ => ?_)
    · intro y0 y1 y2 y3 y4 y5 y6 y7
      unfold skywaylaw2_ClimbBounds.j3
      repeat' first
      | (with_reducible exact ih0 _ _ _)
      | (with_reducible exact ih1 _ _ _ _ _ _ _ _ _ _ _ _)
      | (with_reducible exact ih2 _ _ _ _ _ _ _ _ _ _ _ _ _ _ _)
      | (with_reducible exact ih3 _ _ _ _ _ _ _ _)
      | (with_reducible exact ih4 _ _ _ _ _ _ _ _ _ _ _)
      | (with_reducible exact climb_Check.mono _ _)
      | (with_reducible exact climb_Heights.mono _ _ _)
      | (with_reducible exact climb_Rates.mono _ _)
      | (with_reducible exact skywayref2_ReportsError.mono _ _)
      | (with_reducible exact LeO.refl _)
      | (with_reducible exact LeO.none _)
      | (with_reducible refine LeO.ite ?_ ?_)
      | (with_reducible refine LeO.bind ?_ (fun _ => ?_))
      | exact ih0 _ _ _
      | exact ih1 _ _ _ _ _ _ _ _ _ _ _ _
      | exact ih2 _ _ _ _ _ _ _ _ _ _ _ _ _ _ _
      | exact ih3 _ _ _ _ _ _ _ _
      | exact ih4 _ _ _ _ _ _ _ _ _ _ _
      | exact climb_Check.mono _ _
      | exact climb_Heights.mono _ _ _
      | exact climb_Rates.mono _ _
      | exact skywayref2_ReportsError.mono _ _
      | exact LeO.none _
      | refine LeO.ite ?_ ?_
      | refine LeO.bind ?_ (fun _ => ?_)
    · intro y0 y1 y2 y3 y4 y5 y6 y7 y8 y9 y10
      unfold skywaylaw2_ClimbBounds.l2
      repeat' first
      | (with_reducible exact ih0 _ _ _)
      | (with_reducible exact ih1 _ _ _ _ _ _ _ _ _ _ _ _)
      | (with_reducible exact ih2 _ _ _ _ _ _ _ _ _ _ _ _ _ _ _)
      | (with_reducible exact ih3 _ _ _ _ _ _ _ _)
      | (with_reducible exact ih4 _ _ _ _ _ _ _ _ _ _ _)
      | (with_reducible exact climb_Check.mono _ _)
      | (with_reducible exact climb_Heights.mono _ _ _)
      | (with_reducible exact climb_Rates.mono _ _)
      | (with_reducible exact skywayref2_ReportsError.mono _ _)
      | (with_reducible exact LeO.refl _)
      | (with_reducible exact LeO.none _)
      | (with_reducible refine LeO.ite ?_ ?_)
      | (with_reducible refine LeO.bind ?_ (fun _ => ?_))
      | exact ih0 _ _ _
      | exact ih1 _ _ _ _ _ _ _ _ _ _ _ _
      | exact ih2 _ _ _ _ _ _ _ _ _ _ _ _ _ _ _
      | exact ih3 _ _ _ _ _ _ _ _
      | exact ih4 _ _ _ _ _ _ _ _ _ _ _
      | exact climb_Check.mono _ _
      | exact climb_Heights.mono _ _ _
      | exact climb_Rates.mono _ _
      | exact skywayref2_ReportsError.mono _ _
      | exact LeO.none _
      | refine LeO.ite ?_ ?_
      | refine LeO.bind ?_ (fun _ => ?_)
theorem skywaylaw2_ClimbBounds.mono : ∀ a0 a1 k, LeO (skywaylaw2_ClimbBounds.f k a0 a1) (skywaylaw2_ClimbBounds.f (k + 1) a0 a1) := by
  intro a0 a1 k
  obtain ⟨ih0, ih1, ih2, ih3, ih4⟩ := skywaylaw2_ClimbBounds.mono_l k
  unfold skywaylaw2_ClimbBounds.f
  repeat' first
      | (with_reducible exact ih0 _ _ _)
      | (with_reducible exact ih1 _ _ _ _ _ _ _ _ _ _ _ _)
      | (with_reducible exact ih2 _ _ _ _ _ _ _ _ _ _ _ _ _ _ _)
      | (with_reducible exact ih3 _ _ _ _ _ _ _ _)
      | (with_reducible exact ih4 _ _ _ _ _ _ _ _ _ _ _)
      | (with_reducible exact climb_Check.mono _ _)
      | (with_reducible exact climb_Heights.mono _ _ _)
      | (with_reducible exact climb_Rates.mono _ _)
      | (with_reducible exact skywayref2_ReportsError.mono _ _)
      | (with_reducible exact LeO.refl _)
      | (with_reducible exact LeO.none _)
      | (with_reducible refine LeO.ite ?_ ?_)
      | (with_reducible refine LeO.bind ?_ (fun _ => ?_))
      | exact ih0 _ _ _
      | exact ih1 _ _ _ _ _ _ _ _ _ _ _ _
      | exact ih2 _ _ _ _ _ _ _ _ _ _ _ _ _ _ _
      | exact ih3 _ _ _ _ _ _ _ _
      | exact ih4 _ _ _ _ _ _ _ _ _ _ _
      | exact climb_Check.mono _ _
      | exact climb_Heights.mono _ _ _
      | exact climb_Rates.mono _ _
      | exact skywayref2_ReportsError.mono _ _
      | exact LeO.none _
      | refine LeO.ite ?_ ?_
      | refine LeO.bind ?_ (fun _ => ?_)
def skywaylaw2_ClimbBounds.T16 : Bool × List (List Nat × List Nat) := (true, [([], []), ([], []), ([0, 1], [0, 1]), ([2], [2]), ([3], [3]), ([], []), ([], []), ([5, 6], [5, 6]), ([7], [7]), ([8], [8]), ([4, 9], [4, 9]), ([], []), ([], []), ([11, 12], [11, 12]), ([13], [13]), ([14], [14]), ([15], [15]), ([], []), ([], []), ([17, 18], [17, 18]), ([19], [19]), ([20], [20]), ([21], [21]), ([16, 22], [16, 22]), ([10, 0, 1, 2, 3, 4, 5, 6, 7, 8, 9, 10], [10]), ([23, 24, 0, 1, 2, 3, 4, 5, 6, 7, 8, 9, 10, 11, 12, 13, 14, 15, 16, 17, 18, 19, 20, 21, 22, 23, 24], [23])])
def skywaylaw2_ClimbBounds.B16 : List Nat := [0, 0, 3, 7, 15, 0, 0, 96, 224, 480, 1023, 0, 0, 6144, 14336, 30720, 63488, 0, 0, 393216, 917504, 1966080, 4063232, 8386560, 2047, 33554431]
theorem skywaylaw2_ClimbBounds.tab16 : rtab .any (opsOf Try.f4 16) = skywaylaw2_ClimbBounds.T16 := by kernel_rfl
theorem skywaylaw2_ClimbBounds.bits16 : waitsOk skywaylaw2_ClimbBounds.T16.2 skywaylaw2_ClimbBounds.B16 = true := by kernel_rfl
def skywaylaw2_ClimbBounds.T31 : Bool × List (List Nat × List Nat) := (true, [([], []), ([], []), ([1], [1]), ([2], [2]), ([], []), ([], []), ([4, 5], [4, 5]), ([], []), ([], []), ([7, 8], [7, 8]), ([6, 9], [6, 9]), ([10], [10]), ([3, 11], [3, 11]), ([0, 12], [0, 12]), ([], []), ([], []), ([15], [15]), ([16], [16]), ([17], [17]), ([], []), ([], []), ([19, 20], [19, 20]), ([], []), ([], []), ([22, 23], [22, 23]), ([21, 24], [21, 24]), ([25, 11], [25]), ([18, 26], [18, 26]), ([14, 27], [14, 27]), ([13, 26, 0, 1, 2, 3, 4, 5, 6, 7, 8, 9, 10, 11, 12, 13], [0, 13]), ([28, 29, 0, 1, 2, 3, 4, 5, 6, 7, 8, 9, 10, 11, 12, 13, 14, 15, 16, 17, 18, 19, 20, 21, 22, 23, 24, 25, 26, 27, 28, 29], [14, 28])])
def skywaylaw2_ClimbBounds.B31 : List Nat := [0, 0, 2, 6, 0, 0, 48, 0, 0, 384, 1008, 2032, 4094, 8191, 0, 0, 32768, 98304, 229376, 0, 0, 1572864, 0, 0, 12582912, 33030144, 66588656, 134189040, 268423152, 133709823, 1073741823]
theorem skywaylaw2_ClimbBounds.tab31 : rtab .any (opsOf Try.f4 31) = skywaylaw2_ClimbBounds.T31 := by kernel_rfl
theorem skywaylaw2_ClimbBounds.bits31 : waitsOk skywaylaw2_ClimbBounds.T31.2 skywaylaw2_ClimbBounds.B31 = true := by kernel_rfl
set_option maxHeartbeats 8000000 in
set_option maxRecDepth 100000 in
theorem skywaylaw2_ClimbBounds.calls (k : Nat) (A0 : Option Addr) (c0 : Nat) (l0 : List (S40)) (a1 : Int) (r : Bool) (w : World) (hr0 : Kd.C k40 w A0 l0.length l0) (hc0 : l0.length ≤ c0) (h : skywaylaw2_ClimbBounds.f k l0 a1 = some r) :
    Calls Try.prog 4 #[.slice A0 l0.length c0, .int .i64 a1] w fun e w' => e = .returned (.bool r) ∧ Below w.heap.size w w' := by
  have hu40 := Try.underlying40
  have HR0 := Aside0.mk hr0
  have HC0 := Aside0.mk hc0
  clear hr0 hc0
  have HB := Aside0.mk (Below.refl w.heap.size w)
  have H : ((climb_Rates.f k (([(⟨0, 10⟩ : S40), (⟨100, 20⟩ : S40)] : List (S40)))).bind fun bt141 => (if bt141.2.2 = 0 then (if bt141.1 = 144 then (skywaylaw2_ClimbBounds.j0 k l0 a1 (bt141.2.1 != 176)) else (skywaylaw2_ClimbBounds.j0 k l0 a1 true)) else (skywaylaw2_ClimbBounds.j0 k l0 a1 true))) = some r := h
  clear h
  obtain ⟨y138, hy138⟩ : ∃ y_ : List (S40), y_ = (([(⟨0, 10⟩ : S40), (⟨100, 20⟩ : S40)] : List (S40))) := ⟨_, rfl⟩
  replace H : ((climb_Rates.f k y138).bind fun bt141 => (if bt141.2.2 = 0 then (if bt141.1 = 144 then (skywaylaw2_ClimbBounds.j0 k l0 a1 (bt141.2.1 != 176)) else (skywaylaw2_ClimbBounds.j0 k l0 a1 true)) else (skywaylaw2_ClimbBounds.j0 k l0 a1 true))) = some r := by first | (rw [hy138]; with_reducible exact H) | (have H2_ := (Option.bind_some _ _).symm.trans H; rw [hy138]; with_reducible exact H2_) | (have H2_ := (Option.bind_some _ _).symm.trans H; with_reducible exact H2_) | with_reducible exact H | (rw [hy138]; exact H) | exact H
  have Ny138 := Aside0.mk hy138
  clear hy138
  replace H := Option.bind_eq_some_iff.mp H
  obtain ⟨⟨t141, t142, t143⟩, A30, H⟩ := H
  replace H : (if t143 = 0 then (if t141 = 144 then (skywaylaw2_ClimbBounds.j0 k l0 a1 (t142 != 176)) else (skywaylaw2_ClimbBounds.j0 k l0 a1 true)) else (skywaylaw2_ClimbBounds.j0 k l0 a1 true)) = some r := H
  have A3 := Aside0.mk A30
  clear A30
  have HC4 := Aside0.mk H
  clear H
  go_enter Try.func4, Try.ntmps4
  go_upto_region 2 with (first | ((with_reducible refine gate_dst (N := 29) rfl ?_); refine Kd.R_lit k40 _ 40 ?hg (N := 29) ?hd (xs := ([(⟨0, 10⟩ : S40), (⟨100, 20⟩ : S40)] : List (S40))) (inner := [.int .i64 0, .int .i64 10, .int .i64 100, .int .i64 20]) (ok := fun _ => True) (okp := fun _ => True) ?hr ?hp (fun _ hk => hk) trivial (Below.refl _ _) (Nat.le_refl _) (by simp) ?_; (case hd => rfl); (case hg => rfl); (case hr => first | (go_simp; done) | (go_simp; rfl)); (case hp => exact (Reps.c2 (show Kd.M k40 _ _ _ (⟨0, 10⟩ : S40) [.int .i64 0, .int .i64 10] from (k40_mkM _ _ _ (⟨0, 10⟩ : S40) )) (Reps.c2 (show Kd.M k40 _ _ _ (⟨100, 20⟩ : S40) [.int .i64 100, .int .i64 20] from (k40_mkM _ _ _ (⟨100, 20⟩ : S40) )) (Reps.none _ _)))); intro v139 w5 ho6 hb hg_ hnew_; clear hg_ hnew_; (first | rw [← Ny138.out] at ho6 | (simp only [Int.reduceToNat] at ho6; rw [← Ny138.out] at ho6)); have n0_ := Aside0.mk (Kd.R_lower ho6 (below_size (by repeat (first | (with_reducible first | exact HB.out | apply below_alloc | apply pw_below_drewN | apply below_drew1) | exact HB.out)))); have n1_ := Aside0.mk (below_step (by repeat (first | (with_reducible first | exact HB.out | apply below_alloc | apply pw_below_drewN | apply below_drew1) | exact HB.out)) hb); clear HB; have HO140 := n0_; have HB := n1_; clear n0_ n1_; clear hb ho6; obtain ⟨Ao7, co7, eo7⟩ := Kd.R_slice HO140.out; subst eo7) | ((with_reducible refine gate_callee (f := 22) rfl ?_); refine goesL_ (some 30) rfl rfl Try.func22 (by kernel_rfl) rfl #[.slice Ao7 y138.length co7] rfl (by (try simp only [List.map_toArray, List.map_cons, List.map_nil]); first | done | rfl | (simp only [List.length_drop, List.length_take]; rfl)) ?_; (with_reducible refine (climb_Rates.calls k _ _ y138 t141 t142 t143 _ ?side1 ?side2 A3.out).mono ?_); (case side1 => repeat (first | exact (Kd.R_reads' HO140.out).2.2 | (with_reducible refine Kd.C_alloc ?_ _) | (with_reducible refine Kd.C_drewN ?_ _) | (with_reducible refine Kd.C_drew ?_))); (case side2 => exact (Kd.R_reads' HO140.out).2.1); rintro e w8 ⟨rfl, hb⟩; refine ⟨_, rfl, ?_⟩; have n0_ := Aside0.mk (Kd.R_below (by (with_reducible repeat (first | apply Kd.R_alloc | apply Kd.R_drewN | apply Kd.R_drew)); exact HO140.out) hb); have n1_ := Aside0.mk (below_step (by repeat (first | (with_reducible first | exact HB.out | apply below_alloc | apply pw_below_drewN | apply below_drew1) | exact HB.out)) hb); clear HO140; clear HB; have HO140 := n0_; have HB := n1_; clear n0_ n1_; (try clear hb); (try clear hb2); (try clear hk); (try clear hi)))
  (try simp only [Act.put, List.setIfInBounds_toArray, List.set_cons_zero, List.set_cons_succ])
  go_cut [43] (fun v43 wc => ∃ (kq : Nat) (x43_3 : Bool), v43 = .bool x43_3 ∧ Aside0 (skywaylaw2_ClimbBounds.j0 kq l0 a1 x43_3 = some r) ∧ Aside0 (kq ≤ k) ∧ Aside0 (Below w.heap.size w wc))
  case first =>
    have H := HC4.out
    clear HC4
    by_cases c9 : t143 = 0
    · rw [if_pos c9] at H
      have c9b0 : (t143 == 0) = true := beq_iff_eq.mpr c9
      have c9b1 : (t143 != 0) = false := bne_eq_false_iff_eq.mpr c9
      clear c9
      (first | rw [c9b0] | (simp only [i64_w, i32_w]; rw [c9b0]) | skip)
      by_cases c10 : t141 = 144
      · rw [if_pos c10] at H
        have c10b0 : (t141 == 144) = true := beq_iff_eq.mpr c10
        have c10b1 : (t141 != 144) = false := bne_eq_false_iff_eq.mpr c10
        clear c10
        have H' := Aside0.mk H
        clear H
        go_wp2
        go_meet
        case rel => exact ⟨_, ((t142 != 176)), (by first | rfl | (simp; done) | (simp [*]; done)), H', ⟨by first | omega | exact Nat.le_refl _⟩, ⟨by repeat (first | (with_reducible first | exact HB.out | apply below_alloc | apply pw_below_drewN | apply below_drew1) | exact HB.out)⟩⟩
      · rw [if_neg c10] at H
        have c10b0 : (t141 == 144) = false := beq_eq_false_iff_ne.mpr c10
        have c10b1 : (t141 != 144) = true := bne_iff_ne.mpr c10
        have H' := Aside0.mk H
        clear H
        go_wp2
        go_meet
        case rel => exact ⟨_, (true), (by first | rfl | (simp; done) | (simp [*]; done)), H', ⟨by first | omega | exact Nat.le_refl _⟩, ⟨by repeat (first | (with_reducible first | exact HB.out | apply below_alloc | apply pw_below_drewN | apply below_drew1) | exact HB.out)⟩⟩
    · rw [if_neg c9] at H
      have c9b0 : (t143 == 0) = false := beq_eq_false_iff_ne.mpr c9
      have c9b1 : (t143 != 0) = true := bne_iff_ne.mpr c9
      (first | rw [c9b0] | (simp only [i64_w, i32_w]; rw [c9b0]) | skip)
      have H' := Aside0.mk H
      clear H
      go_wp2
      go_meet
      case rel => exact ⟨_, (true), (by first | rfl | (simp; done) | (simp [*]; done)), H', ⟨by first | omega | exact Nat.le_refl _⟩, ⟨by repeat (first | (with_reducible first | exact HB.out | apply below_alloc | apply pw_below_drewN | apply below_drew1) | exact HB.out)⟩⟩
  case rest =>
    clear HC4
    try clear c1
    try clear c2
    try clear p2
    try clear c4
    try clear c9
    try clear c9b0
    try clear c9b1
    try clear c10
    try clear c10b0
    try clear c10b1
    obtain ⟨kq, x43_3, rfl, HA, HJ3, HB⟩ := hcut
    cases kq with
    | zero => exact absurd HA.out (by simp [skywaylaw2_ClimbBounds.j0])
    | succ kj3 =>
      have H := HA.out
      clear HA
      simp only [skywaylaw2_ClimbBounds.j0] at H
      by_cases c11 : x43_3 = true
      · subst c11
        have H1 : (some false) = some r := by rw [if_pos rfl] at H; exact H
        clear H
        have H := H1
        clear H1
        obtain rfl := Option.some.inj H
        go_wp2
        go_ret
        exact ⟨by first | rfl | (simp [errW_none, errW_some] <;> rfl) | (simp [*, errW_none, errW_some] <;> rfl), by repeat (first | (with_reducible first | exact HB.out | apply below_alloc | apply pw_below_drewN | apply below_drew1) | exact HB.out)⟩
      · replace c11 := Bool.eq_false_iff.mpr c11
        subst c11
        have H1 : ((climb_Rates.f kj3 l0).bind fun bt144 => ((climb_Heights.f kj3 l0 a1).bind fun bt147 => ((skywayref2_ReportsError.f kj3 l0).bind fun t150 => (if t150 = 0 then (skywaylaw2_ClimbBounds.l0 kj3 l0 a1 bt144.1 bt144.2.1 bt144.2.2 bt147.1 bt147.2.1 bt147.2.2 (-3200) 3200 (l0.length : Int) 0) else ((climb_Check.f kj3 l0).bind fun t151 => (if t151 = t150 then (if bt144.2.2 = t150 then (some (bt147.2.2 == t150)) else (some false)) else (some false))))))) = some r := by rw [if_neg (show ¬ (false = true) by decide)] at H; exact H
        clear H
        have H := H1
        clear H1
        replace H := Option.bind_eq_some_iff.mp H
        obtain ⟨⟨t144, t145, t146⟩, A120, H⟩ := H
        replace H : ((climb_Heights.f kj3 l0 a1).bind fun bt147 => ((skywayref2_ReportsError.f kj3 l0).bind fun t150 => (if t150 = 0 then (skywaylaw2_ClimbBounds.l0 kj3 l0 a1 t144 t145 t146 bt147.1 bt147.2.1 bt147.2.2 (-3200) 3200 (l0.length : Int) 0) else ((climb_Check.f kj3 l0).bind fun t151 => (if t151 = t150 then (if t146 = t150 then (some (bt147.2.2 == t150)) else (some false)) else (some false)))))) = some r := H
        have A12 := Aside0.mk A120
        clear A120
        replace H := Option.bind_eq_some_iff.mp H
        obtain ⟨⟨t147, t148, t149⟩, A130, H⟩ := H
        replace H : ((skywayref2_ReportsError.f kj3 l0).bind fun t150 => (if t150 = 0 then (skywaylaw2_ClimbBounds.l0 kj3 l0 a1 t144 t145 t146 t147 t148 t149 (-3200) 3200 (l0.length : Int) 0) else ((climb_Check.f kj3 l0).bind fun t151 => (if t151 = t150 then (if t146 = t150 then (some (t149 == t150)) else (some false)) else (some false))))) = some r := H
        have A13 := Aside0.mk A130
        clear A130
        replace H := Option.bind_eq_some_iff.mp H
        obtain ⟨t150, A140, H⟩ := H
        replace H : (if t150 = 0 then (skywaylaw2_ClimbBounds.l0 kj3 l0 a1 t144 t145 t146 t147 t148 t149 (-3200) 3200 (l0.length : Int) 0) else ((climb_Check.f kj3 l0).bind fun t151 => (if t151 = t150 then (if t146 = t150 then (some (t149 == t150)) else (some false)) else (some false)))) = some r := H
        have A14 := Aside0.mk A140
        clear A140
        by_cases c15 : t150 = 0
        · rw [if_pos c15] at H
          have c15b0 : (t150 == 0) = true := beq_iff_eq.mpr c15
          have c15b1 : (t150 != 0) = false := bne_eq_false_iff_eq.mpr c15
          clear c15
          have H' := Aside0.mk H
          clear H
          go_wp2_with (first | ((with_reducible refine gate_callee (f := 22) rfl ?_); refine goesL_ (some 46) rfl rfl Try.func22 (by kernel_rfl) rfl #[.slice A0 l0.length c0] rfl (by (try simp only [List.map_toArray, List.map_cons, List.map_nil]); first | done | rfl | (simp only [List.length_drop, List.length_take]; rfl)) ?_; (with_reducible refine (climb_Rates.calls kj3 _ _ l0 t144 t145 t146 _ ?side1 ?side2 A12.out).mono ?_); (case side1 => repeat (first | exact (Kd.C_below HR0.out HB.out) | (with_reducible refine Kd.C_alloc ?_ _) | (with_reducible refine Kd.C_drewN ?_ _) | (with_reducible refine Kd.C_drew ?_))); (case side2 => exact HC0.out); rintro e w16 ⟨rfl, hb⟩; refine ⟨_, rfl, ?_⟩; have n0_ := Aside0.mk (below_step (by repeat (first | (with_reducible first | exact HB.out | apply below_alloc | apply pw_below_drewN | apply below_drew1) | exact HB.out)) hb); clear HB; have HB := n0_; clear n0_; (try clear hb); (try clear hb2); (try clear hk); (try clear hi)) | ((with_reducible refine gate_callee (f := 23) rfl ?_); refine goesL_ (some 53) rfl rfl Try.func23 (by kernel_rfl) rfl #[.slice A0 l0.length c0, .int .i64 a1] rfl (by (try simp only [List.map_toArray, List.map_cons, List.map_nil]); first | done | rfl | (simp only [List.length_drop, List.length_take]; rfl)) ?_; (with_reducible refine (climb_Heights.calls kj3 _ _ l0 a1 t147 t148 t149 _ ?side1 ?side2 A13.out).mono ?_); (case side1 => repeat (first | exact (Kd.C_below HR0.out HB.out) | (with_reducible refine Kd.C_alloc ?_ _) | (with_reducible refine Kd.C_drewN ?_ _) | (with_reducible refine Kd.C_drew ?_))); (case side2 => exact HC0.out); rintro e w17 ⟨rfl, hb⟩; refine ⟨_, rfl, ?_⟩; have n0_ := Aside0.mk (below_step (by repeat (first | (with_reducible first | exact HB.out | apply below_alloc | apply pw_below_drewN | apply below_drew1) | exact HB.out)) hb); clear HB; have HB := n0_; clear n0_; (try clear hb); (try clear hb2); (try clear hk); (try clear hi)) | ((with_reducible refine gate_callee (f := 24) rfl ?_); refine goesL_ (some 58) rfl rfl Try.func24 (by kernel_rfl) rfl #[.slice A0 l0.length c0] rfl (by (try simp only [List.map_toArray, List.map_cons, List.map_nil]); first | done | rfl | (simp only [List.length_drop, List.length_take]; rfl)) ?_; (with_reducible refine (skywayref2_ReportsError.calls kj3 _ _ l0 t150 _ ?side1 ?side2 A14.out).mono ?_); (case side1 => repeat (first | exact (Kd.C_below HR0.out HB.out) | (with_reducible refine Kd.C_alloc ?_ _) | (with_reducible refine Kd.C_drewN ?_ _) | (with_reducible refine Kd.C_drew ?_))); (case side2 => exact HC0.out); rintro e w18 ⟨rfl, hb⟩; refine ⟨_, rfl, ?_⟩; have n0_ := Aside0.mk (below_step (by repeat (first | (with_reducible first | exact HB.out | apply below_alloc | apply pw_below_drewN | apply below_drew1) | exact HB.out)) hb); clear HB; have HB := n0_; clear n0_; (try clear hb); (try clear hb2); (try clear hk); (try clear hi)))
          go_loopg [15, 16, 77] kj3 (fun kq v15 v16 v77 w' => ∃ (x15_2 : Int) (x16_2 : Int) (x77_2 : Int), v15 = .int .i64 x15_2 ∧ v16 = .int .i64 x16_2 ∧ v77 = .int .i64 x77_2 ∧ Aside0 (skywaylaw2_ClimbBounds.l0 kq l0 a1 t144 t145 t146 t147 t148 t149 x15_2 x16_2 (l0.length : Int) x77_2 = some r) ∧ Aside0 (kq ≤ kj3) ∧ Aside0 (Below w.heap.size w w'))
          case atStart => exact ⟨((-3200)), (3200), (0), (by first | rfl | (simp; done) | (simp [*]; done)), (by first | rfl | (simp; done) | (simp [*]; done)), (by first | rfl | (simp; done) | (simp [*]; done)), H', ⟨Nat.le_refl _⟩, ⟨by repeat (first | (with_reducible first | exact HB.out | apply below_alloc | apply pw_below_drewN | apply below_drew1) | exact HB.out)⟩⟩
          case round =>
            clear H'
            try clear c1
            try clear c2
            try clear p2
            try clear c4
            try clear c9
            try clear c9b0
            try clear c9b1
            try clear c10
            try clear c10b0
            try clear c10b1
            try clear c11
            try clear c15
            try clear c15b0
            try clear c15b1
            try clear p2
            obtain ⟨x15_2, x16_2, x77_2, rfl, rfl, rfl, HA, HK2, HB⟩ := hrel
            cases gk with
            | zero => exact absurd HA.out (by simp [skywaylaw2_ClimbBounds.l0])
            | succ k2 =>
              have H := HA.out
              clear HA
              simp only [skywaylaw2_ClimbBounds.l0] at H
              by_cases c19 : x77_2 < (l0.length : Int)
              · rw [if_pos c19] at H
                have c19b0 : decide (x77_2 < (l0.length : Int)) = true := decide_eq_true c19
                clear c19
                have H' := Aside0.mk H
                clear H
                go_wp2
                go_loopg [15, 16, 81] k2 (fun kq v15 v16 v81 w' => ∃ (x15_3 : Int) (x16_3 : Int) (x81_3 : Int), v15 = .int .i64 x15_3 ∧ v16 = .int .i64 x16_3 ∧ v81 = .int .i64 x81_3 ∧ Aside0 (skywaylaw2_ClimbBounds.l1 kq l0 a1 t144 t145 t146 t147 t148 t149 x15_3 x16_3 x77_2 (l0.length : Int) x77_2 x77_2 x81_3 = some r) ∧ Aside0 (kq ≤ k2) ∧ Aside0 (Below w.heap.size w w'))
                case atStart => exact ⟨(x15_2), (x16_2), (0), (by first | rfl | (simp; done) | (simp [*]; done)), (by first | rfl | (simp; done) | (simp [*]; done)), (by first | rfl | (simp; done) | (simp [*]; done)), H', ⟨Nat.le_refl _⟩, ⟨by repeat (first | (with_reducible first | exact HB.out | apply below_alloc | apply pw_below_drewN | apply below_drew1) | exact HB.out)⟩⟩
                case round =>
                  clear H'
                  try clear c1
                  try clear c2
                  try clear p2
                  try clear c4
                  try clear c9
                  try clear c9b0
                  try clear c9b1
                  try clear c10
                  try clear c10b0
                  try clear c10b1
                  try clear c11
                  try clear c15
                  try clear c15b0
                  try clear c15b1
                  try clear c19
                  try clear c19b0
                  try clear p2
                  obtain ⟨x15_3, x16_3, x81_3, rfl, rfl, rfl, HA, HK3, HB⟩ := hrel
                  cases gk with
                  | zero => exact absurd HA.out (by simp [skywaylaw2_ClimbBounds.l1])
                  | succ k3 =>
                    have H := HA.out
                    clear HA
                    simp only [skywaylaw2_ClimbBounds.l1] at H
                    by_cases c20 : x81_3 < x77_2
                    · rw [if_pos c20] at H
                      have c20b0 : decide (x81_3 < x77_2) = true := decide_eq_true c20
                      clear c20
                      by_cases c21 : 0 ≤ x77_2
                      · rw [if_pos c21] at H
                        have c21b0 : decide (0 ≤ x77_2) = true := decide_eq_true c21
                        clear c21
                        by_cases c22 : x77_2 < (l0.length : Int)
                        · rw [if_pos c22] at H
                          have c22b0 : decide (x77_2 < (l0.length : Int)) = true := decide_eq_true c22
                          clear c22
                          by_cases c23 : 0 ≤ x81_3
                          · rw [if_pos c23] at H
                            have c23b0 : decide (0 ≤ x81_3) = true := decide_eq_true c23
                            clear c23
                            by_cases c24 : x81_3 < (l0.length : Int)
                            · rw [if_pos c24] at H
                              have c24b0 : decide (x81_3 < (l0.length : Int)) = true := decide_eq_true c24
                              clear c24
                              replace H := Option.bind_eq_some_iff.mp H
                              obtain ⟨t156, A250, H⟩ := H
                              replace H : ((skywayref2_Up.f (wrap64 ((wrap64 (16 * (wrap64 ((wrap64 (100 * ((rd_T40 l0 x77_2).f1))) - (wrap64 (100 * ((rd_T40 l0 x81_3).f1))))))) + 1584)) (wrap64 (((rd_T40 l0 x77_2).f0) - ((rd_T40 l0 x81_3).f0)))).bind fun t157 => (skywaylaw2_ClimbBounds.l1 k3 l0 a1 t144 t145 t146 t147 t148 t149 (mx x15_3 t156) (mn x16_3 t157) x77_2 (l0.length : Int) x77_2 x77_2 (wrap64 (x81_3 + 1)))) = some r := H
                              have A25 := Aside0.mk A250
                              clear A250
                              obtain ⟨ji26, hji26⟩ : ∃ j_ : Int, (mx x15_3 t156) = j_ := ⟨_, rfl⟩
                              replace H : ((skywayref2_Up.f (wrap64 ((wrap64 (16 * (wrap64 ((wrap64 (100 * ((rd_T40 l0 x77_2).f1))) - (wrap64 (100 * ((rd_T40 l0 x81_3).f1))))))) + 1584)) (wrap64 (((rd_T40 l0 x77_2).f0) - ((rd_T40 l0 x81_3).f0)))).bind fun t157 => (skywaylaw2_ClimbBounds.l1 k3 l0 a1 t144 t145 t146 t147 t148 t149 ji26 (mn x16_3 t157) x77_2 (l0.length : Int) x77_2 x77_2 (wrap64 (x81_3 + 1)))) = some r := by first | (rw [hji26] at H; exact H) | (simp only [hji26] at H ⊢; exact H)
                              (try rw [hji26] at A25)
                              have hji26_ : (if x15_3 < t156 then t156 else x15_3) = ji26 := hji26
                              replace H := Option.bind_eq_some_iff.mp H
                              obtain ⟨t157, A270, H⟩ := H
                              replace H : (skywaylaw2_ClimbBounds.l1 k3 l0 a1 t144 t145 t146 t147 t148 t149 ji26 (mn x16_3 t157) x77_2 (l0.length : Int) x77_2 x77_2 (wrap64 (x81_3 + 1))) = some r := H
                              have A27 := Aside0.mk A270
                              clear A270
                              obtain ⟨ji28, hji28⟩ : ∃ j_ : Int, (mn x16_3 t157) = j_ := ⟨_, rfl⟩
                              replace H : (skywaylaw2_ClimbBounds.l1 k3 l0 a1 t144 t145 t146 t147 t148 t149 ji26 ji28 x77_2 (l0.length : Int) x77_2 x77_2 (wrap64 (x81_3 + 1))) = some r := by first | (rw [hji28] at H; exact H) | (simp only [hji28] at H ⊢; exact H)
                              (try rw [hji28] at A25)
                              (try rw [hji28] at A27)
                              have hji28_ : (if t157 < x16_3 then t157 else x16_3) = ji28 := hji28
                              have H' := Aside0.mk H
                              clear H
                              try go_wp2
                              have n0_ := Aside0.mk (below_drew1 HB.out)
                              clear HB
                              have HB := n0_
                              clear n0_
                              have p152 : 0 ≤ (x77_2 : Int) := of_decide_eq_true (by first | (with_reducible assumption) | assumption)
                              have q152 : x77_2 < (l0.length : Int) := of_decide_eq_true (by first | (with_reducible assumption) | assumption)
                              obtain ⟨ad152, e152, hx152_0, hx152_1⟩ := at_T40 HR0.out x77_2 p152 q152
                              have hw152_1 := hx152_1
                              have hw152_0 := hx152_0
                              cases e152
                              replace hx152_0 := (HB.out.cell (World.block_lt_of_cell? w _ hx152_0)).trans hx152_0
                              replace hx152_1 := (HB.out.cell (World.block_lt_of_cell? w _ hx152_1)).trans hx152_1
                              replace p152 := eq_true p152
                              replace q152 := eq_true q152
                              have p153 : 0 ≤ (x81_3 : Int) := of_decide_eq_true (by first | (with_reducible assumption) | assumption)
                              have q153 : x81_3 < (l0.length : Int) := of_decide_eq_true (by first | (with_reducible assumption) | assumption)
                              obtain ⟨ad153, e153, hx153_0, hx153_1⟩ := at_T40 HR0.out x81_3 p153 q153
                              have hw153_1 := hx153_1
                              have hw153_0 := hx153_0
                              obtain rfl : ad152 = ad153 := (by injection e153)
                              replace hx153_0 := (HB.out.cell (World.block_lt_of_cell? w _ hx153_0)).trans hx153_0
                              replace hx153_1 := (HB.out.cell (World.block_lt_of_cell? w _ hx153_1)).trans hx153_1
                              replace p153 := eq_true p153
                              replace q153 := eq_true q153
                              have p154 : 0 ≤ (x77_2 : Int) := of_decide_eq_true (by first | (with_reducible assumption) | assumption)
                              have q154 : x77_2 < (l0.length : Int) := of_decide_eq_true (by first | (with_reducible assumption) | assumption)
                              obtain ⟨ad154, e154, hx154_0, hx154_1⟩ := at_T40 HR0.out x77_2 p154 q154
                              have hw154_1 := hx154_1
                              have hw154_0 := hx154_0
                              obtain rfl : ad152 = ad154 := (by injection e154)
                              replace hx154_0 := (HB.out.cell (World.block_lt_of_cell? w _ hx154_0)).trans hx154_0
                              replace hx154_1 := (HB.out.cell (World.block_lt_of_cell? w _ hx154_1)).trans hx154_1
                              replace p154 := eq_true p154
                              replace q154 := eq_true q154
                              have p155 : 0 ≤ (x81_3 : Int) := of_decide_eq_true (by first | (with_reducible assumption) | assumption)
                              have q155 : x81_3 < (l0.length : Int) := of_decide_eq_true (by first | (with_reducible assumption) | assumption)
                              obtain ⟨ad155, e155, hx155_0, hx155_1⟩ := at_T40 HR0.out x81_3 p155 q155
                              have hw155_1 := hx155_1
                              have hw155_0 := hx155_0
                              obtain rfl : ad152 = ad155 := (by injection e155)
                              replace hx155_0 := (HB.out.cell (World.block_lt_of_cell? w _ hx155_0)).trans hx155_0
                              replace hx155_1 := (HB.out.cell (World.block_lt_of_cell? w _ hx155_1)).trans hx155_1
                              replace p155 := eq_true p155
                              replace q155 := eq_true q155
                              refine start_ (n := 26) (S := fun w' => w'.cell? (ad152.add ((x77_2).toNat * 2)) = some (.int .i64 ((rd_T40 l0 x77_2).f0)) ∧ w'.cell? ⟨(ad152.add ((x77_2).toNat * 2)).block, (ad152.add ((x77_2).toNat * 2)).off + 1, none⟩ = some (.int .i64 ((rd_T40 l0 x77_2).f1)) ∧ w'.cell? (ad152.add ((x81_3).toNat * 2)) = some (.int .i64 ((rd_T40 l0 x81_3).f0)) ∧ w'.cell? ⟨(ad152.add ((x81_3).toNat * 2)).block, (ad152.add ((x81_3).toNat * 2)).off + 1, none⟩ = some (.int .i64 ((rd_T40 l0 x81_3).f1)) ∧ w'.cell? (ad152.add ((x77_2).toNat * 2)) = some (.int .i64 ((rd_T40 l0 x77_2).f0)) ∧ w'.cell? ⟨(ad152.add ((x77_2).toNat * 2)).block, (ad152.add ((x77_2).toNat * 2)).off + 1, none⟩ = some (.int .i64 ((rd_T40 l0 x77_2).f1)) ∧ w'.cell? (ad152.add ((x81_3).toNat * 2)) = some (.int .i64 ((rd_T40 l0 x81_3).f0)) ∧ w'.cell? ⟨(ad152.add ((x81_3).toNat * 2)).block, (ad152.add ((x81_3).toNat * 2)).off + 1, none⟩ = some (.int .i64 ((rd_T40 l0 x81_3).f1))) (ds := []) #[false, false, false, false, false, false, false, false, false, false, false, false, false, false, false, false, false, false, false, false, false, false, false, false, false, false] (by kernel_rfl) rfl rfl ⟨((HB.out.cell (World.block_lt_of_cell? w _ hw152_0)).trans hw152_0), ((HB.out.cell (World.block_lt_of_cell? w _ hw152_1)).trans hw152_1), ((HB.out.cell (World.block_lt_of_cell? w _ hw153_0)).trans hw153_0), ((HB.out.cell (World.block_lt_of_cell? w _ hw153_1)).trans hw153_1), ((HB.out.cell (World.block_lt_of_cell? w _ hw154_0)).trans hw154_0), ((HB.out.cell (World.block_lt_of_cell? w _ hw154_1)).trans hw154_1), ((HB.out.cell (World.block_lt_of_cell? w _ hw155_0)).trans hw155_0), ((HB.out.cell (World.block_lt_of_cell? w _ hw155_1)).trans hw155_1)⟩ (fun hHeld => ?_); refine with_tabW skywaylaw2_ClimbBounds.tab16 skywaylaw2_ClimbBounds.bits16 (fun HT_ HW_ => ?_)
                              generalize wr.drew = w29 at HB hx152_0 hx152_1 hx153_0 hx153_1 hx154_0 hx154_1 hx155_0 hx155_1 hHeld ⊢
                              refine pure_ (i := 0) (N := some 84) (v := ?_) (a' := ?_) #[true, false, false, false, false, false, false, false, false, false, false, false, false, false, false, false, false, false, false, false, false, false, false, false, false, false] rfl rfl (any_of HT_.out (by kernel_rfl)) (fun _ _ _ h => h) (Or.inl ⟨by rfl, ?_⟩) ?_ ?_
                              rotate_left
                              · intro w'
                                go_simp
                                with_reducible rfl
                              rotate_left
                              · simp only [Act.put, List.setIfInBounds_toArray, List.set_cons_zero, List.set_cons_succ, i64_w, i32_w]
                                rfl
                              refine pure_ (i := 1) (N := some 85) (v := ?_) (a' := ?_) #[true, true, false, false, false, false, false, false, false, false, false, false, false, false, false, false, false, false, false, false, false, false, false, false, false, false] rfl rfl (any_of HT_.out (by kernel_rfl)) (fun _ _ _ h => h) (Or.inl ⟨by rfl, ?_⟩) ?_ ?_
                              rotate_left
                              · intro w'
                                go_simp
                                with_reducible rfl
                              rotate_left
                              · simp only [Act.put, List.setIfInBounds_toArray, List.set_cons_zero, List.set_cons_succ, i64_w, i32_w]
                                rfl
                              refine pure_ (i := 2) (N := some 86) (v := ?_) (a' := ?_) #[true, true, true, false, false, false, false, false, false, false, false, false, false, false, false, false, false, false, false, false, false, false, false, false, false, false] rfl rfl (any_of HT_.out (by kernel_rfl)) (fun _ _ _ h => h) (Or.inl ⟨by rfl, ?_⟩) ?_ ?_
                              rotate_left
                              · intro w'
                                go_simp
                                with_reducible rfl
                              rotate_left
                              · simp only [Act.put, List.setIfInBounds_toArray, List.set_cons_zero, List.set_cons_succ, i64_w, i32_w]
                                rfl
                              refine pure_ (i := 3) (N := some 87) (v := ?_) (a' := ?_) #[true, true, true, true, false, false, false, false, false, false, false, false, false, false, false, false, false, false, false, false, false, false, false, false, false, false] rfl rfl (any_of HT_.out (by kernel_rfl)) (fun _ _ _ h => h) (Or.inl ⟨by rfl, ?_⟩) ?_ ?_
                              rotate_left
                              · intro w'
                                go_simp
                                with_reducible rfl
                              rotate_left
                              · simp only [Act.put, List.setIfInBounds_toArray, List.set_cons_zero, List.set_cons_succ, i64_w, i32_w]
                                rfl
                              refine pure_ (i := 5) (N := some 89) (v := ?_) (a' := ?_) #[true, true, true, true, false, true, false, false, false, false, false, false, false, false, false, false, false, false, false, false, false, false, false, false, false, false] rfl rfl (any_of HT_.out (by kernel_rfl)) (fun _ _ _ h => h) (Or.inl ⟨by rfl, ?_⟩) ?_ ?_
                              rotate_left
                              · intro w'
                                go_simp
                                with_reducible rfl
                              rotate_left
                              · simp only [Act.put, List.setIfInBounds_toArray, List.set_cons_zero, List.set_cons_succ, i64_w, i32_w]
                                rfl
                              refine pure_ (i := 6) (N := some 90) (v := ?_) (a' := ?_) #[true, true, true, true, false, true, true, false, false, false, false, false, false, false, false, false, false, false, false, false, false, false, false, false, false, false] rfl rfl (any_of HT_.out (by kernel_rfl)) (fun _ _ _ h => h) (Or.inl ⟨by rfl, ?_⟩) ?_ ?_
                              rotate_left
                              · intro w'
                                go_simp
                                with_reducible rfl
                              rotate_left
                              · simp only [Act.put, List.setIfInBounds_toArray, List.set_cons_zero, List.set_cons_succ, i64_w, i32_w]
                                rfl
                              refine pure_ (i := 7) (N := some 91) (v := ?_) (a' := ?_) #[true, true, true, true, false, true, true, true, false, false, false, false, false, false, false, false, false, false, false, false, false, false, false, false, false, false] rfl rfl (any_of HT_.out (by kernel_rfl)) (fun _ _ _ h => h) (Or.inl ⟨by rfl, ?_⟩) ?_ ?_
                              rotate_left
                              · intro w'
                                go_simp
                                with_reducible rfl
                              rotate_left
                              · simp only [Act.put, List.setIfInBounds_toArray, List.set_cons_zero, List.set_cons_succ, i64_w, i32_w]
                                rfl
                              refine pure_ (i := 8) (N := some 92) (v := ?_) (a' := ?_) #[true, true, true, true, false, true, true, true, true, false, false, false, false, false, false, false, false, false, false, false, false, false, false, false, false, false] rfl rfl (any_of HT_.out (by kernel_rfl)) (fun _ _ _ h => h) (Or.inl ⟨by rfl, ?_⟩) ?_ ?_
                              rotate_left
                              · intro w'
                                go_simp
                                with_reducible rfl
                              rotate_left
                              · simp only [Act.put, List.setIfInBounds_toArray, List.set_cons_zero, List.set_cons_succ, i64_w, i32_w]
                                rfl
                              refine pure_ (i := 11) (N := some 95) (v := ?_) (a' := ?_) #[true, true, true, true, false, true, true, true, true, false, false, true, false, false, false, false, false, false, false, false, false, false, false, false, false, false] rfl rfl (any_of HT_.out (by kernel_rfl)) (fun _ _ _ h => h) (Or.inl ⟨by rfl, ?_⟩) ?_ ?_
                              rotate_left
                              · intro w'
                                go_simp
                                with_reducible rfl
                              rotate_left
                              · simp only [Act.put, List.setIfInBounds_toArray, List.set_cons_zero, List.set_cons_succ, i64_w, i32_w]
                                rfl
                              refine pure_ (i := 12) (N := some 96) (v := ?_) (a' := ?_) #[true, true, true, true, false, true, true, true, true, false, false, true, true, false, false, false, false, false, false, false, false, false, false, false, false, false] rfl rfl (any_of HT_.out (by kernel_rfl)) (fun _ _ _ h => h) (Or.inl ⟨by rfl, ?_⟩) ?_ ?_
                              rotate_left
                              · intro w'
                                go_simp
                                with_reducible rfl
                              rotate_left
                              · simp only [Act.put, List.setIfInBounds_toArray, List.set_cons_zero, List.set_cons_succ, i64_w, i32_w]
                                rfl
                              refine pure_ (i := 13) (N := some 97) (v := ?_) (a' := ?_) #[true, true, true, true, false, true, true, true, true, false, false, true, true, true, false, false, false, false, false, false, false, false, false, false, false, false] rfl rfl (any_of HT_.out (by kernel_rfl)) (fun _ _ _ h => h) (Or.inl ⟨by rfl, ?_⟩) ?_ ?_
                              rotate_left
                              · intro w'
                                go_simp
                                with_reducible rfl
                              rotate_left
                              · simp only [Act.put, List.setIfInBounds_toArray, List.set_cons_zero, List.set_cons_succ, i64_w, i32_w]
                                rfl
                              refine pure_ (i := 14) (N := some 98) (v := ?_) (a' := ?_) #[true, true, true, true, false, true, true, true, true, false, false, true, true, true, true, false, false, false, false, false, false, false, false, false, false, false] rfl rfl (any_of HT_.out (by kernel_rfl)) (fun _ _ _ h => h) (Or.inl ⟨by rfl, ?_⟩) ?_ ?_
                              rotate_left
                              · intro w'
                                go_simp
                                with_reducible rfl
                              rotate_left
                              · simp only [Act.put, List.setIfInBounds_toArray, List.set_cons_zero, List.set_cons_succ, i64_w, i32_w]
                                rfl
                              refine pure_ (i := 17) (N := some 101) (v := ?_) (a' := ?_) #[true, true, true, true, false, true, true, true, true, false, false, true, true, true, true, false, false, true, false, false, false, false, false, false, false, false] rfl rfl (any_of HT_.out (by kernel_rfl)) (fun _ _ _ h => h) (Or.inl ⟨by rfl, ?_⟩) ?_ ?_
                              rotate_left
                              · intro w'
                                go_simp
                                with_reducible rfl
                              rotate_left
                              · simp only [Act.put, List.setIfInBounds_toArray, List.set_cons_zero, List.set_cons_succ, i64_w, i32_w]
                                rfl
                              refine pure_ (i := 18) (N := some 102) (v := ?_) (a' := ?_) #[true, true, true, true, false, true, true, true, true, false, false, true, true, true, true, false, false, true, true, false, false, false, false, false, false, false] rfl rfl (any_of HT_.out (by kernel_rfl)) (fun _ _ _ h => h) (Or.inl ⟨by rfl, ?_⟩) ?_ ?_
                              rotate_left
                              · intro w'
                                go_simp
                                with_reducible rfl
                              rotate_left
                              · simp only [Act.put, List.setIfInBounds_toArray, List.set_cons_zero, List.set_cons_succ, i64_w, i32_w]
                                rfl
                              refine pure_ (i := 19) (N := some 103) (v := ?_) (a' := ?_) #[true, true, true, true, false, true, true, true, true, false, false, true, true, true, true, false, false, true, true, true, false, false, false, false, false, false] rfl rfl (any_of HT_.out (by kernel_rfl)) (fun _ _ _ h => h) (Or.inl ⟨by rfl, ?_⟩) ?_ ?_
                              rotate_left
                              · intro w'
                                go_simp
                                with_reducible rfl
                              rotate_left
                              · simp only [Act.put, List.setIfInBounds_toArray, List.set_cons_zero, List.set_cons_succ, i64_w, i32_w]
                                rfl
                              refine pure_ (i := 20) (N := some 104) (v := ?_) (a' := ?_) #[true, true, true, true, false, true, true, true, true, false, false, true, true, true, true, false, false, true, true, true, true, false, false, false, false, false] rfl rfl (any_of HT_.out (by kernel_rfl)) (fun _ _ _ h => h) (Or.inl ⟨by rfl, ?_⟩) ?_ ?_
                              rotate_left
                              · intro w'
                                go_simp
                                with_reducible rfl
                              rotate_left
                              · simp only [Act.put, List.setIfInBounds_toArray, List.set_cons_zero, List.set_cons_succ, i64_w, i32_w]
                                rfl
                              refine take_ (i := 4) (N := some 88) (v := ?_) (a' := ?_) #[true, true, true, true, true, true, true, true, true, false, false, true, true, true, true, false, false, true, true, true, true, false, false, false, false, false] rfl rfl (take_ofW HT_.out HW_.out (by kernel_rfl)) (fun _ _ _ h => h) (Or.inl ⟨by rfl, ?_⟩) hHeld ?_ ?_
                              rotate_left
                              · rintro w' ⟨s0, s1, s2, s3, s4, s5, s6, s7⟩
                                go_simp
                                with_reducible rfl
                              rotate_left
                              · simp only [Act.put, List.setIfInBounds_toArray, List.set_cons_zero, List.set_cons_succ, i64_w, i32_w]
                                rfl
                              refine take_ (i := 9) (N := some 93) (v := ?_) (a' := ?_) #[true, true, true, true, true, true, true, true, true, true, false, true, true, true, true, false, false, true, true, true, true, false, false, false, false, false] rfl rfl (take_ofW HT_.out HW_.out (by kernel_rfl)) (fun _ _ _ h => h) (Or.inl ⟨by rfl, ?_⟩) hHeld ?_ ?_
                              rotate_left
                              · rintro w' ⟨s0, s1, s2, s3, s4, s5, s6, s7⟩
                                go_simp
                                with_reducible rfl
                              rotate_left
                              · simp only [Act.put, List.setIfInBounds_toArray, List.set_cons_zero, List.set_cons_succ, i64_w, i32_w]
                                rfl
                              refine pure_ (i := 10) (N := some 94) (v := ?_) (a' := ?_) #[true, true, true, true, true, true, true, true, true, true, true, true, true, true, true, false, false, true, true, true, true, false, false, false, false, false] rfl rfl (any_of HT_.out (by kernel_rfl)) (fun _ _ _ h => h) (Or.inl ⟨by rfl, ?_⟩) ?_ ?_
                              rotate_left
                              · intro w'
                                go_simp
                                with_reducible rfl
                              rotate_left
                              · simp only [Act.put, List.setIfInBounds_toArray, List.set_cons_zero, List.set_cons_succ, i64_w, i32_w]
                                rfl
                              refine pure_ (i := 24) (N := some 19) (v := ?_) (a' := ?_) #[true, true, true, true, true, true, true, true, true, true, true, true, true, true, true, false, false, true, true, true, true, false, false, false, true, false] rfl rfl (any_of HT_.out (by kernel_rfl)) (fun _ _ _ h => h) (Or.inl ⟨by rfl, ?_⟩) ?_ ?_
                              rotate_left
                              · intro w'
                                go_simp
                                with_reducible rfl
                              rotate_left
                              · simp only [Act.put, List.setIfInBounds_toArray, List.set_cons_zero, List.set_cons_succ, i64_w, i32_w]
                                rfl
                              refine take_ (i := 15) (N := some 99) (v := ?_) (a' := ?_) #[true, true, true, true, true, true, true, true, true, true, true, true, true, true, true, true, false, true, true, true, true, false, false, false, true, false] rfl rfl (take_ofW HT_.out HW_.out (by kernel_rfl)) (fun _ _ _ h => h) (Or.inl ⟨by rfl, ?_⟩) hHeld ?_ ?_
                              rotate_left
                              · rintro w' ⟨s0, s1, s2, s3, s4, s5, s6, s7⟩
                                go_simp
                                with_reducible rfl
                              rotate_left
                              · simp only [Act.put, List.setIfInBounds_toArray, List.set_cons_zero, List.set_cons_succ, i64_w, i32_w]
                                rfl
                              refine pure_ (i := 16) (N := some 100) (v := ?_) (a' := ?_) #[true, true, true, true, true, true, true, true, true, true, true, true, true, true, true, true, true, true, true, true, true, false, false, false, true, false] rfl rfl (any_of HT_.out (by kernel_rfl)) (fun _ _ _ h => h) (Or.inl ⟨by rfl, ?_⟩) ?_ ?_
                              rotate_left
                              · intro w'
                                go_simp
                                with_reducible rfl
                              rotate_left
                              · simp only [Act.put, List.setIfInBounds_toArray, List.set_cons_zero, List.set_cons_succ, i64_w, i32_w]
                                rfl
                              refine take_ (i := 21) (N := some 105) (v := ?_) (a' := ?_) #[true, true, true, true, true, true, true, true, true, true, true, true, true, true, true, true, true, true, true, true, true, true, false, false, true, false] rfl rfl (take_ofW HT_.out HW_.out (by kernel_rfl)) (fun _ _ _ h => h) (Or.inl ⟨by rfl, ?_⟩) hHeld ?_ ?_
                              rotate_left
                              · rintro w' ⟨s0, s1, s2, s3, s4, s5, s6, s7⟩
                                go_simp
                                with_reducible rfl
                              rotate_left
                              · simp only [Act.put, List.setIfInBounds_toArray, List.set_cons_zero, List.set_cons_succ, i64_w, i32_w]
                                rfl
                              refine pure_ (i := 22) (N := some 106) (v := ?_) (a' := ?_) #[true, true, true, true, true, true, true, true, true, true, true, true, true, true, true, true, true, true, true, true, true, true, true, false, true, false] rfl rfl (any_of HT_.out (by kernel_rfl)) (fun _ _ _ h => h) (Or.inl ⟨by rfl, ?_⟩) ?_ ?_
                              rotate_left
                              · intro w'
                                go_simp
                                with_reducible rfl
                              rotate_left
                              · simp only [Act.put, List.setIfInBounds_toArray, List.set_cons_zero, List.set_cons_succ, i64_w, i32_w]
                                rfl
                              refine pure_ (i := 23) (N := some 107) (v := ?_) (a' := ?_) #[true, true, true, true, true, true, true, true, true, true, true, true, true, true, true, true, true, true, true, true, true, true, true, true, true, false] rfl rfl (any_of HT_.out (by kernel_rfl)) (fun _ _ _ h => h) (Or.inl ⟨by rfl, ?_⟩) ?_ ?_
                              rotate_left
                              · intro w'
                                go_simp
                                with_reducible rfl
                              rotate_left
                              · simp only [Act.put, List.setIfInBounds_toArray, List.set_cons_zero, List.set_cons_succ, i64_w, i32_w]
                                rfl
                              refine pure_ (i := 25) (N := some 20) (v := ?_) (a' := ?_) #[true, true, true, true, true, true, true, true, true, true, true, true, true, true, true, true, true, true, true, true, true, true, true, true, true, true] rfl rfl (any_of HT_.out (by kernel_rfl)) (fun _ _ _ h => h) (Or.inl ⟨by rfl, ?_⟩) ?_ ?_
                              rotate_left
                              · intro w'
                                go_simp
                                with_reducible rfl
                              rotate_left
                              · simp only [Act.put, List.setIfInBounds_toArray, List.set_cons_zero, List.set_cons_succ, i64_w, i32_w]
                                rfl
                              refine done_ (done_of HT_.out (by kernel_rfl)) ?_
                              try go_wp2_with (first | ((with_reducible refine gate_callee (f := 26) rfl ?_); refine goesL_ (some 113) rfl rfl Try.func26 (by kernel_rfl) rfl #[.int .i64 (wrap64 ((wrap64 (16 * (wrap64 ((wrap64 (100 * ((rd_T40 l0 x77_2).f1))) - (wrap64 (100 * ((rd_T40 l0 x81_3).f1))))))) - 1584)), .int .i64 (wrap64 (((rd_T40 l0 x77_2).f0) - ((rd_T40 l0 x81_3).f0)))] rfl (by (try simp only [List.map_toArray, List.map_cons, List.map_nil]); first | done | rfl | (simp only [List.length_drop, List.length_take]; rfl)) ?_; (with_reducible refine (skywayref2_Down.calls (wrap64 ((wrap64 (16 * (wrap64 ((wrap64 (100 * ((rd_T40 l0 x77_2).f1))) - (wrap64 (100 * ((rd_T40 l0 x81_3).f1))))))) - 1584)) (wrap64 (((rd_T40 l0 x77_2).f0) - ((rd_T40 l0 x81_3).f0))) t156 _ A25.out).mono ?_); rintro e w' ⟨rfl, ⟨nd, rfl⟩⟩; refine ⟨_, rfl, ?_⟩) | ((with_reducible refine gate_callee (f := 27) rfl ?_); refine goesL_ (some 120) rfl rfl Try.func27 (by kernel_rfl) rfl #[.int .i64 (wrap64 ((wrap64 (16 * (wrap64 ((wrap64 (100 * ((rd_T40 l0 x77_2).f1))) - (wrap64 (100 * ((rd_T40 l0 x81_3).f1))))))) + 1584)), .int .i64 (wrap64 (((rd_T40 l0 x77_2).f0) - ((rd_T40 l0 x81_3).f0)))] rfl (by (try simp only [List.map_toArray, List.map_cons, List.map_nil]); first | done | rfl | (simp only [List.length_drop, List.length_take]; rfl)) ?_; (with_reducible refine (skywayref2_Up.calls (wrap64 ((wrap64 (16 * (wrap64 ((wrap64 (100 * ((rd_T40 l0 x77_2).f1))) - (wrap64 (100 * ((rd_T40 l0 x81_3).f1))))))) + 1584)) (wrap64 (((rd_T40 l0 x77_2).f0) - ((rd_T40 l0 x81_3).f0))) t157 _ A27.out).mono ?_); rintro e w' ⟨rfl, ⟨nd, rfl⟩⟩; refine ⟨_, rfl, ?_⟩))
                              go_roundg k3
                              case measure => have := HJ3.out; have := HK2.out; have := HK3.out; omega
                              case rel => exact ⟨(ji26), (ji28), (wrap64 (x81_3 + 1)), (by first | rfl | (simp; done) | (simp only [← hji26] <;> (first | rfl | simp)) | (simp [*]; done)), (by first | rfl | (simp; done) | (simp only [← hji28] <;> (first | rfl | simp)) | (simp [*]; done)), (by first | rfl | (simp; done) | (simp [*]; done)), H', ⟨by have := HJ3.out; have := HK2.out; have := HK3.out; omega⟩, ⟨by repeat (first | (with_reducible first | exact HB.out | apply below_alloc | apply pw_below_drewN | apply below_drew1) | exact HB.out)⟩⟩
                            · rw [if_neg c24] at H
                              exact absurd H (by simp)
                          · rw [if_neg c23] at H
                            exact absurd H (by simp)
                        · rw [if_neg c22] at H
                          exact absurd H (by simp)
                      · rw [if_neg c21] at H
                        exact absurd H (by simp)
                    · rw [if_neg c20] at H
                      have c20b0 : decide (x81_3 < x77_2) = false := decide_eq_false c20
                      clear c20
                      have H' := Aside0.mk H
                      clear H
                      go_wp2
                      go_roundg k3
                      case measure => have := HJ3.out; have := HK2.out; have := HK3.out; omega
                      case rel => exact ⟨(x15_3), (x16_3), (wrap64 (x77_2 + 1)), (by first | rfl | (simp; done) | (simp [*]; done)), (by first | rfl | (simp; done) | (simp [*]; done)), (by first | rfl | (simp; done) | (simp [*]; done)), H', ⟨by have := HJ3.out; have := HK2.out; have := HK3.out; omega⟩, ⟨by repeat (first | (with_reducible first | exact HB.out | apply below_alloc | apply pw_below_drewN | apply below_drew1) | exact HB.out)⟩⟩
              · rw [if_neg c19] at H
                have c19b0 : decide (x77_2 < (l0.length : Int)) = false := decide_eq_false c19
                clear c19
                by_cases c30 : x15_2 > x16_2
                · rw [if_pos c30] at H
                  have c30b0 : decide (x16_2 < x15_2) = true := decide_eq_true c30
                  clear c30
                  by_cases c31 : t146 = 8
                  · rw [if_pos c31] at H
                    have c31b0 : (t146 == 8) = true := beq_iff_eq.mpr c31
                    have c31b1 : (t146 != 8) = false := bne_eq_false_iff_eq.mpr c31
                    clear c31
                    by_cases c32 : t149 = 8
                    · rw [if_pos c32] at H
                      have c32b0 : (t149 == 8) = true := beq_iff_eq.mpr c32
                      have c32b1 : (t149 != 8) = false := bne_eq_false_iff_eq.mpr c32
                      clear c32
                      by_cases c33 : t144 = 0
                      · rw [if_pos c33] at H
                        have c33b0 : (t144 == 0) = true := beq_iff_eq.mpr c33
                        have c33b1 : (t144 != 0) = false := bne_eq_false_iff_eq.mpr c33
                        clear c33
                        obtain rfl := Option.some.inj H
                        go_wp2
                        go_ret
                        exact ⟨by first | rfl | (simp [errW_none, errW_some] <;> rfl) | (simp [*, errW_none, errW_some] <;> rfl), by repeat (first | (with_reducible first | exact HB.out | apply below_alloc | apply pw_below_drewN | apply below_drew1) | exact HB.out)⟩
                      · rw [if_neg c33] at H
                        have c33b0 : (t144 == 0) = false := beq_eq_false_iff_ne.mpr c33
                        have c33b1 : (t144 != 0) = true := bne_iff_ne.mpr c33
                        obtain rfl := Option.some.inj H
                        go_wp2
                        go_ret
                        exact ⟨by first | rfl | (simp [errW_none, errW_some] <;> rfl) | (simp [*, errW_none, errW_some] <;> rfl), by repeat (first | (with_reducible first | exact HB.out | apply below_alloc | apply pw_below_drewN | apply below_drew1) | exact HB.out)⟩
                    · rw [if_neg c32] at H
                      have c32b0 : (t149 == 8) = false := beq_eq_false_iff_ne.mpr c32
                      have c32b1 : (t149 != 8) = true := bne_iff_ne.mpr c32
                      obtain rfl := Option.some.inj H
                      go_wp2
                      go_ret
                      exact ⟨by first | rfl | (simp [errW_none, errW_some] <;> rfl) | (simp [*, errW_none, errW_some] <;> rfl), by repeat (first | (with_reducible first | exact HB.out | apply below_alloc | apply pw_below_drewN | apply below_drew1) | exact HB.out)⟩
                  · rw [if_neg c31] at H
                    have c31b0 : (t146 == 8) = false := beq_eq_false_iff_ne.mpr c31
                    have c31b1 : (t146 != 8) = true := bne_iff_ne.mpr c31
                    obtain rfl := Option.some.inj H
                    go_wp2
                    go_ret
                    exact ⟨by first | rfl | (simp [errW_none, errW_some] <;> rfl) | (simp [*, errW_none, errW_some] <;> rfl), by repeat (first | (with_reducible first | exact HB.out | apply below_alloc | apply pw_below_drewN | apply below_drew1) | exact HB.out)⟩
                · rw [if_neg c30] at H
                  have c30b0 : decide (x16_2 < x15_2) = false := decide_eq_false c30
                  clear c30
                  have HC34 := Aside0.mk H
                  clear H
                  go_upto_region 22 with (fail)
                  go_cut [152] (fun v152 wc => ∃ (kq : Nat) (x152_33 : Bool), v152 = .bool x152_33 ∧ Aside0 (skywaylaw2_ClimbBounds.j3 kq l0 a1 t147 t148 t149 x15_2 x16_2 x152_33 = some r) ∧ Aside0 (kq ≤ k2) ∧ Aside0 (Below w.heap.size w wc))
                  case first =>
                    have H := HC34.out
                    clear HC34
                    by_cases c35 : t146 = 0
                    · rw [if_pos c35] at H
                      have c35b0 : (t146 == 0) = true := beq_iff_eq.mpr c35
                      have c35b1 : (t146 != 0) = false := bne_eq_false_iff_eq.mpr c35
                      clear c35
                      (first | rw [c35b0] | (simp only [i64_w, i32_w]; rw [c35b0]) | skip)
                      by_cases c36 : t144 = x15_2
                      · rw [if_pos c36] at H
                        have c36b0 : (t144 == x15_2) = true := beq_iff_eq.mpr c36
                        have c36b1 : (t144 != x15_2) = false := bne_eq_false_iff_eq.mpr c36
                        clear c36
                        have H' := Aside0.mk H
                        clear H
                        go_wp2
                        go_meet
                        case rel => exact ⟨_, ((t145 != x16_2)), (by first | rfl | (simp; done) | (simp [*]; done)), H', ⟨by have := HJ3.out; have := HK2.out; first | omega | exact Nat.le_refl _⟩, ⟨by repeat (first | (with_reducible first | exact HB.out | apply below_alloc | apply pw_below_drewN | apply below_drew1) | exact HB.out)⟩⟩
                      · rw [if_neg c36] at H
                        have c36b0 : (t144 == x15_2) = false := beq_eq_false_iff_ne.mpr c36
                        have c36b1 : (t144 != x15_2) = true := bne_iff_ne.mpr c36
                        have H' := Aside0.mk H
                        clear H
                        go_wp2
                        go_meet
                        case rel => exact ⟨_, (true), (by first | rfl | (simp; done) | (simp [*]; done)), H', ⟨by have := HJ3.out; have := HK2.out; first | omega | exact Nat.le_refl _⟩, ⟨by repeat (first | (with_reducible first | exact HB.out | apply below_alloc | apply pw_below_drewN | apply below_drew1) | exact HB.out)⟩⟩
                    · rw [if_neg c35] at H
                      have c35b0 : (t146 == 0) = false := beq_eq_false_iff_ne.mpr c35
                      have c35b1 : (t146 != 0) = true := bne_iff_ne.mpr c35
                      (first | rw [c35b0] | (simp only [i64_w, i32_w]; rw [c35b0]) | skip)
                      have H' := Aside0.mk H
                      clear H
                      go_wp2
                      go_meet
                      case rel => exact ⟨_, (true), (by first | rfl | (simp; done) | (simp [*]; done)), H', ⟨by have := HJ3.out; have := HK2.out; first | omega | exact Nat.le_refl _⟩, ⟨by repeat (first | (with_reducible first | exact HB.out | apply below_alloc | apply pw_below_drewN | apply below_drew1) | exact HB.out)⟩⟩
                  case rest =>
                    clear HC34
                    try clear c1
                    try clear p1
                    try clear q1
                    try clear hx1
                    try clear c2
                    try clear p2
                    try clear c3
                    try clear c4
                    try clear p6
                    try clear c9
                    try clear c9b0
                    try clear c9b1
                    try clear c10
                    try clear c10b0
                    try clear c10b1
                    try clear c11
                    try clear c15
                    try clear c15b0
                    try clear c15b1
                    try clear p15
                    try clear q15
                    try clear hx15
                    try clear c19
                    try clear c19b0
                    try clear c20
                    try clear c20b0
                    try clear c21
                    try clear c21b0
                    try clear c22
                    try clear c22b0
                    try clear c23
                    try clear c23b0
                    try clear c24
                    try clear c24b0
                    try clear c26
                    try clear c27
                    try clear c30
                    try clear c30b0
                    try clear c31
                    try clear c31b0
                    try clear c31b1
                    try clear c32
                    try clear c32b0
                    try clear c32b1
                    try clear c33
                    try clear c33b0
                    try clear c33b1
                    try clear c35
                    try clear c35b0
                    try clear c35b1
                    try clear c36
                    try clear c36b0
                    try clear c36b1
                    try clear hx152_0
                    try clear hx152_1
                    try clear hx153_0
                    try clear hx153_1
                    try clear hx154_0
                    try clear hx154_1
                    try clear hx155_0
                    try clear hx155_1
                    try clear p152
                    try clear p153
                    try clear p154
                    try clear p155
                    try clear p2
                    try clear q152
                    try clear q153
                    try clear q154
                    try clear q155
                    obtain ⟨kq, x152_33, rfl, HA, HJ33, HB⟩ := hcut
                    cases kq with
                    | zero => exact absurd HA.out (by simp [skywaylaw2_ClimbBounds.j3])
                    | succ kj33 =>
                      have H := HA.out
                      clear HA
                      simp only [skywaylaw2_ClimbBounds.j3] at H
                      by_cases c37 : x152_33 = true
                      · subst c37
                        have H1 : (some false) = some r := by rw [if_pos rfl] at H; exact H
                        clear H
                        have H := H1
                        clear H1
                        obtain rfl := Option.some.inj H
                        go_wp2
                        go_ret
                        exact ⟨by first | rfl | (simp [errW_none, errW_some] <;> rfl) | (simp [*, errW_none, errW_some] <;> rfl), by repeat (first | (with_reducible first | exact HB.out | apply below_alloc | apply pw_below_drewN | apply below_drew1) | exact HB.out)⟩
                      · replace c37 := Bool.eq_false_iff.mpr c37
                        subst c37
                        have H1 : ((skywayref2_In.f a1 0 200000).bind fun t158 => (if t158 = true then (skywaylaw2_ClimbBounds.l2 kj33 a1 t147 t148 t149 x15_2 x16_2 0 60000 l0 (l0.length : Int) 0) else (some (t149 == 4)))) = some r := by rw [if_neg (show ¬ (false = true) by decide)] at H; exact H
                        clear H
                        have H := H1
                        clear H1
                        replace H := Option.bind_eq_some_iff.mp H
                        obtain ⟨t158, A380, H⟩ := H
                        replace H : (if t158 = true then (skywaylaw2_ClimbBounds.l2 kj33 a1 t147 t148 t149 x15_2 x16_2 0 60000 l0 (l0.length : Int) 0) else (some (t149 == 4))) = some r := H
                        have A38 := Aside0.mk A380
                        clear A380
                        by_cases c39 : t158 = true
                        · subst c39
                          have H1 : (skywaylaw2_ClimbBounds.l2 kj33 a1 t147 t148 t149 x15_2 x16_2 0 60000 l0 (l0.length : Int) 0) = some r := by rw [if_pos rfl] at H; exact H
                          clear H
                          have H := H1
                          clear H1
                          have H' := Aside0.mk H
                          clear H
                          go_wp2_with (first | ((with_reducible refine gate_callee (f := 28) rfl ?_); refine goesL_ (some 154) rfl rfl Try.func28 (by kernel_rfl) rfl #[.int .i64 a1, .int .i64 0, .int .i64 200000] rfl (by (try simp only [List.map_toArray, List.map_cons, List.map_nil]); first | done | rfl | (simp only [List.length_drop, List.length_take]; rfl)) ?_; (with_reducible refine (skywayref2_In.calls a1 0 200000 true _ A38.out).mono ?_); rintro e w' ⟨rfl, ⟨nd, rfl⟩⟩; refine ⟨_, rfl, ?_⟩))
                          go_loopg [21, 22, 160] kj33 (fun kq v21 v22 v160 w' => ∃ (x21_4 : Int) (x22_4 : Int) (x160_4 : Int), v21 = .int .i64 x21_4 ∧ v22 = .int .i64 x22_4 ∧ v160 = .int .i64 x160_4 ∧ Aside0 (skywaylaw2_ClimbBounds.l2 kq a1 t147 t148 t149 x15_2 x16_2 x21_4 x22_4 l0 (l0.length : Int) x160_4 = some r) ∧ Aside0 (kq ≤ kj33) ∧ Aside0 (Below w.heap.size w w'))
                          case atStart => exact ⟨(0), (60000), (0), (by first | rfl | (simp; done) | (simp [*]; done)), (by first | rfl | (simp; done) | (simp [*]; done)), (by first | rfl | (simp; done) | (simp [*]; done)), H', ⟨Nat.le_refl _⟩, ⟨by repeat (first | (with_reducible first | exact HB.out | apply below_alloc | apply pw_below_drewN | apply below_drew1) | exact HB.out)⟩⟩
                          case round =>
                            clear H'
                            try clear c1
                            try clear p1
                            try clear q1
                            try clear hx1
                            try clear c2
                            try clear p2
                            try clear c3
                            try clear c4
                            try clear p6
                            try clear c9
                            try clear c9b0
                            try clear c9b1
                            try clear c10
                            try clear c10b0
                            try clear c10b1
                            try clear c11
                            try clear c15
                            try clear c15b0
                            try clear c15b1
                            try clear p15
                            try clear q15
                            try clear hx15
                            try clear c19
                            try clear c19b0
                            try clear c20
                            try clear c20b0
                            try clear c21
                            try clear c21b0
                            try clear c22
                            try clear c22b0
                            try clear c23
                            try clear c23b0
                            try clear c24
                            try clear c24b0
                            try clear c26
                            try clear c27
                            try clear c28
                            try clear c30
                            try clear c30b0
                            try clear c31
                            try clear c31b0
                            try clear c31b1
                            try clear c32
                            try clear c32b0
                            try clear c32b1
                            try clear c33
                            try clear c33b0
                            try clear c33b1
                            try clear c35
                            try clear c35b0
                            try clear c35b1
                            try clear c36
                            try clear c36b0
                            try clear c36b1
                            try clear c37
                            try clear c39
                            try clear hx152_0
                            try clear hx152_1
                            try clear hx153_0
                            try clear hx153_1
                            try clear hx154_0
                            try clear hx154_1
                            try clear hx155_0
                            try clear hx155_1
                            try clear p1
                            try clear p15
                            try clear p152
                            try clear p153
                            try clear p154
                            try clear p155
                            try clear p2
                            try clear p6
                            try clear q1
                            try clear q15
                            try clear q152
                            try clear q153
                            try clear q154
                            try clear q155
                            obtain ⟨x21_4, x22_4, x160_4, rfl, rfl, rfl, HA, HK4, HB⟩ := hrel
                            cases gk with
                            | zero => exact absurd HA.out (by simp [skywaylaw2_ClimbBounds.l2])
                            | succ k4 =>
                              have H := HA.out
                              clear HA
                              simp only [skywaylaw2_ClimbBounds.l2] at H
                              by_cases c40 : x160_4 < (l0.length : Int)
                              · rw [if_pos c40] at H
                                have c40b0 : decide (x160_4 < (l0.length : Int)) = true := decide_eq_true c40
                                clear c40
                                by_cases c41 : 0 ≤ x160_4
                                · rw [if_pos c41] at H
                                  have c41b0 : decide (0 ≤ x160_4) = true := decide_eq_true c41
                                  clear c41
                                  by_cases c42 : x160_4 < (l0.length : Int)
                                  · rw [if_pos c42] at H
                                    have c42b0 : decide (x160_4 < (l0.length : Int)) = true := decide_eq_true c42
                                    clear c42
                                    obtain ⟨ji43, hji43⟩ : ∃ j_ : Int, (mn (wrap64 (x15_2 * (wrap64 (a1 - ((rd_T40 l0 x160_4).f0))))) (wrap64 (x16_2 * (wrap64 (a1 - ((rd_T40 l0 x160_4).f0)))))) = j_ := ⟨_, rfl⟩
                                    replace H : ((skywayref2_Down.f (ji43) 16).bind fun t161 => ((skywayref2_Up.f (mx (wrap64 (x15_2 * (wrap64 (a1 - ((rd_T40 l0 x160_4).f0))))) (wrap64 (x16_2 * (wrap64 (a1 - ((rd_T40 l0 x160_4).f0)))))) 16).bind fun t162 => (skywaylaw2_ClimbBounds.l2 k4 a1 t147 t148 t149 x15_2 x16_2 (mx x21_4 (wrap64 ((wrap64 (100 * ((rd_T40 l0 x160_4).f1))) + t161))) (mn x22_4 (wrap64 ((wrap64 ((wrap64 (100 * ((rd_T40 l0 x160_4).f1))) + 99)) + t162))) l0 (l0.length : Int) (wrap64 (x160_4 + 1))))) = some r := by first | (rw [hji43] at H; exact H) | (simp only [hji43] at H ⊢; exact H)
                                    have hji43_ : (if (wrap64 (x16_2 * (wrap64 (a1 - ((rd_T40 l0 x160_4).f0))))) < (wrap64 (x15_2 * (wrap64 (a1 - ((rd_T40 l0 x160_4).f0))))) then (wrap64 (x16_2 * (wrap64 (a1 - ((rd_T40 l0 x160_4).f0))))) else (wrap64 (x15_2 * (wrap64 (a1 - ((rd_T40 l0 x160_4).f0)))))) = ji43 := hji43
                                    replace H := Option.bind_eq_some_iff.mp H
                                    obtain ⟨t161, A440, H⟩ := H
                                    replace H : ((skywayref2_Up.f (mx (wrap64 (x15_2 * (wrap64 (a1 - ((rd_T40 l0 x160_4).f0))))) (wrap64 (x16_2 * (wrap64 (a1 - ((rd_T40 l0 x160_4).f0)))))) 16).bind fun t162 => (skywaylaw2_ClimbBounds.l2 k4 a1 t147 t148 t149 x15_2 x16_2 (mx x21_4 (wrap64 ((wrap64 (100 * ((rd_T40 l0 x160_4).f1))) + t161))) (mn x22_4 (wrap64 ((wrap64 ((wrap64 (100 * ((rd_T40 l0 x160_4).f1))) + 99)) + t162))) l0 (l0.length : Int) (wrap64 (x160_4 + 1)))) = some r := H
                                    have A44 := Aside0.mk A440
                                    clear A440
                                    obtain ⟨ji45, hji45⟩ : ∃ j_ : Int, (mx x21_4 (wrap64 ((wrap64 (100 * ((rd_T40 l0 x160_4).f1))) + t161))) = j_ := ⟨_, rfl⟩
                                    replace H : ((skywayref2_Up.f (mx (wrap64 (x15_2 * (wrap64 (a1 - ((rd_T40 l0 x160_4).f0))))) (wrap64 (x16_2 * (wrap64 (a1 - ((rd_T40 l0 x160_4).f0)))))) 16).bind fun t162 => (skywaylaw2_ClimbBounds.l2 k4 a1 t147 t148 t149 x15_2 x16_2 ji45 (mn x22_4 (wrap64 ((wrap64 ((wrap64 (100 * ((rd_T40 l0 x160_4).f1))) + 99)) + t162))) l0 (l0.length : Int) (wrap64 (x160_4 + 1)))) = some r := by first | (rw [hji45] at H; exact H) | (simp only [hji45] at H ⊢; exact H)
                                    (try rw [hji45] at A44)
                                    have hji45_ : (if x21_4 < (wrap64 ((wrap64 (100 * ((rd_T40 l0 x160_4).f1))) + t161)) then (wrap64 ((wrap64 (100 * ((rd_T40 l0 x160_4).f1))) + t161)) else x21_4) = ji45 := hji45
                                    obtain ⟨ji46, hji46⟩ : ∃ j_ : Int, (mx (wrap64 (x15_2 * (wrap64 (a1 - ((rd_T40 l0 x160_4).f0))))) (wrap64 (x16_2 * (wrap64 (a1 - ((rd_T40 l0 x160_4).f0)))))) = j_ := ⟨_, rfl⟩
                                    replace H : ((skywayref2_Up.f (ji46) 16).bind fun t162 => (skywaylaw2_ClimbBounds.l2 k4 a1 t147 t148 t149 x15_2 x16_2 ji45 (mn x22_4 (wrap64 ((wrap64 ((wrap64 (100 * ((rd_T40 l0 x160_4).f1))) + 99)) + t162))) l0 (l0.length : Int) (wrap64 (x160_4 + 1)))) = some r := by first | (rw [hji46] at H; exact H) | (simp only [hji46] at H ⊢; exact H)
                                    (try rw [hji46] at A44)
                                    have hji46_ : (if (wrap64 (x15_2 * (wrap64 (a1 - ((rd_T40 l0 x160_4).f0))))) < (wrap64 (x16_2 * (wrap64 (a1 - ((rd_T40 l0 x160_4).f0))))) then (wrap64 (x16_2 * (wrap64 (a1 - ((rd_T40 l0 x160_4).f0))))) else (wrap64 (x15_2 * (wrap64 (a1 - ((rd_T40 l0 x160_4).f0)))))) = ji46 := hji46
                                    replace H := Option.bind_eq_some_iff.mp H
                                    obtain ⟨t162, A470, H⟩ := H
                                    replace H : (skywaylaw2_ClimbBounds.l2 k4 a1 t147 t148 t149 x15_2 x16_2 ji45 (mn x22_4 (wrap64 ((wrap64 ((wrap64 (100 * ((rd_T40 l0 x160_4).f1))) + 99)) + t162))) l0 (l0.length : Int) (wrap64 (x160_4 + 1))) = some r := H
                                    have A47 := Aside0.mk A470
                                    clear A470
                                    obtain ⟨ji48, hji48⟩ : ∃ j_ : Int, (mn x22_4 (wrap64 ((wrap64 ((wrap64 (100 * ((rd_T40 l0 x160_4).f1))) + 99)) + t162))) = j_ := ⟨_, rfl⟩
                                    replace H : (skywaylaw2_ClimbBounds.l2 k4 a1 t147 t148 t149 x15_2 x16_2 ji45 ji48 l0 (l0.length : Int) (wrap64 (x160_4 + 1))) = some r := by first | (rw [hji48] at H; exact H) | (simp only [hji48] at H ⊢; exact H)
                                    (try rw [hji48] at A44)
                                    (try rw [hji48] at A47)
                                    have hji48_ : (if (wrap64 ((wrap64 ((wrap64 (100 * ((rd_T40 l0 x160_4).f1))) + 99)) + t162)) < x22_4 then (wrap64 ((wrap64 ((wrap64 (100 * ((rd_T40 l0 x160_4).f1))) + 99)) + t162)) else x22_4) = ji48 := hji48
                                    have H' := Aside0.mk H
                                    clear H
                                    have p159 : 0 ≤ (x160_4 : Int) := of_decide_eq_true (by first | (with_reducible assumption) | assumption)
                                    have q159 : x160_4 < (l0.length : Int) := of_decide_eq_true (by first | (with_reducible assumption) | assumption)
                                    obtain ⟨ad159, e159, hx159_0, hx159_1⟩ := at_T40 HR0.out x160_4 p159 q159
                                    cases e159
                                    replace hx159_0 := (HB.out.cell (World.block_lt_of_cell? w _ hx159_0)).trans hx159_0
                                    replace hx159_1 := (HB.out.cell (World.block_lt_of_cell? w _ hx159_1)).trans hx159_1
                                    replace p159 := eq_true p159
                                    replace q159 := eq_true q159
                                    try go_wp2_with (first | ((with_reducible refine gate_dst (N := 24) rfl ?_); refine box_event ?hg (N := 24) ?hd (cs := #[.int .i64 0, .int .i64 0]) (t := 40) ?hr ?_; (case hd => rfl); (case hg => rfl); (case hr => first | (go_simp; done) | (go_simp; rfl)); intro gb160 hg w49 hbox hb; have n0_ := Aside0.mk (below_step (by repeat (first | (with_reducible first | exact HB.out | apply below_alloc | apply pw_below_drewN | apply below_drew1) | exact HB.out)) hb); have n1_ := Aside0.mk (hbox); have n2_ := Aside0.mk ((by rw [hg]; exact (below_size (by repeat (first | (with_reducible first | exact HB.out | apply below_alloc | apply pw_below_drewN | apply below_drew1) | exact HB.out))) : w.heap.size ≤ gb160)); have n3_ := Aside0.mk ((by rw [hg]; exact (below_size (by repeat (first | (with_reducible first | exact HB.out | apply below_alloc | apply pw_below_drewN | apply below_drew1) | exact HB.out))) : w.heap.size ≤ gb160)); clear HB; have HB := n0_; have BK160 := n1_; have GW160 := n2_; have GE160 := n3_; clear n0_ n1_ n2_ n3_; clear hb hbox hg; have hcz50_0 : w49.cell? ⟨gb160, 0, none⟩ = some (.int .i64 0) := (blk_cell BK160.out 0).trans rfl; have hcz50_1 : w49.cell? ⟨gb160, 1, none⟩ = some (.int .i64 0) := (blk_cell BK160.out 1).trans rfl; have hfz50_0 := blk_frozen BK160.out 0; have hfz50_1 := blk_frozen BK160.out 1))
                                    have n0_ : Aside0 (((w49.setCell ⟨gb160, 0, none⟩ (.int .i64 ((rd_T40 l0 x160_4).f0))).setCell ⟨gb160, 1, none⟩ (.int .i64 ((rd_T40 l0 x160_4).f1))).heap[gb160]? = some (.cells #[.int .i64 ((rd_T40 l0 x160_4).f0), .int .i64 ((rd_T40 l0 x160_4).f1)] 40 (0, 0))) := ⟨by (with_reducible repeat (first | refine blk_drewN ?_ _ | refine blk_drew ?_ | refine blk_alloc ?_ _)); refine blk_put (cs := #[.int .i64 ((rd_T40 l0 x160_4).f0), .int .i64 0]) ?_ 1 _ rfl; (with_reducible repeat (first | refine blk_drewN ?_ _ | refine blk_drew ?_ | refine blk_alloc ?_ _)); refine blk_put (cs := #[.int .i64 0, .int .i64 0]) ?_ 0 _ rfl; (with_reducible repeat (first | refine blk_drewN ?_ _ | refine blk_drew ?_ | refine blk_alloc ?_ _)); exact BK160.out⟩
                                    have n1_ : Aside0 (Below w.heap.size w ((w49.setCell ⟨gb160, 0, none⟩ (.int .i64 ((rd_T40 l0 x160_4).f0))).setCell ⟨gb160, 1, none⟩ (.int .i64 ((rd_T40 l0 x160_4).f1)))) := ⟨by repeat (first | (with_reducible first | exact HB.out | apply below_alloc | apply pw_below_drewN | apply below_drew1 | refine below_set ?_ GE160.out) | exact HB.out)⟩
                                    (try clear BK160)
                                    (try clear HB)
                                    generalize ((w49.setCell ⟨gb160, 0, none⟩ (.int .i64 ((rd_T40 l0 x160_4).f0))).setCell ⟨gb160, 1, none⟩ (.int .i64 ((rd_T40 l0 x160_4).f1))) = w51 at n0_ n1_ ⊢
                                    have BK160 := n0_
                                    have HB := n1_
                                    clear n0_ n1_
                                    have n0_ := Aside0.mk (blk_drew BK160.out)
                                    have n1_ := Aside0.mk (below_drew1 HB.out)
                                    clear BK160
                                    clear HB
                                    have BK160 := n0_
                                    have HB := n1_
                                    clear n0_ n1_
                                    refine start_ (n := 31) (S := fun w' => w'.cell? ⟨gb160, 0, none⟩ = some (.int .i64 ((rd_T40 l0 x160_4).f0)) ∧ w'.cell? ⟨gb160, 1, none⟩ = some (.int .i64 ((rd_T40 l0 x160_4).f1))) (ds := []) #[false, false, false, false, false, false, false, false, false, false, false, false, false, false, false, false, false, false, false, false, false, false, false, false, false, false, false, false, false, false, false] (by kernel_rfl) rfl rfl ⟨(blk_cell BK160.out 0).trans rfl, (blk_cell BK160.out 1).trans rfl⟩ (fun hHeld => ?_); refine with_tabW skywaylaw2_ClimbBounds.tab31 skywaylaw2_ClimbBounds.bits31 (fun HT_ HW_ => ?_)
                                    generalize w51.drew = w52 at BK160 HB hHeld ⊢
                                    refine pure_ (i := 0) (N := some 168) (v := ?_) (a' := ?_) #[true, false, false, false, false, false, false, false, false, false, false, false, false, false, false, false, false, false, false, false, false, false, false, false, false, false, false, false, false, false, false] rfl rfl (any_of HT_.out (by kernel_rfl)) (fun _ _ _ h => h) (Or.inl ⟨by rfl, ?_⟩) ?_ ?_
                                    rotate_left
                                    · intro w'
                                      go_simp
                                      with_reducible rfl
                                    rotate_left
                                    · simp only [Act.put, List.setIfInBounds_toArray, List.set_cons_zero, List.set_cons_succ, i64_w, i32_w]
                                      rfl
                                    refine pure_ (i := 1) (N := some 169) (v := ?_) (a' := ?_) #[true, true, false, false, false, false, false, false, false, false, false, false, false, false, false, false, false, false, false, false, false, false, false, false, false, false, false, false, false, false, false] rfl rfl (any_of HT_.out (by kernel_rfl)) (fun _ _ _ h => h) (Or.inl ⟨by rfl, ?_⟩) ?_ ?_
                                    rotate_left
                                    · intro w'
                                      go_simp
                                      with_reducible rfl
                                    rotate_left
                                    · simp only [Act.put, List.setIfInBounds_toArray, List.set_cons_zero, List.set_cons_succ, i64_w, i32_w]
                                      rfl
                                    refine pure_ (i := 4) (N := some 172) (v := ?_) (a' := ?_) #[true, true, false, false, true, false, false, false, false, false, false, false, false, false, false, false, false, false, false, false, false, false, false, false, false, false, false, false, false, false, false] rfl rfl (any_of HT_.out (by kernel_rfl)) (fun _ _ _ h => h) (Or.inl ⟨by rfl, ?_⟩) ?_ ?_
                                    rotate_left
                                    · intro w'
                                      go_simp
                                      with_reducible rfl
                                    rotate_left
                                    · simp only [Act.put, List.setIfInBounds_toArray, List.set_cons_zero, List.set_cons_succ, i64_w, i32_w]
                                      rfl
                                    refine pure_ (i := 5) (N := some 173) (v := ?_) (a' := ?_) #[true, true, false, false, true, true, false, false, false, false, false, false, false, false, false, false, false, false, false, false, false, false, false, false, false, false, false, false, false, false, false] rfl rfl (any_of HT_.out (by kernel_rfl)) (fun _ _ _ h => h) (Or.inl ⟨by rfl, ?_⟩) ?_ ?_
                                    rotate_left
                                    · intro w'
                                      go_simp
                                      with_reducible rfl
                                    rotate_left
                                    · simp only [Act.put, List.setIfInBounds_toArray, List.set_cons_zero, List.set_cons_succ, i64_w, i32_w]
                                      rfl
                                    refine pure_ (i := 6) (N := some 174) (v := ?_) (a' := ?_) #[true, true, false, false, true, true, true, false, false, false, false, false, false, false, false, false, false, false, false, false, false, false, false, false, false, false, false, false, false, false, false] rfl rfl (any_of HT_.out (by kernel_rfl)) (fun _ _ _ h => h) (Or.inl ⟨by rfl, ?_⟩) ?_ ?_
                                    rotate_left
                                    · intro w'
                                      go_simp
                                      with_reducible rfl
                                    rotate_left
                                    · simp only [Act.put, List.setIfInBounds_toArray, List.set_cons_zero, List.set_cons_succ, i64_w, i32_w]
                                      rfl
                                    refine pure_ (i := 7) (N := some 175) (v := ?_) (a' := ?_) #[true, true, false, false, true, true, true, true, false, false, false, false, false, false, false, false, false, false, false, false, false, false, false, false, false, false, false, false, false, false, false] rfl rfl (any_of HT_.out (by kernel_rfl)) (fun _ _ _ h => h) (Or.inl ⟨by rfl, ?_⟩) ?_ ?_
                                    rotate_left
                                    · intro w'
                                      go_simp
                                      with_reducible rfl
                                    rotate_left
                                    · simp only [Act.put, List.setIfInBounds_toArray, List.set_cons_zero, List.set_cons_succ, i64_w, i32_w]
                                      rfl
                                    refine pure_ (i := 8) (N := some 176) (v := ?_) (a' := ?_) #[true, true, false, false, true, true, true, true, true, false, false, false, false, false, false, false, false, false, false, false, false, false, false, false, false, false, false, false, false, false, false] rfl rfl (any_of HT_.out (by kernel_rfl)) (fun _ _ _ h => h) (Or.inl ⟨by rfl, ?_⟩) ?_ ?_
                                    rotate_left
                                    · intro w'
                                      go_simp
                                      with_reducible rfl
                                    rotate_left
                                    · simp only [Act.put, List.setIfInBounds_toArray, List.set_cons_zero, List.set_cons_succ, i64_w, i32_w]
                                      rfl
                                    refine pure_ (i := 9) (N := some 177) (v := ?_) (a' := ?_) #[true, true, false, false, true, true, true, true, true, true, false, false, false, false, false, false, false, false, false, false, false, false, false, false, false, false, false, false, false, false, false] rfl rfl (any_of HT_.out (by kernel_rfl)) (fun _ _ _ h => h) (Or.inl ⟨by rfl, ?_⟩) ?_ ?_
                                    rotate_left
                                    · intro w'
                                      go_simp
                                      with_reducible rfl
                                    rotate_left
                                    · simp only [Act.put, List.setIfInBounds_toArray, List.set_cons_zero, List.set_cons_succ, i64_w, i32_w]
                                      rfl
                                    refine pure_ (i := 10) (N := some 178) (v := ?_) (a' := ?_) #[true, true, false, false, true, true, true, true, true, true, true, false, false, false, false, false, false, false, false, false, false, false, false, false, false, false, false, false, false, false, false] rfl rfl (any_of HT_.out (by kernel_rfl)) (fun _ _ _ h => h) (Or.inl ⟨by rfl, ?_⟩) ?_ ?_
                                    rotate_left
                                    · intro w'
                                      go_simp
                                      with_reducible rfl
                                    rotate_left
                                    · simp only [Act.put, List.setIfInBounds_toArray, List.set_cons_zero, List.set_cons_succ, i64_w, i32_w]
                                      rfl
                                    refine pure_ (i := 14) (N := some 182) (v := ?_) (a' := ?_) #[true, true, false, false, true, true, true, true, true, true, true, false, false, false, true, false, false, false, false, false, false, false, false, false, false, false, false, false, false, false, false] rfl rfl (any_of HT_.out (by kernel_rfl)) (fun _ _ _ h => h) (Or.inl ⟨by rfl, ?_⟩) ?_ ?_
                                    rotate_left
                                    · intro w'
                                      go_simp
                                      with_reducible rfl
                                    rotate_left
                                    · simp only [Act.put, List.setIfInBounds_toArray, List.set_cons_zero, List.set_cons_succ, i64_w, i32_w]
                                      rfl
                                    refine pure_ (i := 15) (N := some 183) (v := ?_) (a' := ?_) #[true, true, false, false, true, true, true, true, true, true, true, false, false, false, true, true, false, false, false, false, false, false, false, false, false, false, false, false, false, false, false] rfl rfl (any_of HT_.out (by kernel_rfl)) (fun _ _ _ h => h) (Or.inl ⟨by rfl, ?_⟩) ?_ ?_
                                    rotate_left
                                    · intro w'
                                      go_simp
                                      with_reducible rfl
                                    rotate_left
                                    · simp only [Act.put, List.setIfInBounds_toArray, List.set_cons_zero, List.set_cons_succ, i64_w, i32_w]
                                      rfl
                                    refine pure_ (i := 19) (N := some 187) (v := ?_) (a' := ?_) #[true, true, false, false, true, true, true, true, true, true, true, false, false, false, true, true, false, false, false, true, false, false, false, false, false, false, false, false, false, false, false] rfl rfl (any_of HT_.out (by kernel_rfl)) (fun _ _ _ h => h) (Or.inl ⟨by rfl, ?_⟩) ?_ ?_
                                    rotate_left
                                    · intro w'
                                      go_simp
                                      with_reducible rfl
                                    rotate_left
                                    · simp only [Act.put, List.setIfInBounds_toArray, List.set_cons_zero, List.set_cons_succ, i64_w, i32_w]
                                      rfl
                                    refine pure_ (i := 20) (N := some 188) (v := ?_) (a' := ?_) #[true, true, false, false, true, true, true, true, true, true, true, false, false, false, true, true, false, false, false, true, true, false, false, false, false, false, false, false, false, false, false] rfl rfl (any_of HT_.out (by kernel_rfl)) (fun _ _ _ h => h) (Or.inl ⟨by rfl, ?_⟩) ?_ ?_
                                    rotate_left
                                    · intro w'
                                      go_simp
                                      with_reducible rfl
                                    rotate_left
                                    · simp only [Act.put, List.setIfInBounds_toArray, List.set_cons_zero, List.set_cons_succ, i64_w, i32_w]
                                      rfl
                                    refine pure_ (i := 21) (N := some 189) (v := ?_) (a' := ?_) #[true, true, false, false, true, true, true, true, true, true, true, false, false, false, true, true, false, false, false, true, true, true, false, false, false, false, false, false, false, false, false] rfl rfl (any_of HT_.out (by kernel_rfl)) (fun _ _ _ h => h) (Or.inl ⟨by rfl, ?_⟩) ?_ ?_
                                    rotate_left
                                    · intro w'
                                      go_simp
                                      with_reducible rfl
                                    rotate_left
                                    · simp only [Act.put, List.setIfInBounds_toArray, List.set_cons_zero, List.set_cons_succ, i64_w, i32_w]
                                      rfl
                                    refine pure_ (i := 22) (N := some 190) (v := ?_) (a' := ?_) #[true, true, false, false, true, true, true, true, true, true, true, false, false, false, true, true, false, false, false, true, true, true, true, false, false, false, false, false, false, false, false] rfl rfl (any_of HT_.out (by kernel_rfl)) (fun _ _ _ h => h) (Or.inl ⟨by rfl, ?_⟩) ?_ ?_
                                    rotate_left
                                    · intro w'
                                      go_simp
                                      with_reducible rfl
                                    rotate_left
                                    · simp only [Act.put, List.setIfInBounds_toArray, List.set_cons_zero, List.set_cons_succ, i64_w, i32_w]
                                      rfl
                                    refine pure_ (i := 23) (N := some 191) (v := ?_) (a' := ?_) #[true, true, false, false, true, true, true, true, true, true, true, false, false, false, true, true, false, false, false, true, true, true, true, true, false, false, false, false, false, false, false] rfl rfl (any_of HT_.out (by kernel_rfl)) (fun _ _ _ h => h) (Or.inl ⟨by rfl, ?_⟩) ?_ ?_
                                    rotate_left
                                    · intro w'
                                      go_simp
                                      with_reducible rfl
                                    rotate_left
                                    · simp only [Act.put, List.setIfInBounds_toArray, List.set_cons_zero, List.set_cons_succ, i64_w, i32_w]
                                      rfl
                                    refine pure_ (i := 24) (N := some 192) (v := ?_) (a' := ?_) #[true, true, false, false, true, true, true, true, true, true, true, false, false, false, true, true, false, false, false, true, true, true, true, true, true, false, false, false, false, false, false] rfl rfl (any_of HT_.out (by kernel_rfl)) (fun _ _ _ h => h) (Or.inl ⟨by rfl, ?_⟩) ?_ ?_
                                    rotate_left
                                    · intro w'
                                      go_simp
                                      with_reducible rfl
                                    rotate_left
                                    · simp only [Act.put, List.setIfInBounds_toArray, List.set_cons_zero, List.set_cons_succ, i64_w, i32_w]
                                      rfl
                                    refine pure_ (i := 25) (N := some 193) (v := ?_) (a' := ?_) #[true, true, false, false, true, true, true, true, true, true, true, false, false, false, true, true, false, false, false, true, true, true, true, true, true, true, false, false, false, false, false] rfl rfl (any_of HT_.out (by kernel_rfl)) (fun _ _ _ h => h) (Or.inl ⟨by rfl, ?_⟩) ?_ ?_
                                    rotate_left
                                    · intro w'
                                      go_simp
                                      with_reducible rfl
                                    rotate_left
                                    · simp only [Act.put, List.setIfInBounds_toArray, List.set_cons_zero, List.set_cons_succ, i64_w, i32_w]
                                      rfl
                                    refine take_ (i := 2) (N := some 170) (v := ?_) (a' := ?_) #[true, true, true, false, true, true, true, true, true, true, true, false, false, false, true, true, false, false, false, true, true, true, true, true, true, true, false, false, false, false, false] rfl rfl (take_ofW HT_.out HW_.out (by kernel_rfl)) (fun _ _ _ h => h) (Or.inl ⟨by rfl, ?_⟩) hHeld ?_ ?_
                                    rotate_left
                                    · rintro w' ⟨s0, s1⟩
                                      go_simp
                                      with_reducible rfl
                                    rotate_left
                                    · simp only [Act.put, List.setIfInBounds_toArray, List.set_cons_zero, List.set_cons_succ, i64_w, i32_w]
                                      rfl
                                    refine pure_ (i := 3) (N := some 171) (v := ?_) (a' := ?_) #[true, true, true, true, true, true, true, true, true, true, true, false, false, false, true, true, false, false, false, true, true, true, true, true, true, true, false, false, false, false, false] rfl rfl (any_of HT_.out (by kernel_rfl)) (fun _ _ _ h => h) (Or.inl ⟨by rfl, ?_⟩) ?_ ?_
                                    rotate_left
                                    · intro w'
                                      go_simp
                                      with_reducible rfl
                                    rotate_left
                                    · simp only [Act.put, List.setIfInBounds_toArray, List.set_cons_zero, List.set_cons_succ, i64_w, i32_w]
                                      rfl
                                    refine take_ (i := 16) (N := some 184) (v := ?_) (a' := ?_) #[true, true, true, true, true, true, true, true, true, true, true, false, false, false, true, true, true, false, false, true, true, true, true, true, true, true, false, false, false, false, false] rfl rfl (take_ofW HT_.out HW_.out (by kernel_rfl)) (fun _ _ _ h => h) (Or.inl ⟨by rfl, ?_⟩) hHeld ?_ ?_
                                    rotate_left
                                    · rintro w' ⟨s0, s1⟩
                                      go_simp
                                      with_reducible rfl
                                    rotate_left
                                    · simp only [Act.put, List.setIfInBounds_toArray, List.set_cons_zero, List.set_cons_succ, i64_w, i32_w]
                                      rfl
                                    refine pure_ (i := 17) (N := some 185) (v := ?_) (a' := ?_) #[true, true, true, true, true, true, true, true, true, true, true, false, false, false, true, true, true, true, false, true, true, true, true, true, true, true, false, false, false, false, false] rfl rfl (any_of HT_.out (by kernel_rfl)) (fun _ _ _ h => h) (Or.inl ⟨by rfl, ?_⟩) ?_ ?_
                                    rotate_left
                                    · intro w'
                                      go_simp
                                      with_reducible rfl
                                    rotate_left
                                    · simp only [Act.put, List.setIfInBounds_toArray, List.set_cons_zero, List.set_cons_succ, i64_w, i32_w]
                                      rfl
                                    refine pure_ (i := 18) (N := some 186) (v := ?_) (a' := ?_) #[true, true, true, true, true, true, true, true, true, true, true, false, false, false, true, true, true, true, true, true, true, true, true, true, true, true, false, false, false, false, false] rfl rfl (any_of HT_.out (by kernel_rfl)) (fun _ _ _ h => h) (Or.inl ⟨by rfl, ?_⟩) ?_ ?_
                                    rotate_left
                                    · intro w'
                                      go_simp
                                      with_reducible rfl
                                    rotate_left
                                    · simp only [Act.put, List.setIfInBounds_toArray, List.set_cons_zero, List.set_cons_succ, i64_w, i32_w]
                                      rfl
                                    refine one_ (i := 11) (N := some 179) #[true, true, true, true, true, true, true, true, true, true, true, true, false, false, true, true, true, true, true, true, true, true, true, true, true, true, false, false, false, false, false] rfl rfl (one_of HT_.out (by kernel_rfl)) (by decide) (fun K hK => ?_)
                                    refine goes_ Try.func26 (by kernel_rfl) rfl #[.int .i64 ji43, .int .i64 16] (by rfl) rfl rfl (by (try simp only [List.map_toArray, List.map_cons, List.map_nil]); first | done | (simp only [hji43]; rfl) | rfl | (simp only [List.length_drop, List.length_take]; rfl)) ?_
                                    with_reducible refine (skywayref2_Down.calls ji43 16 t161 _ A44.out).mono ?_
                                    rintro e w' ⟨rfl, ⟨nd, rfl⟩⟩
                                    refine ⟨_, rfl, ?_⟩
                                    refine hK.out _ _ ⟨(blk_cell BK160.out 0).trans rfl, (blk_cell BK160.out 1).trans rfl⟩ (fun hHeld => ?_)
                                    clear hK K
                                    refine norm_ (a' := ?_) ?_ ?_
                                    rotate_left
                                    · show Act.put _ (some 179) _ = _
                                      simp only [Act.put, List.setIfInBounds_toArray, List.set_cons_zero, List.set_cons_succ, i64_w, i32_w]
                                      rfl
                                    refine pure_ (i := 12) (N := some 180) (v := ?_) (a' := ?_) #[true, true, true, true, true, true, true, true, true, true, true, true, true, false, true, true, true, true, true, true, true, true, true, true, true, true, false, false, false, false, false] rfl rfl (any_of HT_.out (by kernel_rfl)) (fun _ _ _ h => h) (Or.inl ⟨by rfl, ?_⟩) ?_ ?_
                                    rotate_left
                                    · intro w'
                                      go_simp
                                      with_reducible rfl
                                    rotate_left
                                    · simp only [Act.put, List.setIfInBounds_toArray, List.set_cons_zero, List.set_cons_succ, i64_w, i32_w]
                                      rfl
                                    refine pure_ (i := 13) (N := some 181) (v := ?_) (a' := ?_) #[true, true, true, true, true, true, true, true, true, true, true, true, true, true, true, true, true, true, true, true, true, true, true, true, true, true, false, false, false, false, false] rfl rfl (any_of HT_.out (by kernel_rfl)) (fun _ _ _ h => h) (Or.inl ⟨by rfl, ?_⟩) ?_ ?_
                                    rotate_left
                                    · intro w'
                                      go_simp
                                      with_reducible rfl
                                    rotate_left
                                    · simp only [Act.put, List.setIfInBounds_toArray, List.set_cons_zero, List.set_cons_succ, i64_w, i32_w]
                                      rfl
                                    refine one_ (i := 26) (N := some 194) #[true, true, true, true, true, true, true, true, true, true, true, true, true, true, true, true, true, true, true, true, true, true, true, true, true, true, true, false, false, false, false] rfl rfl (one_of HT_.out (by kernel_rfl)) (by decide) (fun K hK => ?_)
                                    refine goes_ Try.func27 (by kernel_rfl) rfl #[.int .i64 ji46, .int .i64 16] (by rfl) rfl rfl (by (try simp only [List.map_toArray, List.map_cons, List.map_nil]); first | done | (simp only [hji46]; rfl) | rfl | (simp only [List.length_drop, List.length_take]; rfl)) ?_
                                    with_reducible refine (skywayref2_Up.calls ji46 16 t162 _ A47.out).mono ?_
                                    rintro e w' ⟨rfl, ⟨nd, rfl⟩⟩
                                    refine ⟨_, rfl, ?_⟩
                                    refine hK.out _ _ ⟨(blk_cell BK160.out 0).trans rfl, (blk_cell BK160.out 1).trans rfl⟩ (fun hHeld => ?_)
                                    clear hK K
                                    refine norm_ (a' := ?_) ?_ ?_
                                    rotate_left
                                    · show Act.put _ (some 194) _ = _
                                      simp only [Act.put, List.setIfInBounds_toArray, List.set_cons_zero, List.set_cons_succ, i64_w, i32_w]
                                      rfl
                                    refine pure_ (i := 27) (N := some 195) (v := ?_) (a' := ?_) #[true, true, true, true, true, true, true, true, true, true, true, true, true, true, true, true, true, true, true, true, true, true, true, true, true, true, true, true, false, false, false] rfl rfl (any_of HT_.out (by kernel_rfl)) (fun _ _ _ h => h) (Or.inl ⟨by rfl, ?_⟩) ?_ ?_
                                    rotate_left
                                    · intro w'
                                      go_simp
                                      with_reducible rfl
                                    rotate_left
                                    · simp only [Act.put, List.setIfInBounds_toArray, List.set_cons_zero, List.set_cons_succ, i64_w, i32_w]
                                      rfl
                                    refine pure_ (i := 28) (N := some 196) (v := ?_) (a' := ?_) #[true, true, true, true, true, true, true, true, true, true, true, true, true, true, true, true, true, true, true, true, true, true, true, true, true, true, true, true, true, false, false] rfl rfl (any_of HT_.out (by kernel_rfl)) (fun _ _ _ h => h) (Or.inl ⟨by rfl, ?_⟩) ?_ ?_
                                    rotate_left
                                    · intro w'
                                      go_simp
                                      with_reducible rfl
                                    rotate_left
                                    · simp only [Act.put, List.setIfInBounds_toArray, List.set_cons_zero, List.set_cons_succ, i64_w, i32_w]
                                      rfl
                                    refine pure_ (i := 29) (N := some 21) (v := ?_) (a' := ?_) #[true, true, true, true, true, true, true, true, true, true, true, true, true, true, true, true, true, true, true, true, true, true, true, true, true, true, true, true, true, true, false] rfl rfl (any_of HT_.out (by kernel_rfl)) (fun _ _ _ h => h) (Or.inl ⟨by rfl, ?_⟩) ?_ ?_
                                    rotate_left
                                    · intro w'
                                      go_simp
                                      with_reducible rfl
                                    rotate_left
                                    · simp only [Act.put, List.setIfInBounds_toArray, List.set_cons_zero, List.set_cons_succ, i64_w, i32_w]
                                      rfl
                                    refine pure_ (i := 30) (N := some 22) (v := ?_) (a' := ?_) #[true, true, true, true, true, true, true, true, true, true, true, true, true, true, true, true, true, true, true, true, true, true, true, true, true, true, true, true, true, true, true] rfl rfl (any_of HT_.out (by kernel_rfl)) (fun _ _ _ h => h) (Or.inl ⟨by rfl, ?_⟩) ?_ ?_
                                    rotate_left
                                    · intro w'
                                      go_simp
                                      with_reducible rfl
                                    rotate_left
                                    · simp only [Act.put, List.setIfInBounds_toArray, List.set_cons_zero, List.set_cons_succ, i64_w, i32_w]
                                      rfl
                                    refine done_ (done_of HT_.out (by kernel_rfl)) ?_
                                    try go_wp2
                                    go_roundg k4
                                    case measure => have := HJ3.out; have := HK2.out; have := HJ33.out; have := HK4.out; omega
                                    case rel => exact ⟨(ji45), (ji48), (wrap64 (x160_4 + 1)), (by first | rfl | (simp; done) | (simp only [← hji45] <;> (first | rfl | simp)) | (simp [*]; done)), (by first | rfl | (simp; done) | (simp only [← hji48] <;> (first | rfl | simp)) | (simp [*]; done)), (by first | rfl | (simp; done) | (simp [*]; done)), H', ⟨by have := HJ3.out; have := HK2.out; have := HJ33.out; have := HK4.out; omega⟩, ⟨by repeat (first | (with_reducible first | exact HB.out | apply below_alloc | apply pw_below_drewN | apply below_drew1 | refine below_set ?_ GE160.out) | exact HB.out)⟩⟩
                                  · rw [if_neg c42] at H
                                    exact absurd H (by simp)
                                · rw [if_neg c41] at H
                                  exact absurd H (by simp)
                              · rw [if_neg c40] at H
                                have c40b0 : decide (x160_4 < (l0.length : Int)) = false := decide_eq_false c40
                                clear c40
                                by_cases c53 : x21_4 > x22_4
                                · rw [if_pos c53] at H
                                  have c53b0 : decide (x22_4 < x21_4) = true := decide_eq_true c53
                                  clear c53
                                  by_cases c54 : t149 = 8
                                  · rw [if_pos c54] at H
                                    have c54b0 : (t149 == 8) = true := beq_iff_eq.mpr c54
                                    have c54b1 : (t149 != 8) = false := bne_eq_false_iff_eq.mpr c54
                                    clear c54
                                    by_cases c55 : t147 = 0
                                    · rw [if_pos c55] at H
                                      have c55b0 : (t147 == 0) = true := beq_iff_eq.mpr c55
                                      have c55b1 : (t147 != 0) = false := bne_eq_false_iff_eq.mpr c55
                                      clear c55
                                      obtain rfl := Option.some.inj H
                                      go_wp2
                                      go_ret
                                      exact ⟨by first | rfl | (simp [errW_none, errW_some] <;> rfl) | (simp [*, errW_none, errW_some] <;> rfl), by repeat (first | (with_reducible first | exact HB.out | apply below_alloc | apply pw_below_drewN | apply below_drew1) | exact HB.out)⟩
                                    · rw [if_neg c55] at H
                                      have c55b0 : (t147 == 0) = false := beq_eq_false_iff_ne.mpr c55
                                      have c55b1 : (t147 != 0) = true := bne_iff_ne.mpr c55
                                      obtain rfl := Option.some.inj H
                                      go_wp2
                                      go_ret
                                      exact ⟨by first | rfl | (simp [errW_none, errW_some] <;> rfl) | (simp [*, errW_none, errW_some] <;> rfl), by repeat (first | (with_reducible first | exact HB.out | apply below_alloc | apply pw_below_drewN | apply below_drew1) | exact HB.out)⟩
                                  · rw [if_neg c54] at H
                                    have c54b0 : (t149 == 8) = false := beq_eq_false_iff_ne.mpr c54
                                    have c54b1 : (t149 != 8) = true := bne_iff_ne.mpr c54
                                    obtain rfl := Option.some.inj H
                                    go_wp2
                                    go_ret
                                    exact ⟨by first | rfl | (simp [errW_none, errW_some] <;> rfl) | (simp [*, errW_none, errW_some] <;> rfl), by repeat (first | (with_reducible first | exact HB.out | apply below_alloc | apply pw_below_drewN | apply below_drew1) | exact HB.out)⟩
                                · rw [if_neg c53] at H
                                  have c53b0 : decide (x22_4 < x21_4) = false := decide_eq_false c53
                                  clear c53
                                  by_cases c56 : t149 = 0
                                  · rw [if_pos c56] at H
                                    have c56b0 : (t149 == 0) = true := beq_iff_eq.mpr c56
                                    have c56b1 : (t149 != 0) = false := bne_eq_false_iff_eq.mpr c56
                                    clear c56
                                    by_cases c57 : t147 = x21_4
                                    · rw [if_pos c57] at H
                                      have c57b0 : (t147 == x21_4) = true := beq_iff_eq.mpr c57
                                      have c57b1 : (t147 != x21_4) = false := bne_eq_false_iff_eq.mpr c57
                                      clear c57
                                      obtain rfl := Option.some.inj H
                                      go_wp2
                                      go_ret
                                      exact ⟨by first | rfl | (simp [errW_none, errW_some] <;> rfl) | (simp [*, errW_none, errW_some] <;> rfl), by repeat (first | (with_reducible first | exact HB.out | apply below_alloc | apply pw_below_drewN | apply below_drew1) | exact HB.out)⟩
                                    · rw [if_neg c57] at H
                                      have c57b0 : (t147 == x21_4) = false := beq_eq_false_iff_ne.mpr c57
                                      have c57b1 : (t147 != x21_4) = true := bne_iff_ne.mpr c57
                                      obtain rfl := Option.some.inj H
                                      go_wp2
                                      go_ret
                                      exact ⟨by first | rfl | (simp [errW_none, errW_some] <;> rfl) | (simp [*, errW_none, errW_some] <;> rfl), by repeat (first | (with_reducible first | exact HB.out | apply below_alloc | apply pw_below_drewN | apply below_drew1) | exact HB.out)⟩
                                  · rw [if_neg c56] at H
                                    have c56b0 : (t149 == 0) = false := beq_eq_false_iff_ne.mpr c56
                                    have c56b1 : (t149 != 0) = true := bne_iff_ne.mpr c56
                                    obtain rfl := Option.some.inj H
                                    go_wp2
                                    go_ret
                                    exact ⟨by first | rfl | (simp [errW_none, errW_some] <;> rfl) | (simp [*, errW_none, errW_some] <;> rfl), by repeat (first | (with_reducible first | exact HB.out | apply below_alloc | apply pw_below_drewN | apply below_drew1) | exact HB.out)⟩
                        · replace c39 := Bool.eq_false_iff.mpr c39
                          subst c39
                          have H1 : (some (t149 == 4)) = some r := by rw [if_neg (show ¬ (false = true) by decide)] at H; exact H
                          clear H
                          have H := H1
                          clear H1
                          obtain rfl := Option.some.inj H
                          go_wp2_with (first | ((with_reducible refine gate_callee (f := 28) rfl ?_); refine goesL_ (some 154) rfl rfl Try.func28 (by kernel_rfl) rfl #[.int .i64 a1, .int .i64 0, .int .i64 200000] rfl (by (try simp only [List.map_toArray, List.map_cons, List.map_nil]); first | done | rfl | (simp only [List.length_drop, List.length_take]; rfl)) ?_; (with_reducible refine (skywayref2_In.calls a1 0 200000 false _ A38.out).mono ?_); rintro e w' ⟨rfl, ⟨nd, rfl⟩⟩; refine ⟨_, rfl, ?_⟩))
                          go_ret
                          exact ⟨by first | rfl | (simp [errW_none, errW_some] <;> rfl) | (simp [*, errW_none, errW_some] <;> rfl), by repeat (first | (with_reducible first | exact HB.out | apply below_alloc | apply pw_below_drewN | apply below_drew1) | exact HB.out)⟩
        · rw [if_neg c15] at H
          have c15b0 : (t150 == 0) = false := beq_eq_false_iff_ne.mpr c15
          have c15b1 : (t150 != 0) = true := bne_iff_ne.mpr c15
          replace H := Option.bind_eq_some_iff.mp H
          obtain ⟨t151, A580, H⟩ := H
          replace H : (if t151 = t150 then (if t146 = t150 then (some (t149 == t150)) else (some false)) else (some false)) = some r := H
          have A58 := Aside0.mk A580
          clear A580
          by_cases c59 : t151 = t150
          · rw [if_pos c59] at H
            have c59b0 : (t151 == t150) = true := beq_iff_eq.mpr c59
            have c59b1 : (t151 != t150) = false := bne_eq_false_iff_eq.mpr c59
            clear c59
            by_cases c60 : t146 = t150
            · rw [if_pos c60] at H
              have c60b0 : (t146 == t150) = true := beq_iff_eq.mpr c60
              have c60b1 : (t146 != t150) = false := bne_eq_false_iff_eq.mpr c60
              clear c60
              obtain rfl := Option.some.inj H
              go_wp2_with (first | ((with_reducible refine gate_callee (f := 22) rfl ?_); refine goesL_ (some 46) rfl rfl Try.func22 (by kernel_rfl) rfl #[.slice A0 l0.length c0] rfl (by (try simp only [List.map_toArray, List.map_cons, List.map_nil]); first | done | rfl | (simp only [List.length_drop, List.length_take]; rfl)) ?_; (with_reducible refine (climb_Rates.calls kj3 _ _ l0 t144 t145 t146 _ ?side1 ?side2 A12.out).mono ?_); (case side1 => repeat (first | exact (Kd.C_below HR0.out HB.out) | (with_reducible refine Kd.C_alloc ?_ _) | (with_reducible refine Kd.C_drewN ?_ _) | (with_reducible refine Kd.C_drew ?_))); (case side2 => exact HC0.out); rintro e w61 ⟨rfl, hb⟩; refine ⟨_, rfl, ?_⟩; have n0_ := Aside0.mk (below_step (by repeat (first | (with_reducible first | exact HB.out | apply below_alloc | apply pw_below_drewN | apply below_drew1) | exact HB.out)) hb); clear HB; have HB := n0_; clear n0_; (try clear hb); (try clear hb2); (try clear hk); (try clear hi)) | ((with_reducible refine gate_callee (f := 23) rfl ?_); refine goesL_ (some 53) rfl rfl Try.func23 (by kernel_rfl) rfl #[.slice A0 l0.length c0, .int .i64 a1] rfl (by (try simp only [List.map_toArray, List.map_cons, List.map_nil]); first | done | rfl | (simp only [List.length_drop, List.length_take]; rfl)) ?_; (with_reducible refine (climb_Heights.calls kj3 _ _ l0 a1 t147 t148 t149 _ ?side1 ?side2 A13.out).mono ?_); (case side1 => repeat (first | exact (Kd.C_below HR0.out HB.out) | (with_reducible refine Kd.C_alloc ?_ _) | (with_reducible refine Kd.C_drewN ?_ _) | (with_reducible refine Kd.C_drew ?_))); (case side2 => exact HC0.out); rintro e w62 ⟨rfl, hb⟩; refine ⟨_, rfl, ?_⟩; have n0_ := Aside0.mk (below_step (by repeat (first | (with_reducible first | exact HB.out | apply below_alloc | apply pw_below_drewN | apply below_drew1) | exact HB.out)) hb); clear HB; have HB := n0_; clear n0_; (try clear hb); (try clear hb2); (try clear hk); (try clear hi)) | ((with_reducible refine gate_callee (f := 24) rfl ?_); refine goesL_ (some 58) rfl rfl Try.func24 (by kernel_rfl) rfl #[.slice A0 l0.length c0] rfl (by (try simp only [List.map_toArray, List.map_cons, List.map_nil]); first | done | rfl | (simp only [List.length_drop, List.length_take]; rfl)) ?_; (with_reducible refine (skywayref2_ReportsError.calls kj3 _ _ l0 t150 _ ?side1 ?side2 A14.out).mono ?_); (case side1 => repeat (first | exact (Kd.C_below HR0.out HB.out) | (with_reducible refine Kd.C_alloc ?_ _) | (with_reducible refine Kd.C_drewN ?_ _) | (with_reducible refine Kd.C_drew ?_))); (case side2 => exact HC0.out); rintro e w63 ⟨rfl, hb⟩; refine ⟨_, rfl, ?_⟩; have n0_ := Aside0.mk (below_step (by repeat (first | (with_reducible first | exact HB.out | apply below_alloc | apply pw_below_drewN | apply below_drew1) | exact HB.out)) hb); clear HB; have HB := n0_; clear n0_; (try clear hb); (try clear hb2); (try clear hk); (try clear hi)) | ((with_reducible refine gate_callee (f := 25) rfl ?_); refine goesL_ (some 62) rfl rfl Try.func25 (by kernel_rfl) rfl #[.slice A0 l0.length c0] rfl (by (try simp only [List.map_toArray, List.map_cons, List.map_nil]); first | done | rfl | (simp only [List.length_drop, List.length_take]; rfl)) ?_; (with_reducible refine (climb_Check.calls kj3 _ _ l0 t151 _ ?side1 ?side2 A58.out).mono ?_); (case side1 => repeat (first | exact (Kd.C_below HR0.out HB.out) | (with_reducible refine Kd.C_alloc ?_ _) | (with_reducible refine Kd.C_drewN ?_ _) | (with_reducible refine Kd.C_drew ?_))); (case side2 => exact HC0.out); rintro e w64 ⟨rfl, hb⟩; refine ⟨_, rfl, ?_⟩; have n0_ := Aside0.mk (below_step (by repeat (first | (with_reducible first | exact HB.out | apply below_alloc | apply pw_below_drewN | apply below_drew1) | exact HB.out)) hb); clear HB; have HB := n0_; clear n0_; (try clear hb); (try clear hb2); (try clear hk); (try clear hi)))
              go_ret
              exact ⟨by first | rfl | (simp [errW_none, errW_some] <;> rfl) | (simp [*, errW_none, errW_some] <;> rfl), by repeat (first | (with_reducible first | exact HB.out | apply below_alloc | apply pw_below_drewN | apply below_drew1) | exact HB.out)⟩
            · rw [if_neg c60] at H
              have c60b0 : (t146 == t150) = false := beq_eq_false_iff_ne.mpr c60
              have c60b1 : (t146 != t150) = true := bne_iff_ne.mpr c60
              obtain rfl := Option.some.inj H
              go_wp2_with (first | ((with_reducible refine gate_callee (f := 22) rfl ?_); refine goesL_ (some 46) rfl rfl Try.func22 (by kernel_rfl) rfl #[.slice A0 l0.length c0] rfl (by (try simp only [List.map_toArray, List.map_cons, List.map_nil]); first | done | rfl | (simp only [List.length_drop, List.length_take]; rfl)) ?_; (with_reducible refine (climb_Rates.calls kj3 _ _ l0 t144 t145 t146 _ ?side1 ?side2 A12.out).mono ?_); (case side1 => repeat (first | exact (Kd.C_below HR0.out HB.out) | (with_reducible refine Kd.C_alloc ?_ _) | (with_reducible refine Kd.C_drewN ?_ _) | (with_reducible refine Kd.C_drew ?_))); (case side2 => exact HC0.out); rintro e w65 ⟨rfl, hb⟩; refine ⟨_, rfl, ?_⟩; have n0_ := Aside0.mk (below_step (by repeat (first | (with_reducible first | exact HB.out | apply below_alloc | apply pw_below_drewN | apply below_drew1) | exact HB.out)) hb); clear HB; have HB := n0_; clear n0_; (try clear hb); (try clear hb2); (try clear hk); (try clear hi)) | ((with_reducible refine gate_callee (f := 23) rfl ?_); refine goesL_ (some 53) rfl rfl Try.func23 (by kernel_rfl) rfl #[.slice A0 l0.length c0, .int .i64 a1] rfl (by (try simp only [List.map_toArray, List.map_cons, List.map_nil]); first | done | rfl | (simp only [List.length_drop, List.length_take]; rfl)) ?_; (with_reducible refine (climb_Heights.calls kj3 _ _ l0 a1 t147 t148 t149 _ ?side1 ?side2 A13.out).mono ?_); (case side1 => repeat (first | exact (Kd.C_below HR0.out HB.out) | (with_reducible refine Kd.C_alloc ?_ _) | (with_reducible refine Kd.C_drewN ?_ _) | (with_reducible refine Kd.C_drew ?_))); (case side2 => exact HC0.out); rintro e w66 ⟨rfl, hb⟩; refine ⟨_, rfl, ?_⟩; have n0_ := Aside0.mk (below_step (by repeat (first | (with_reducible first | exact HB.out | apply below_alloc | apply pw_below_drewN | apply below_drew1) | exact HB.out)) hb); clear HB; have HB := n0_; clear n0_; (try clear hb); (try clear hb2); (try clear hk); (try clear hi)) | ((with_reducible refine gate_callee (f := 24) rfl ?_); refine goesL_ (some 58) rfl rfl Try.func24 (by kernel_rfl) rfl #[.slice A0 l0.length c0] rfl (by (try simp only [List.map_toArray, List.map_cons, List.map_nil]); first | done | rfl | (simp only [List.length_drop, List.length_take]; rfl)) ?_; (with_reducible refine (skywayref2_ReportsError.calls kj3 _ _ l0 t150 _ ?side1 ?side2 A14.out).mono ?_); (case side1 => repeat (first | exact (Kd.C_below HR0.out HB.out) | (with_reducible refine Kd.C_alloc ?_ _) | (with_reducible refine Kd.C_drewN ?_ _) | (with_reducible refine Kd.C_drew ?_))); (case side2 => exact HC0.out); rintro e w67 ⟨rfl, hb⟩; refine ⟨_, rfl, ?_⟩; have n0_ := Aside0.mk (below_step (by repeat (first | (with_reducible first | exact HB.out | apply below_alloc | apply pw_below_drewN | apply below_drew1) | exact HB.out)) hb); clear HB; have HB := n0_; clear n0_; (try clear hb); (try clear hb2); (try clear hk); (try clear hi)) | ((with_reducible refine gate_callee (f := 25) rfl ?_); refine goesL_ (some 62) rfl rfl Try.func25 (by kernel_rfl) rfl #[.slice A0 l0.length c0] rfl (by (try simp only [List.map_toArray, List.map_cons, List.map_nil]); first | done | rfl | (simp only [List.length_drop, List.length_take]; rfl)) ?_; (with_reducible refine (climb_Check.calls kj3 _ _ l0 t151 _ ?side1 ?side2 A58.out).mono ?_); (case side1 => repeat (first | exact (Kd.C_below HR0.out HB.out) | (with_reducible refine Kd.C_alloc ?_ _) | (with_reducible refine Kd.C_drewN ?_ _) | (with_reducible refine Kd.C_drew ?_))); (case side2 => exact HC0.out); rintro e w68 ⟨rfl, hb⟩; refine ⟨_, rfl, ?_⟩; have n0_ := Aside0.mk (below_step (by repeat (first | (with_reducible first | exact HB.out | apply below_alloc | apply pw_below_drewN | apply below_drew1) | exact HB.out)) hb); clear HB; have HB := n0_; clear n0_; (try clear hb); (try clear hb2); (try clear hk); (try clear hi)))
              go_ret
              exact ⟨by first | rfl | (simp [errW_none, errW_some] <;> rfl) | (simp [*, errW_none, errW_some] <;> rfl), by repeat (first | (with_reducible first | exact HB.out | apply below_alloc | apply pw_below_drewN | apply below_drew1) | exact HB.out)⟩
          · rw [if_neg c59] at H
            have c59b0 : (t151 == t150) = false := beq_eq_false_iff_ne.mpr c59
            have c59b1 : (t151 != t150) = true := bne_iff_ne.mpr c59
            obtain rfl := Option.some.inj H
            go_wp2_with (first | ((with_reducible refine gate_callee (f := 22) rfl ?_); refine goesL_ (some 46) rfl rfl Try.func22 (by kernel_rfl) rfl #[.slice A0 l0.length c0] rfl (by (try simp only [List.map_toArray, List.map_cons, List.map_nil]); first | done | rfl | (simp only [List.length_drop, List.length_take]; rfl)) ?_; (with_reducible refine (climb_Rates.calls kj3 _ _ l0 t144 t145 t146 _ ?side1 ?side2 A12.out).mono ?_); (case side1 => repeat (first | exact (Kd.C_below HR0.out HB.out) | (with_reducible refine Kd.C_alloc ?_ _) | (with_reducible refine Kd.C_drewN ?_ _) | (with_reducible refine Kd.C_drew ?_))); (case side2 => exact HC0.out); rintro e w69 ⟨rfl, hb⟩; refine ⟨_, rfl, ?_⟩; have n0_ := Aside0.mk (below_step (by repeat (first | (with_reducible first | exact HB.out | apply below_alloc | apply pw_below_drewN | apply below_drew1) | exact HB.out)) hb); clear HB; have HB := n0_; clear n0_; (try clear hb); (try clear hb2); (try clear hk); (try clear hi)) | ((with_reducible refine gate_callee (f := 23) rfl ?_); refine goesL_ (some 53) rfl rfl Try.func23 (by kernel_rfl) rfl #[.slice A0 l0.length c0, .int .i64 a1] rfl (by (try simp only [List.map_toArray, List.map_cons, List.map_nil]); first | done | rfl | (simp only [List.length_drop, List.length_take]; rfl)) ?_; (with_reducible refine (climb_Heights.calls kj3 _ _ l0 a1 t147 t148 t149 _ ?side1 ?side2 A13.out).mono ?_); (case side1 => repeat (first | exact (Kd.C_below HR0.out HB.out) | (with_reducible refine Kd.C_alloc ?_ _) | (with_reducible refine Kd.C_drewN ?_ _) | (with_reducible refine Kd.C_drew ?_))); (case side2 => exact HC0.out); rintro e w70 ⟨rfl, hb⟩; refine ⟨_, rfl, ?_⟩; have n0_ := Aside0.mk (below_step (by repeat (first | (with_reducible first | exact HB.out | apply below_alloc | apply pw_below_drewN | apply below_drew1) | exact HB.out)) hb); clear HB; have HB := n0_; clear n0_; (try clear hb); (try clear hb2); (try clear hk); (try clear hi)) | ((with_reducible refine gate_callee (f := 24) rfl ?_); refine goesL_ (some 58) rfl rfl Try.func24 (by kernel_rfl) rfl #[.slice A0 l0.length c0] rfl (by (try simp only [List.map_toArray, List.map_cons, List.map_nil]); first | done | rfl | (simp only [List.length_drop, List.length_take]; rfl)) ?_; (with_reducible refine (skywayref2_ReportsError.calls kj3 _ _ l0 t150 _ ?side1 ?side2 A14.out).mono ?_); (case side1 => repeat (first | exact (Kd.C_below HR0.out HB.out) | (with_reducible refine Kd.C_alloc ?_ _) | (with_reducible refine Kd.C_drewN ?_ _) | (with_reducible refine Kd.C_drew ?_))); (case side2 => exact HC0.out); rintro e w71 ⟨rfl, hb⟩; refine ⟨_, rfl, ?_⟩; have n0_ := Aside0.mk (below_step (by repeat (first | (with_reducible first | exact HB.out | apply below_alloc | apply pw_below_drewN | apply below_drew1) | exact HB.out)) hb); clear HB; have HB := n0_; clear n0_; (try clear hb); (try clear hb2); (try clear hk); (try clear hi)) | ((with_reducible refine gate_callee (f := 25) rfl ?_); refine goesL_ (some 62) rfl rfl Try.func25 (by kernel_rfl) rfl #[.slice A0 l0.length c0] rfl (by (try simp only [List.map_toArray, List.map_cons, List.map_nil]); first | done | rfl | (simp only [List.length_drop, List.length_take]; rfl)) ?_; (with_reducible refine (climb_Check.calls kj3 _ _ l0 t151 _ ?side1 ?side2 A58.out).mono ?_); (case side1 => repeat (first | exact (Kd.C_below HR0.out HB.out) | (with_reducible refine Kd.C_alloc ?_ _) | (with_reducible refine Kd.C_drewN ?_ _) | (with_reducible refine Kd.C_drew ?_))); (case side2 => exact HC0.out); rintro e w72 ⟨rfl, hb⟩; refine ⟨_, rfl, ?_⟩; have n0_ := Aside0.mk (below_step (by repeat (first | (with_reducible first | exact HB.out | apply below_alloc | apply pw_below_drewN | apply below_drew1) | exact HB.out)) hb); clear HB; have HB := n0_; clear n0_; (try clear hb); (try clear hb2); (try clear hk); (try clear hi)))
            go_ret
            exact ⟨by first | rfl | (simp [errW_none, errW_some] <;> rfl) | (simp [*, errW_none, errW_some] <;> rfl), by repeat (first | (with_reducible first | exact HB.out | apply below_alloc | apply pw_below_drewN | apply below_drew1) | exact HB.out)⟩

end Go.Proofs.Ytpndjpjpmcehbaa.PClimbBounds
