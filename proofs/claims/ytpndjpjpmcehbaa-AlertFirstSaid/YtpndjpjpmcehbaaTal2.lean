/- What is proved: the law AlertFirst answers true for all values. No condition. -/
import Derived.Test.YtpndjpjpmcehbaaTal1
import Derived.Test.YtpndjpjpmcehbaaEvZd
namespace Go.Proofs.YtpndjpjpmcehbaaTk
open Go Go.Proofs Go.Proofs.YtpndjpjpmcehbaaEv
set_option maxRecDepth 100000
set_option linter.unusedSimpArgs false
set_option linter.unusedVariables false
variable {P : FT → Int → Int → FT × Int}
theorem keep1 {a b : FT} {s0 s1 acc cl fr : Int} : ∀ (d : Nat) (k : Int) (x : Int × Int × Int), 0 ≤ x.1 → (scan P a b s0 s1 acc cl fr d k x).1 = x.1
  | 0, k, x, h => rfl
  | d + 1, k, x, h => by
    unfold scan
    cases errB P a b (W (fr + k)) acc with
    | true => rfl
    | false =>
      simp only [cond_false]
      have hx : decide (x.1 < 0) = false := decide_eq_false (by omega)
      rw [hx, Bool.and_false]
      exact keep1 d (k + 1) _ h
theorem keep2 {a b : FT} {s0 s1 acc cl fr : Int} : ∀ (d : Nat) (k : Int) (x : Int × Int × Int), 0 ≤ x.2.1 → (scan P a b s0 s1 acc cl fr d k x).2.1 = x.2.1
  | 0, k, x, h => rfl
  | d + 1, k, x, h => by
    unfold scan
    cases errB P a b (W (fr + k)) acc with
    | true => rfl
    | false =>
      simp only [cond_false]
      have hx : decide (x.2.1 < 0) = false := decide_eq_false (by omega)
      rw [hx, Bool.and_false]
      exact keep2 d (k + 1) _ h
def Told (o : Option (Int × Int)) (f l : Int) : Prop := match o with
  | none => f = -1 ∧ l = 8
  | some (n, e) => (e = 12 ∧ n = 0 ∧ f = -1 ∧ l = 12) ∨ (e = 0 ∧ f = n ∧ 0 ≤ n)
theorem scan1 {a b : FT} {s0 s1 acc cl fr : Int} : ∀ (d : Nat) (k c : Int), 0 ≤ k → Told (goK P false a b s0 s1 acc cl fr d k) (scan P a b s0 s1 acc cl fr d k (-1, c, 8)).1 (scan P a b s0 s1 acc cl fr d k (-1, c, 8)).2.2
  | 0, k, c, h => ⟨rfl, rfl⟩
  | d + 1, k, c, h => by
    unfold scan goK
    cases errB P a b (W (fr + k)) acc with
    | true => exact Or.inl ⟨rfl, rfl, rfl, rfl⟩
    | false =>
      simp only [cond_false]
      cases tst P false a b s0 s1 (W (fr + k)) acc cl with
      | true => exact Or.inr ⟨rfl, keep1 d (k + 1) _ h, h⟩
      | false => exact scan1 d (k + 1) _ (by omega)
theorem scan2 {a b : FT} {s0 s1 acc cl fr : Int} : ∀ (d : Nat) (k c : Int), 0 ≤ k → Told (goK P true a b s0 s1 acc cl fr d k) (scan P a b s0 s1 acc cl fr d k (c, -1, 8)).2.1 (scan P a b s0 s1 acc cl fr d k (c, -1, 8)).2.2
  | 0, k, c, h => ⟨rfl, rfl⟩
  | d + 1, k, c, h => by
    unfold scan goK
    cases errB P a b (W (fr + k)) acc with
    | true => exact Or.inl ⟨rfl, rfl, rfl, rfl⟩
    | false =>
      simp only [cond_false]
      cases tst P true a b s0 s1 (W (fr + k)) acc cl with
      | true => exact Or.inr ⟨rfl, keep2 d (k + 1) _ h, h⟩
      | false => exact scan2 d (k + 1) _ (by omega)
theorem told_of {o : Option (Int × Int)} {f l : Int} (h : Told o f l) : toldS (o.getD (0, 8)).1 (o.getD (0, 8)).2 f l = true := by
  unfold toldS
  cases o with
  | none => obtain ⟨rfl, rfl⟩ := h; rfl
  | some p =>
    obtain ⟨n, e⟩ := p
    rcases h with ⟨rfl, rfl, rfl, rfl⟩ | ⟨rfl, rfl, h⟩
    · rfl
    · rw [decide_eq_false (show ¬ f < 0 by omega)]; simp
theorem fn_err {w : Bool} {a b : FT} {s0 s1 sec acc cl c : Int} (h : chkS a b s0 s1 sec acc cl = c) (hc : c ≠ 0) : fnS P w a b s0 s1 sec acc cl = (0, c) := by
  unfold fnS; rw [h, decide_eq_false hc]; rfl
theorem fn_ok {w : Bool} {a b : FT} {s0 s1 sec acc cl : Int} (h : chkS a b s0 s1 sec acc cl = 0) : fnS P w a b s0 s1 sec acc cl = (goV P w sec acc cl a b s0 s1 (frS a b) 0).getD (0, 8) := by
  unfold fnS; rw [h]; rfl
theorem pred_ok (a : FT) (t c : Int) (h : (predictS a t c).2 = 0) : checkE (predictS a t c).1 = 0 := by
  unfold predictS at h ⊢
  by_cases c0 : checkE a ≠ 0
  · rw [if_pos c0] at h; exact absurd h c0
  rw [if_neg c0] at h ⊢
  by_cases c1 : t < 0 ∨ 200000 < t ∨ c < 0 ∨ 20 < c
  · rw [if_pos c1] at h; exact absurd h (by decide)
  rw [if_neg c1] at h ⊢
  by_cases c2 : W (t - timeOf a) < 0 ∨ 600 < W (t - timeOf a)
  · rw [if_pos c2] at h; exact absurd h (by decide)
  rw [if_neg c2] at h ⊢
  by_cases c3 : W (t - timeOf a) = 0
  · rw [if_pos c3]; exact Decidable.not_not.1 c0
  rw [if_neg c3] at h ⊢
  by_cases c4 : checkE (predictF dnI betweenS grownI a t c) ≠ 0
  · rw [if_pos c4] at h; exact absurd h (by decide)
  rw [if_neg c4]; exact Decidable.not_not.1 c4
theorem sec_at (n : Int) : -41 < (refDown n 1).tmod 41 ∧ (refDown n 1).tmod 41 < 41 := by
  have := Int.tmod_lt_of_pos (refDown n 1) (show (0 : Int) < 41 by decide)
  have := Int.lt_tmod_of_pos (refDown n 1) (show (0 : Int) < 41 by decide)
  omega
theorem no {b : Bool} (h : b = true) (k : b = false) {p : Prop} : p := by rw [h] at k; cases k
theorem p8 (a0 a1 : FT) (a2 a3 a4 a5 a6 : Int) : l8L predictS a0 a1 a2 a3 a4 a5 a6 = some (.sc (.bool true), []) := by
  rw [l8]
  refine cond_split (fun h => no h (by kernel_rfl)) (fun _ => ?_)
  refine cond_split (fun h => no h (by kernel_rfl)) (fun _ => ?_)
  refine cond_split (fun h => no h (by kernel_rfl)) (fun _ => ?_)
  have hs := sec_at a4
  generalize hsec : (refDown a4 1).tmod 41 = sec at hs ⊢
  by_cases h0 : checkE a0 = 0
  · by_cases h1 : checkE a1 = 0
    · by_cases hr : (0 ≤ a2 ∧ a2 ≤ 1000000) ∧ (0 ≤ a3 ∧ a3 ≤ 60000) ∧ 0 ≤ sec ∧ (0 ≤ a5 ∧ a5 ≤ 20) ∧ (0 ≤ a6 ∧ a6 ≤ 200)
      · have hE : chkS a0 a1 a2 a3 sec a5 a6 = 0 := by
          unfold chkS
          rw [decide_eq_true h0, decide_eq_true h1]
          simp only [cond_true]
          rw [show (decide (a2 < 0) || (decide (a2 > 1000000) || (decide (a3 < 0) || (decide (a3 > 60000) || (decide (sec < 0) || (decide (sec > 300) || (decide (a5 < 0) || (decide (a5 > 20) || (decide (a6 < 0) || decide (a6 > 200)))))))))) = false by simp; omega]
          rfl
        have e2 : inS a2 0 1000000 = true := decide_eq_true hr.1
        have e3 : inS a3 0 60000 = true := decide_eq_true hr.2.1
        have e4 : decide (sec < 0) = false := decide_eq_false (by omega)
        have e5 : inS a5 0 20 = true := decide_eq_true hr.2.2.2.1
        have e6 : inS a6 0 200 = true := decide_eq_true hr.2.2.2.2
        have t1 := told_of (scan1 (P := predictS) (a := a0) (b := a1) (s0 := a2) (s1 := a3) (acc := a5) (cl := a6) (fr := frS a0 a1) (sec + 1 - 0).toNat 0 (-1) (by decide))
        have t2 := told_of (scan2 (P := predictS) (a := a0) (b := a1) (s0 := a2) (s1 := a3) (acc := a5) (cl := a6) (fr := frS a0 a1) (sec + 1 - 0).toNat 0 (-1) (by decide))
        have hpre := chk_pre hE
        simp only [h0, h1, e2, e3, e4, e5, e6, fn_ok hE, show ((0 : Int) == 0) = true from rfl, show ((0 : Int) != 0) = false from rfl, cond_true, cond_false, Bool.not_true]
        refine guard_split hpre ?_
        refine cond_split (fun _ => ?_) (fun h => no t1 h)
        have t2' : toldS ((goV predictS true sec a5 a6 a0 a1 a2 a3 (frS a0 a1) 0).getD (0, 8)).fst ((goV predictS true sec a5 a6 a0 a1 a2 a3 (frS a0 a1) 0).getD (0, 8)).snd (scV predictS sec a5 a6 a0 a1 a2 a3 (max a0.fst.snd.snd.fst a1.fst.snd.snd.fst) 0 (-1, -1, 8)).snd.fst (scV predictS sec a5 a6 a0 a1 a2 a3 (max a0.fst.snd.snd.fst a1.fst.snd.snd.fst) 0 (-1, -1, 8)).snd.snd = true := t2
        rw [t2']
      · have hE : chkS a0 a1 a2 a3 sec a5 a6 = 4 := by
          unfold chkS
          rw [decide_eq_true h0, decide_eq_true h1]
          simp only [cond_true]
          rw [show (decide (a2 < 0) || (decide (a2 > 1000000) || (decide (a3 < 0) || (decide (a3 > 60000) || (decide (sec < 0) || (decide (sec > 300) || (decide (a5 < 0) || (decide (a5 > 20) || (decide (a6 < 0) || decide (a6 > 200)))))))))) = true by simp; omega]
          rfl
        simp only [h0, h1, fn_err hE (by decide), show ((0 : Int) == 0) = true from rfl, show ((4 : Int) == 4) = true from rfl, cond_true, cond_false]
        refine cond_split (fun _ => rfl) (fun e2 => ?_)
        refine cond_split (fun _ => rfl) (fun e3 => ?_)
        refine cond_split (fun _ => rfl) (fun e4 => ?_)
        refine cond_split (fun _ => rfl) (fun e5 => ?_)
        refine cond_split (fun _ => rfl) (fun e6 => ?_)
        simp only [inS, Bool.not_eq_false', decide_eq_true_eq, decide_eq_false_iff_not] at e2 e3 e4 e5 e6
        exact absurd ⟨e2, e3, by omega, e5, e6⟩ hr
    · generalize hc : checkE a1 = c at h1
      have hE : chkS a0 a1 a2 a3 sec a5 a6 = c := by
        unfold chkS
        rw [decide_eq_true h0, hc, decide_eq_false h1]; rfl
      simp only [h0, fn_err hE h1, show ((0 : Int) == 0) = true from rfl, show (c == 0) = false from by simpa using h1, show (c != 0) = true from by simpa using h1, beq_self_eq_true, cond_true, cond_false]
  · generalize hc : checkE a0 = c at h0
    have hE : chkS a0 a1 a2 a3 sec a5 a6 = c := by
      unfold chkS
      rw [hc, decide_eq_false h0]; rfl
    simp only [fn_err hE h0, show ((0 : Int) == 0) = true from rfl, show (c == 0) = false from by simpa using h0, show (c != 0) = true from by simpa using h0, beq_self_eq_true, cond_true, cond_false]
theorem p50 (a0 a1 : Int) : l50L a0 a1 = some (.sc (.int .i64 (apR a0 a1)), []) := by
  rw [l50]; unfold apR
  cases decide (a0 < a1) <;> rfl
theorem e30' : EntOK Try.prog 30 (entV [sFT, sI, sI] (specP [sFT, sI, sI] [sFT, sI] (fun _ => true) fun v => ((predictS v.1 v.2.1 v.2.2.1).1, (predictS v.1 v.2.1 v.2.2.1).2, ()))) := by
  refine entV_ok Try.call30 (liftV T3_ok mixed Try.func30 rfl (kill := []) (noCuts_ok _) (by decide) ?_)
  rintro ⟨⟨⟨a0, a1, a2, ⟨a3, a4⟩, ⟨a5, a6⟩, a7, a8, a9, a10, a11, a12⟩, a13, a14, ⟨a15, a16⟩, a17, a18, a19⟩, a20, a21, ⟨⟩⟩ _
  exact q30 a0 a1 a2 a3 a4 a5 a6 a7 a8 a9 a10 a11 a12 a13 a14 a15 a16 a17 a18 a19 a20 a21
theorem e31' : EntOK Try.prog 31 (entV [sFT, sI, sI] (specP [sFT, sI, sI] [sFT, sI] (fun _ => true) fun v => ((predictS v.1 v.2.1 v.2.2.1).1, (predictS v.1 v.2.1 v.2.2.1).2, ()))) := by
  refine entV_ok Try.call31 (liftV T4_ok mixed Try.func31 rfl (kill := []) (noCuts_ok _) (by decide) ?_)
  rintro ⟨⟨⟨a0, a1, a2, ⟨a3, a4⟩, ⟨a5, a6⟩, a7, a8, a9, a10, a11, a12⟩, a13, a14, ⟨a15, a16⟩, a17, a18, a19⟩, a20, a21, ⟨⟩⟩ _
  refine (q31 a0 a1 a2 a3 a4 a5 a6 a7 a8 a9 a10 a11 a12 a13 a14 a15 a16 a17 a18 a19 a20 a21).trans ?_
  rw [← same_pred]; rfl
theorem T6_ok : TableOK Try.prog (T6 predictS) :=
  ext_ok e30' (ext_ok e31'
  (ext_ok (entV_ok Try.call119 (liftV (T0_ok _) mixed Try.func119 (show Try.f119.body = some (bodyF Try.f119) from rfl) (noCuts_ok _) (by decide) fun v h => l119 v.1.1 v.1.2 v.2.1.1 v.2.1.2))
  (ext_ok (entV_ok Try.call49 (liftV (T0_ok _) mixed Try.func49 (show Try.f49.body = some (bodyF Try.f49) from rfl) (noCuts_ok _) (by decide) fun v h => l49 v.1.1 v.1.2 v.2.1.1 v.2.1.2))
  (ext_ok (entV_ok Try.call120 (liftV (T0_ok _) mixed Try.func120 (show Try.f120.body = some (bodyF Try.f120) from rfl) (noCuts_ok _) (by decide) fun v h => l120 v.1 v.2.1))
  (ext_ok (entV_ok Try.call50 (liftV (T0_ok _) mixed Try.func50 (show Try.f50.body = some (bodyF Try.f50) from rfl) (noCuts_ok _) (by decide) fun v h => p50 v.1 v.2.1)) T5_ok)))))
theorem T7_ok : TableOK Try.prog (T7 predictS) :=
  ext_ok (entV_ok Try.call86 (liftV T6_ok mixed Try.func86 (show Try.f86.body = some (bodyF Try.f86) from rfl) (noCuts_ok _) (by decide) fun v h => p86 v.1.2.2.1 v.1.2.2.2.1 v.1.2.2.2.2 h))
  (ext_ok (entV_ok Try.call87 (liftV T6_ok mixed Try.func87 (show Try.f87.body = some (bodyF Try.f87) from rfl) (noCuts_ok _) (by decide) fun v h => p87 v.1.2.2.1 v.1.2.2.2.1 v.1.2.2.2.2 h))
  (ext_ok (entV_ok Try.call43 (liftV T6_ok mixed Try.func43 (show Try.f43.body = some (bodyF Try.f43) from rfl) (noCuts_ok _) (by decide) fun v h => p43 v.2.2.2.1 v.2.2.2.2.1 h))
  (ext_ok (entV_ok Try.call84 (liftV T6_ok mixed Try.func84 (show Try.f84.body = some (bodyF Try.f84) from rfl) (noCuts_ok _) (by decide) fun v h => p84 v.1 v.2.1 v.2.2.1.1 v.2.2.1.2 v.2.2.2.1 v.2.2.2.2.1 v.2.2.2.2.2.1))
  (ext_ok (entV_ok Try.call85 (liftV T6_ok mixed Try.func85 (show Try.f85.body = some (bodyF Try.f85) from rfl) (noCuts_ok _) (by decide) fun v h => p85 v.1 v.2.1 v.2.2.1 v.2.2.2.1 v.2.2.2.2.1)) T6_ok))))
theorem in40 : CutOK Try.prog Try.f40.ntmps (codeAt 0 (bodyF Try.f40)) [3, 4, 5, 6, 7, 8, 15, 16] [12, 13] (entC kL (cL predictS true)) := loop_cutW (kill := killA 0 kL) T7_ok mixed muL (by kernel_rfl) (noCuts_ok _) fun v h => p40l pred_ok v.2.1 v.2.2.1 v.2.2.2.2.2.2.1 h
theorem in42 : CutOK Try.prog Try.f42.ntmps (codeAt 0 (bodyF Try.f42)) [3, 4, 5, 6, 7, 8, 15, 16] [12, 13] (entC kL (cL predictS false)) := loop_cutW (kill := killA 0 kL) T7_ok mixed muL (by kernel_rfl) (noCuts_ok _) fun v h => p42l pred_ok v.2.1 v.2.2.1 v.2.2.2.2.2.2.1 h
theorem T8_ok : TableOK Try.prog (T8 predictS) :=
  ext_ok (entV_ok Try.call40 (liftV T7_ok mixed Try.func40 (show Try.f40.body = some (bodyF Try.f40) from rfl) (cut_cons (by kernel_rfl) in40 (noCuts_ok _)) (by decide) fun v h => p40 v.1 v.2.1 v.2.2.1.1 v.2.2.1.2 v.2.2.2.1 v.2.2.2.2.1 v.2.2.2.2.2.1))
  (ext_ok (entV_ok Try.call42 (liftV T7_ok mixed Try.func42 (show Try.f42.body = some (bodyF Try.f42) from rfl) (cut_cons (by kernel_rfl) in42 (noCuts_ok _)) (by decide) fun v h => p42 v.1 v.2.1 v.2.2.1.1 v.2.2.1.2 v.2.2.2.1 v.2.2.2.2.1 v.2.2.2.2.2.1))
  (ext_ok (entV_ok Try.call44 (liftV (T0_ok _) mixed Try.func44 (show Try.f44.body = some (bodyF Try.f44) from rfl) (noCuts_ok _) (by decide) fun v h => p44 v.1 v.2.1 v.2.2.1 v.2.2.2.1)) T7_ok))
theorem in8 : CutOK Try.prog Try.f8.ntmps (codeAt 0 (bodyF Try.f8)) [3, 4, 5, 6, 7, 8, 24, 25, 26, 27, 28] [24, 25] (entC k8 (c8 predictS)) := loop_cutW (kill := killA 0 k8) T8_ok mixed mu8 (by kernel_rfl) (noCuts_ok _) fun v h => p8l pred_ok v.2.1 v.2.2.1 v.2.2.2.2.2.2.1 v.2.2.2.2.2.2.2.1 v.2.2.2.2.2.2.2.2.1.1 v.2.2.2.2.2.2.2.2.2.1 h
theorem lawOK (v : denA [(.s (.v ⟨true, (Kd.pair (Kd.pair (Kd.int .i64) (Kd.pair (Kd.int .i64) (Kd.pair (Kd.int .i64) (Kd.pair (Kd.pair (Kd.int .i64) (Kd.int .i64)) (Kd.pair (Kd.pair (Kd.int .i64) (Kd.int .i64)) (Kd.pair (Kd.int .i64) (Kd.pair (Kd.int .i64) (Kd.pair (Kd.int .i64) (Kd.pair (Kd.int .i64) (Kd.pair (Kd.int .i64) (Kd.int .i64))))))))))) (Kd.pair (Kd.int .i64) (Kd.pair (Kd.int .i64) (Kd.pair (Kd.pair (Kd.int .i64) (Kd.int .i64)) (Kd.pair (Kd.int .i64) (Kd.pair (Kd.int .i64) (Kd.int .i64)))))))⟩)), (.s (.v ⟨true, (Kd.pair (Kd.pair (Kd.int .i64) (Kd.pair (Kd.int .i64) (Kd.pair (Kd.int .i64) (Kd.pair (Kd.pair (Kd.int .i64) (Kd.int .i64)) (Kd.pair (Kd.pair (Kd.int .i64) (Kd.int .i64)) (Kd.pair (Kd.int .i64) (Kd.pair (Kd.int .i64) (Kd.pair (Kd.int .i64) (Kd.pair (Kd.int .i64) (Kd.pair (Kd.int .i64) (Kd.int .i64))))))))))) (Kd.pair (Kd.int .i64) (Kd.pair (Kd.int .i64) (Kd.pair (Kd.pair (Kd.int .i64) (Kd.int .i64)) (Kd.pair (Kd.int .i64) (Kd.pair (Kd.int .i64) (Kd.int .i64)))))))⟩)), (.s (.v ⟨true, (Kd.pair (Kd.int .i64) (Kd.int .i64))⟩)), (.s (.v ⟨false, (Kd.int .i64)⟩)), (.s (.v ⟨false, (Kd.int .i64)⟩)), (.s (.v ⟨false, (Kd.int .i64)⟩))]) (h : (both (both (gInt .i64) (both (gInt .i64) (both (gInt .i64) (both (both (gInt .i64) (gInt .i64)) (both (both (gInt .i64) (gInt .i64)) (both (gInt .i64) (both (gInt .i64) (both (gInt .i64) (both (gInt .i64) (both (gInt .i64) (gInt .i64))))))))))) (both (gInt .i64) (both (gInt .i64) (both (both (gInt .i64) (gInt .i64)) (both (gInt .i64) (both (gInt .i64) (gInt .i64))))))) v.1 ∧ (both (both (gInt .i64) (both (gInt .i64) (both (gInt .i64) (both (both (gInt .i64) (gInt .i64)) (both (both (gInt .i64) (gInt .i64)) (both (gInt .i64) (both (gInt .i64) (both (gInt .i64) (both (gInt .i64) (both (gInt .i64) (gInt .i64))))))))))) (both (gInt .i64) (both (gInt .i64) (both (both (gInt .i64) (gInt .i64)) (both (gInt .i64) (both (gInt .i64) (gInt .i64))))))) v.2.1 ∧ (both (gInt .i64) (gInt .i64)) v.2.2.1 ∧ (gInt .i64) v.2.2.2.1 ∧ (gInt .i64) v.2.2.2.2.1 ∧ (gInt .i64) v.2.2.2.2.2.1 ∧ True) : ∃ H', CallOK Try.prog 8 (showA 0 [(.s (.v ⟨true, (Kd.pair (Kd.pair (Kd.int .i64) (Kd.pair (Kd.int .i64) (Kd.pair (Kd.int .i64) (Kd.pair (Kd.pair (Kd.int .i64) (Kd.int .i64)) (Kd.pair (Kd.pair (Kd.int .i64) (Kd.int .i64)) (Kd.pair (Kd.int .i64) (Kd.pair (Kd.int .i64) (Kd.pair (Kd.int .i64) (Kd.pair (Kd.int .i64) (Kd.pair (Kd.int .i64) (Kd.int .i64))))))))))) (Kd.pair (Kd.int .i64) (Kd.pair (Kd.int .i64) (Kd.pair (Kd.pair (Kd.int .i64) (Kd.int .i64)) (Kd.pair (Kd.int .i64) (Kd.pair (Kd.int .i64) (Kd.int .i64)))))))⟩)), (.s (.v ⟨true, (Kd.pair (Kd.pair (Kd.int .i64) (Kd.pair (Kd.int .i64) (Kd.pair (Kd.int .i64) (Kd.pair (Kd.pair (Kd.int .i64) (Kd.int .i64)) (Kd.pair (Kd.pair (Kd.int .i64) (Kd.int .i64)) (Kd.pair (Kd.int .i64) (Kd.pair (Kd.int .i64) (Kd.pair (Kd.int .i64) (Kd.pair (Kd.int .i64) (Kd.pair (Kd.int .i64) (Kd.int .i64))))))))))) (Kd.pair (Kd.int .i64) (Kd.pair (Kd.int .i64) (Kd.pair (Kd.pair (Kd.int .i64) (Kd.int .i64)) (Kd.pair (Kd.int .i64) (Kd.pair (Kd.int .i64) (Kd.int .i64)))))))⟩)), (.s (.v ⟨true, (Kd.pair (Kd.int .i64) (Kd.int .i64))⟩)), (.s (.v ⟨false, (Kd.int .i64)⟩)), (.s (.v ⟨false, (Kd.int .i64)⟩)), (.s (.v ⟨false, (Kd.int .i64)⟩))] v).1 (showA 0 [(.s (.v ⟨true, (Kd.pair (Kd.pair (Kd.int .i64) (Kd.pair (Kd.int .i64) (Kd.pair (Kd.int .i64) (Kd.pair (Kd.pair (Kd.int .i64) (Kd.int .i64)) (Kd.pair (Kd.pair (Kd.int .i64) (Kd.int .i64)) (Kd.pair (Kd.int .i64) (Kd.pair (Kd.int .i64) (Kd.pair (Kd.int .i64) (Kd.pair (Kd.int .i64) (Kd.pair (Kd.int .i64) (Kd.int .i64))))))))))) (Kd.pair (Kd.int .i64) (Kd.pair (Kd.int .i64) (Kd.pair (Kd.pair (Kd.int .i64) (Kd.int .i64)) (Kd.pair (Kd.int .i64) (Kd.pair (Kd.int .i64) (Kd.int .i64)))))))⟩)), (.s (.v ⟨true, (Kd.pair (Kd.pair (Kd.int .i64) (Kd.pair (Kd.int .i64) (Kd.pair (Kd.int .i64) (Kd.pair (Kd.pair (Kd.int .i64) (Kd.int .i64)) (Kd.pair (Kd.pair (Kd.int .i64) (Kd.int .i64)) (Kd.pair (Kd.int .i64) (Kd.pair (Kd.int .i64) (Kd.pair (Kd.int .i64) (Kd.pair (Kd.int .i64) (Kd.pair (Kd.int .i64) (Kd.int .i64))))))))))) (Kd.pair (Kd.int .i64) (Kd.pair (Kd.int .i64) (Kd.pair (Kd.pair (Kd.int .i64) (Kd.int .i64)) (Kd.pair (Kd.int .i64) (Kd.pair (Kd.int .i64) (Kd.int .i64)))))))⟩)), (.s (.v ⟨true, (Kd.pair (Kd.int .i64) (Kd.int .i64))⟩)), (.s (.v ⟨false, (Kd.int .i64)⟩)), (.s (.v ⟨false, (Kd.int .i64)⟩)), (.s (.v ⟨false, (Kd.int .i64)⟩))] v).2 (.sc (.bool true)) H' := by
  exact ⟨[], evFuncV_sound T8_ok mixed Try.func8 (show Try.f8.body = some (bodyF Try.f8) from rfl) (cut_cons (by kernel_rfl) in8 (noCuts_ok _)) (p8 v.1 v.2.1 v.2.2.1.1 v.2.2.1.2 v.2.2.2.1 v.2.2.2.2.1 v.2.2.2.2.2.1) (by rw [showA_len]; decide)⟩
end Go.Proofs.YtpndjpjpmcehbaaTk
