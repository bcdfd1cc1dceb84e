/- What is proved: the whole square root, and what a track's place in a tube is. No condition. -/
import Derived.Test.YtpndjpjpmcehbaaTtc0
import Derived.Test.YtpndjpjpmcehbaaTsq
import Derived.WalkKit
import Derived.ProofKit
import Derived.Laws.Externs
namespace Go.Proofs.YtpndjpjpmcehbaaTu
open Go Go.Proofs Go.Proofs.YtpndjpjpmcehbaaEv Go.Proofs.YtpndjpjpmcehbaaTk
set_option maxRecDepth 100000
set_option linter.unusedSimpArgs false
set_option linter.unusedVariables false
noncomputable abbrev w95aL (a0 : Int) (a1 : Int) := evRound Try.prog TF noCuts 27 (loopOf (codeAt 0 (bodyF Try.f95))) k95 mu95a (killA 0 k95) [0, 3] [3] c95a (a0, (a1, ()))
theorem w95a (a0 : Int) (a1 : Int) : w95aL a0 a1 = (guardB (!decide (a1 = 0))
  (bif decide (a1 > IntKind.i64.wrap (a0.tdiv a1)) then
    guardB (decide (mu95a (a0, IntKind.i64.wrap (a1 - 1), PUnit.unit) < mu95a (a0, a1, ())))
      (guardB (pre95 a0 (IntKind.i64.wrap (a1 - 1)))
        (some (Xt.exit 0, [PV.sc (Value.int IntKind.i64 (dnV a0 (IntKind.i64.wrap (a1 - 1))))], [])))
  else some (Xt.exit 0, [PV.sc (Value.int IntKind.i64 a1)], []))) := by kernel_rfl
noncomputable abbrev w95bL (a0 : Int) (a1 : Int) := evRound Try.prog TF noCuts 27 (loopOf (codeAt 2 (bodyF Try.f95))) k95 mu95b (killA 0 k95) [0, 3] [3] c95b (a0, (a1, ()))
theorem w95b (a0 : Int) (a1 : Int) : w95bL a0 a1 = (guardB (!decide (IntKind.i64.wrap (a1 + 1) = 0))
  (bif decide (IntKind.i64.wrap (a1 + 1) ≤ IntKind.i64.wrap (a0.tdiv (IntKind.i64.wrap (a1 + 1)))) then
    guardB (decide (mu95b (a0, IntKind.i64.wrap (a1 + 1), PUnit.unit) < mu95b (a0, a1, ())))
      (guardB (pre95 a0 (IntKind.i64.wrap (a1 + 1)))
        (some (Xt.exit 2, [PV.sc (Value.int IntKind.i64 (upV a0 (IntKind.i64.wrap (a1 + 1))))], [])))
  else some (Xt.exit 2, [PV.sc (Value.int IntKind.i64 a1)], []))) := by kernel_rfl
noncomputable abbrev w95L (a0 : Int) := evFuncV Try.prog TF (addCut 0 [0, 3] [3] (entC k95 c95a) (addCut 2 [0, 3] [3] (entC k95 c95b) noCuts)) Try.f95 (killA 0 [sI]) (showA 0 [sI] (a0, ())).1 (showA 0 [sI] (a0, ())).2
theorem w95 (a0 : Int) : w95L a0 = (bif decide (a0 ≤ 0) then some (PV.sc (Value.int IntKind.i64 0), [])
else
  guardB (sqF (FloatKind.f64.nearest a0)).isSome
    (bindO (floatToIntVal FloatKind.f64 ((sqF (FloatKind.f64.nearest a0)).getD 0) IntKind.i64) fun x =>
      guardB (pre95 a0 x) (guardB (pre95 a0 (dnV a0 x)) (some (PV.sc (Value.int IntKind.i64 (upV a0 (dnV a0 x))), []))))) := by kernel_rfl
noncomputable abbrev w124L (a0 : YtpndjpjpmcehbaaTu.Tr) := evFuncV Try.prog T0 noCuts Try.f124 (killA 0 [sTrack]) (showA 0 [sTrack] (a0, ())).1 (showA 0 [sTrack] (a0, ())).2
theorem w124 (a0 : YtpndjpjpmcehbaaTu.Tr) : w124L a0 = (bif decide (a0.snd.snd.fst < 0) then some (PV.sc (Value.int IntKind.i64 4), [])
else
  bif decide (a0.snd.snd.fst > 200000) then some (PV.sc (Value.int IntKind.i64 4), [])
  else
    bif decide (a0.snd.snd.snd.fst.fst < -1000000) then some (PV.sc (Value.int IntKind.i64 4), [])
    else
      bif decide (a0.snd.snd.snd.fst.fst > 1000000) then some (PV.sc (Value.int IntKind.i64 4), [])
      else
        bif decide (a0.snd.snd.snd.fst.snd < -1000000) then some (PV.sc (Value.int IntKind.i64 4), [])
        else
          bif decide (a0.snd.snd.snd.fst.snd > 1000000) then some (PV.sc (Value.int IntKind.i64 4), [])
          else
            bif decide (a0.snd.snd.snd.snd.snd.fst < 0) then some (PV.sc (Value.int IntKind.i64 4), [])
            else
              bif decide (a0.snd.snd.snd.snd.snd.fst > 60000) then some (PV.sc (Value.int IntKind.i64 4), [])
              else
                bif decide (a0.snd.snd.snd.snd.snd.snd.snd.fst < 0) then some (PV.sc (Value.int IntKind.i64 4), [])
                else
                  bif decide (a0.snd.snd.snd.snd.snd.snd.snd.fst > 4000000) then
                    some (PV.sc (Value.int IntKind.i64 4), [])
                  else some (PV.sc (Value.int IntKind.i64 0), [])) := by kernel_rfl
noncomputable abbrev w94L (a0 : YtpndjpjpmcehbaaTu.Tr) (a1 : List ((Int × (Int × Int) × Int) × Int × Int)) (a2 : Bool) := evFuncV Try.prog TC1 noCuts Try.f94 (killA 0 [sTrack, rTN]) (showA 0 [sTrack, rTN] (a0, ((a1, a2), ()))).1 (showA 0 [sTrack, rTN] (a0, ((a1, a2), ()))).2
theorem w94 (a0 : YtpndjpjpmcehbaaTu.Tr) (a1 : List ((Int × (Int × Int) × Int) × Int × Int)) (a2 : Bool) : w94L a0 a1 a2 = (bif ctE a0 != 0 then
  some
    (PV.tup
        [PV.agg
            [PV.sc (Value.int IntKind.i64 0), PV.sc (Value.int IntKind.i64 0), PV.sc (Value.int IntKind.i64 0),
              PV.sc (Value.int IntKind.i64 0), PV.sc (Value.int IntKind.i64 0), PV.sc (Value.int IntKind.i64 0)],
          PV.sc (Value.int IntKind.i64 (ctE a0))],
      [Blk.row false
          (((Kd.int IntKind.i64).pair (((Kd.int IntKind.i64).pair (Kd.int IntKind.i64)).pair (Kd.int IntKind.i64))).pair
            ((Kd.int IntKind.i64).pair (Kd.int IntKind.i64)))
          a1])
else
  guardB (bif decide (0 + a1.length ≤ a1.length) then true else false)
    (some
      (PV.tup
          [PV.agg
              [PV.sc (Value.int IntKind.i64 (AtS (List.take a1.length a1) a0.snd.snd.fst).fst.fst.fst),
                PV.sc (Value.int IntKind.i64 (AtS (List.take a1.length a1) a0.snd.snd.fst).fst.fst.snd.fst.fst),
                PV.sc (Value.int IntKind.i64 (AtS (List.take a1.length a1) a0.snd.snd.fst).fst.fst.snd.fst.snd),
                PV.sc (Value.int IntKind.i64 (AtS (List.take a1.length a1) a0.snd.snd.fst).fst.fst.snd.snd),
                PV.sc (Value.int IntKind.i64 (AtS (List.take a1.length a1) a0.snd.snd.fst).fst.snd.fst),
                PV.sc (Value.int IntKind.i64 (AtS (List.take a1.length a1) a0.snd.snd.fst).fst.snd.snd)],
            PV.sc (Value.int IntKind.i64 (AtS (List.take a1.length a1) a0.snd.snd.fst).snd)],
        [Blk.row false
            (((Kd.int IntKind.i64).pair
                  (((Kd.int IntKind.i64).pair (Kd.int IntKind.i64)).pair (Kd.int IntKind.i64))).pair
              ((Kd.int IntKind.i64).pair (Kd.int IntKind.i64)))
            a1]))) := by kernel_rfl
noncomputable abbrev w51L (a0 : YtpndjpjpmcehbaaTu.Tr) (a1 : List ((Int × (Int × Int) × Int) × Int × Int)) (a2 : Bool) := evFuncV Try.prog TC2 noCuts Try.f51 (killA 0 [sTrack, rTN]) (showA 0 [sTrack, rTN] (a0, ((a1, a2), ()))).1 (showA 0 [sTrack, rTN] (a0, ((a1, a2), ()))).2
theorem w51 (a0 : YtpndjpjpmcehbaaTu.Tr) (a1 : List ((Int × (Int × Int) × Int) × Int × Int)) (a2 : Bool) : w51L a0 a1 a2 = (guardB (bif decide (0 + a1.length ≤ a1.length) then true else false)
  (bif (nodeS a0 (List.take a1.length a1)).snd != 0 then
    some
      (PV.tup
          [PV.sc (Value.int IntKind.i64 0), PV.sc (Value.int IntKind.i64 0),
            PV.sc (Value.int IntKind.i64 (nodeS a0 (List.take a1.length a1)).snd)],
        [Blk.row false
            (((Kd.int IntKind.i64).pair
                  (((Kd.int IntKind.i64).pair (Kd.int IntKind.i64)).pair (Kd.int IntKind.i64))).pair
              ((Kd.int IntKind.i64).pair (Kd.int IntKind.i64)))
            a1])
  else
    guardB
      (decide
        (sqr (nodeS a0 (List.take a1.length a1)).fst.fst.snd.fst.fst
            (nodeS a0 (List.take a1.length a1)).fst.fst.snd.fst.snd a0.snd.snd.snd.fst.fst a0.snd.snd.snd.fst.snd <
          9007199254740992))
      (some
        (PV.tup
            [PV.sc
                (Value.int IntKind.i64
                  (max
                    (IntKind.i64.wrap
                      (IntKind.i64.wrap
                          (rootS
                              (sqr (nodeS a0 (List.take a1.length a1)).fst.fst.snd.fst.fst
                                (nodeS a0 (List.take a1.length a1)).fst.fst.snd.fst.snd a0.snd.snd.snd.fst.fst
                                a0.snd.snd.snd.fst.snd) -
                            (nodeS a0 (List.take a1.length a1)).fst.snd.fst) -
                        a0.snd.snd.snd.snd.snd.snd.snd.fst))
                    0)),
              PV.sc
                (Value.int IntKind.i64
                  (max
                    (IntKind.i64.wrap
                      (IntKind.i64.wrap
                          (max
                              (IntKind.i64.wrap
                                ((nodeS a0 (List.take a1.length a1)).fst.fst.snd.snd - a0.snd.snd.snd.snd.snd.fst))
                              (IntKind.i64.wrap
                                (a0.snd.snd.snd.snd.snd.fst - (nodeS a0 (List.take a1.length a1)).fst.fst.snd.snd)) -
                            (nodeS a0 (List.take a1.length a1)).fst.snd.snd) -
                        100))
                    0)),
              PV.sc (Value.int IntKind.i64 0)],
          [Blk.row false
              (((Kd.int IntKind.i64).pair
                    (((Kd.int IntKind.i64).pair (Kd.int IntKind.i64)).pair (Kd.int IntKind.i64))).pair
                ((Kd.int IntKind.i64).pair (Kd.int IntKind.i64)))
              a1])))) := by kernel_rfl
noncomputable abbrev w52L (a0 : YtpndjpjpmcehbaaTu.Tr) (a1 : List ((Int × (Int × Int) × Int) × Int × Int)) (a2 : Bool) := evFuncV Try.prog TC2 noCuts Try.f52 (killA 0 [sTrack, rTN]) (showA 0 [sTrack, rTN] (a0, ((a1, a2), ()))).1 (showA 0 [sTrack, rTN] (a0, ((a1, a2), ()))).2
theorem w52 (a0 : YtpndjpjpmcehbaaTu.Tr) (a1 : List ((Int × (Int × Int) × Int) × Int × Int)) (a2 : Bool) : w52L a0 a1 a2 = (guardB (bif decide (0 + a1.length ≤ a1.length) then true else false)
  (bif (nodeS a0 (List.take a1.length a1)).snd != 0 then
    some
      (PV.tup [PV.sc (Value.int IntKind.i64 0), PV.sc (Value.int IntKind.i64 (nodeS a0 (List.take a1.length a1)).snd)],
        [Blk.row false
            (((Kd.int IntKind.i64).pair
                  (((Kd.int IntKind.i64).pair (Kd.int IntKind.i64)).pair (Kd.int IntKind.i64))).pair
              ((Kd.int IntKind.i64).pair (Kd.int IntKind.i64)))
            a1])
  else
    bif
        decide
          (sqr (nodeS a0 (List.take a1.length a1)).fst.fst.snd.fst.fst
              (nodeS a0 (List.take a1.length a1)).fst.fst.snd.fst.snd a0.snd.snd.snd.fst.fst a0.snd.snd.snd.fst.snd >
            IntKind.i64.wrap
              (IntKind.i64.wrap ((nodeS a0 (List.take a1.length a1)).fst.snd.fst + a0.snd.snd.snd.snd.snd.snd.snd.fst) *
                IntKind.i64.wrap
                  ((nodeS a0 (List.take a1.length a1)).fst.snd.fst + a0.snd.snd.snd.snd.snd.snd.snd.fst))) then
      some
        (PV.tup [PV.sc (Value.int IntKind.i64 2), PV.sc (Value.int IntKind.i64 0)],
          [Blk.row false
              (((Kd.int IntKind.i64).pair
                    (((Kd.int IntKind.i64).pair (Kd.int IntKind.i64)).pair (Kd.int IntKind.i64))).pair
                ((Kd.int IntKind.i64).pair (Kd.int IntKind.i64)))
              a1])
    else
      bif
          decide
            (max (IntKind.i64.wrap ((nodeS a0 (List.take a1.length a1)).fst.fst.snd.snd - a0.snd.snd.snd.snd.snd.fst))
                (IntKind.i64.wrap (a0.snd.snd.snd.snd.snd.fst - (nodeS a0 (List.take a1.length a1)).fst.fst.snd.snd)) >
              IntKind.i64.wrap ((nodeS a0 (List.take a1.length a1)).fst.snd.snd + 100)) then
        some
          (PV.tup [PV.sc (Value.int IntKind.i64 2), PV.sc (Value.int IntKind.i64 0)],
            [Blk.row false
                (((Kd.int IntKind.i64).pair
                      (((Kd.int IntKind.i64).pair (Kd.int IntKind.i64)).pair (Kd.int IntKind.i64))).pair
                  ((Kd.int IntKind.i64).pair (Kd.int IntKind.i64)))
                a1])
      else
        bif
            decide
              (IntKind.i64.wrap ((nodeS a0 (List.take a1.length a1)).fst.snd.fst - a0.snd.snd.snd.snd.snd.snd.snd.fst) ≥
                0) then
          bif
              decide
                (sqr (nodeS a0 (List.take a1.length a1)).fst.fst.snd.fst.fst
                    (nodeS a0 (List.take a1.length a1)).fst.fst.snd.fst.snd a0.snd.snd.snd.fst.fst
                    a0.snd.snd.snd.fst.snd ≤
                  IntKind.i64.wrap
                    (IntKind.i64.wrap
                        ((nodeS a0 (List.take a1.length a1)).fst.snd.fst - a0.snd.snd.snd.snd.snd.snd.snd.fst) *
                      IntKind.i64.wrap
                        ((nodeS a0 (List.take a1.length a1)).fst.snd.fst - a0.snd.snd.snd.snd.snd.snd.snd.fst))) then
            bif
                decide
                  (max
                      (IntKind.i64.wrap
                        ((nodeS a0 (List.take a1.length a1)).fst.fst.snd.snd - a0.snd.snd.snd.snd.snd.fst))
                      (IntKind.i64.wrap
                        (a0.snd.snd.snd.snd.snd.fst - (nodeS a0 (List.take a1.length a1)).fst.fst.snd.snd)) ≤
                    IntKind.i64.wrap ((nodeS a0 (List.take a1.length a1)).fst.snd.snd - 100)) then
              some
                (PV.tup [PV.sc (Value.int IntKind.i64 0), PV.sc (Value.int IntKind.i64 0)],
                  [Blk.row false
                      (((Kd.int IntKind.i64).pair
                            (((Kd.int IntKind.i64).pair (Kd.int IntKind.i64)).pair (Kd.int IntKind.i64))).pair
                        ((Kd.int IntKind.i64).pair (Kd.int IntKind.i64)))
                      a1])
            else
              some
                (PV.tup [PV.sc (Value.int IntKind.i64 1), PV.sc (Value.int IntKind.i64 0)],
                  [Blk.row false
                      (((Kd.int IntKind.i64).pair
                            (((Kd.int IntKind.i64).pair (Kd.int IntKind.i64)).pair (Kd.int IntKind.i64))).pair
                        ((Kd.int IntKind.i64).pair (Kd.int IntKind.i64)))
                      a1])
          else
            some
              (PV.tup [PV.sc (Value.int IntKind.i64 1), PV.sc (Value.int IntKind.i64 0)],
                [Blk.row false
                    (((Kd.int IntKind.i64).pair
                          (((Kd.int IntKind.i64).pair (Kd.int IntKind.i64)).pair (Kd.int IntKind.i64))).pair
                      ((Kd.int IntKind.i64).pair (Kd.int IntKind.i64)))
                    a1])
        else
          some
            (PV.tup [PV.sc (Value.int IntKind.i64 1), PV.sc (Value.int IntKind.i64 0)],
              [Blk.row false
                  (((Kd.int IntKind.i64).pair
                        (((Kd.int IntKind.i64).pair (Kd.int IntKind.i64)).pair (Kd.int IntKind.i64))).pair
                    ((Kd.int IntKind.i64).pair (Kd.int IntKind.i64)))
                  a1]))) := by kernel_rfl
theorem sqrt_run {x r : Nat} (h : sqF x = some r) (w : World) : (callFunc 141 #[.float .f64 x]).run Try.prog w = .ok (.value (.float .f64 r)) w := by
  rw [run_callFunc_extern Try.func141 (by kernel_rfl) (by kernel_rfl) (by kernel_rfl) (e := Extern.MathSqrt.sqrt) (by kernel_rfl)]
  have : (Extern.MathSqrt.sqrt #[.float .f64 x]).run Try.prog w = .ok (.float .f64 r) w := by
    change (match FloatKind.f64.format.sqrt x with
      | some r => (pure (.float .f64 r) : Sem Value)
      | none => do pure (.float .f64 (← choose (.nanBits .f64 x x)))).run Try.prog w = _
    rw [show FloatKind.f64.format.sqrt x = some r from h]
    rfl
  rw [this]; rfl
theorem walk125 {x r : Nat} (h : sqF x = some r) (w : World) : Calls Try.prog 125 #[.float .f64 x] w fun e w' => e = .returned (.float .f64 r) ∧ w' = w := by
  have hd := fun w => sqrt_run h w
  go_enter Try.func125, Try.ntmps125
  go_wp2
  go_ret
  exact ⟨rfl, rfl⟩
theorem e125 : EntOK Try.prog 125 (entV [sF] (specP [sF] [sF] (fun v => (sqF v.1).isSome) fun v => ((sqF v.1).getD 0, ()))) := by
  refine entV_ok Try.call125 ?_
  rintro ⟨x, ⟨⟩⟩ hv r H' hp
  obtain ⟨y, hy⟩ := Option.isSome_iff_exists.1 hv
  have hp : (some (PV.sc (.float .f64 ((sqF x).getD 0)), []) : Option (PV × List Blk)) = some (r, H') := hp
  obtain ⟨rfl, rfl⟩ := Prod.mk.inj (Option.some.inj hp)
  intro m w vs hm _ _ hvs
  have hvs : Rvs m [PV.sc (.float .f64 x)] vs := hvs
  obtain ⟨v, rfl, hv1⟩ := Rvs.of_one hvs
  obtain rfl := Rv_sc.1 hv1
  rw [show sqF x = some y from hy]
  refine Calls.mono (walk125 hy w) ?_
  rintro e w' ⟨rfl, rfl⟩
  refine ⟨_, m, rfl, Rv_sc.2 rfl, fun i _ => rfl, fun i _ => hm i (Nat.zero_le i), fun i B h => by simp [getB] at h, Nat.zero_le _, fun i B h => absurd h (Nat.not_lt_zero i), fun i b base t B _ h => by simp [getB] at h, fun i j b base t b2 t2 B B2 _ _ h => by simp [getB] at h, Fr.refl _ _⟩
theorem TF_ok : TableOK Try.prog TF := ext_ok e125 TU1_ok
theorem tdiv_at {n r : Int} (h : 0 ≤ n) (hr : 1 ≤ r) : IntKind.i64.wrap (n.tdiv r) = W (n / r) ∧ 0 ≤ n / r ∧ n / r ≤ n := by
  rw [Int.tdiv_eq_ediv_of_nonneg h]
  exact ⟨rfl, Int.ediv_nonneg h (by omega), Int.ediv_le_self _ h⟩
theorem dn_step {n r : Int} (h : 1 ≤ r) : dnV n r = bif decide (r > n.tdiv r) then dnV n (r - 1) else r := by
  unfold dnV
  rw [show r.toNat = (r - 1).toNat + 1 by omega]
  rfl
theorem up_step {n r : Int} : upV n r = bif decide (r < n) && decide (r + 1 ≤ n.tdiv (r + 1)) then upV n (r + 1) else r := by
  unfold upV
  by_cases h : r < n
  · rw [decide_eq_true h, Bool.true_and, show (n - r).toNat = (n - (r + 1)).toNat + 1 by omega]
    rfl
  · rw [decide_eq_false h, Bool.false_and, show (n - r).toNat = 0 by omega]
    rfl
theorem p95a (n r : Int) (h : pre95 n r = true) : w95aL n r = some (.exit 0, [.sc (.int .i64 (dnV n r))], []) := by
  obtain ⟨h1, h2, h3, h4⟩ := of_decide_eq_true h
  have ht := tdiv_at (show 0 ≤ n by omega) h3
  have he : n.tdiv r = n / r := Int.tdiv_eq_ediv_of_nonneg (by omega)
  rw [w95a, dn_step h3, ht.1, W_id _ (by omega) (by omega), he, show IntKind.i64.wrap (r - 1) = r - 1 from W_id _ (by omega) (by omega)]
  refine guard_split (by rw [decide_eq_false (by omega)]; rfl) ?_
  refine cond_split (fun hc => ?_) (fun hc => by rw [hc]; rfl)
  rw [hc]
  have hc := of_decide_eq_true hc
  have : r ≠ 1 := by rintro rfl; rw [Int.ediv_one] at hc; omega
  refine guard_split (decide_eq_true ?_) (guard_split (decide_eq_true ⟨h1, h2, by omega, by omega⟩) rfl)
  show (r - 1).toNat < r.toNat
  omega
theorem p95b (n r : Int) (h : pre95 n r = true) : w95bL n r = some (.exit 2, [.sc (.int .i64 (upV n r))], []) := by
  obtain ⟨h1, h2, h3, h4⟩ := of_decide_eq_true h
  have ht := tdiv_at (n := n) (r := r + 1) (show 0 ≤ n by omega) (by omega)
  have he : n.tdiv (r + 1) = n / (r + 1) := Int.tdiv_eq_ediv_of_nonneg (by omega)
  rw [w95b, show upV n r = _ from up_step (n := n) (r := r), show IntKind.i64.wrap (r + 1) = r + 1 from W_id _ (by omega) (by omega), ht.1, W_id _ (by omega) (by omega), he]
  refine guard_split (by rw [decide_eq_false (by omega)]; rfl) ?_
  refine cond_split (fun hc => ?_) (fun hc => by rw [hc, Bool.and_false]; rfl)
  rw [hc]
  have hc := of_decide_eq_true hc
  have hl : r < n := by omega
  rw [decide_eq_true hl]
  refine guard_split (decide_eq_true ?_) (guard_split (decide_eq_true ⟨h1, h2, by omega, ?_⟩) rfl)
  · show (n - (r + 1)).toNat < (n - r).toNat
    omega
  · omega
theorem dn_at {n : Int} (hn : 1 ≤ n) : ∀ (d : Nat) (r : Int), 1 ≤ r → r ≤ d → 1 ≤ rdn n d r ∧ rdn n d r ≤ r ∧ rdn n d r * rdn n d r ≤ n
  | 0, r, h1, h2 => by omega
  | d + 1, r, h1, h2 => by
    unfold rdn
    rw [Int.tdiv_eq_ediv_of_nonneg (by omega)]
    by_cases hc : r > n / r
    · rw [decide_eq_true hc]
      have : r ≠ 1 := by rintro rfl; rw [Int.ediv_one] at hc; omega
      have := dn_at hn d (r - 1) (by omega) (by omega)
      simp only [cond_true]
      exact ⟨this.1, by omega, this.2.2⟩
    · rw [decide_eq_false hc]
      simp only [cond_false]
      exact ⟨h1, Int.le_refl _, (Int.le_ediv_iff_mul_le (by omega)).1 (by omega)⟩
theorem up_at {n : Int} (hn : 0 ≤ n) : ∀ (d : Nat) (r : Int), 0 ≤ r → n - r ≤ d → r * r ≤ n → r ≤ rup n d r ∧ rup n d r * rup n d r ≤ n ∧ n < (rup n d r + 1) * (rup n d r + 1)
  | 0, r, h1, h2, h3 => by
    refine ⟨Int.le_refl _, h3, ?_⟩
    have : (r + 1) * 1 ≤ (r + 1) * (r + 1) := Int.mul_le_mul_of_nonneg_left (by omega) (by omega)
    show n < (r + 1) * (r + 1)
    omega
  | d + 1, r, h1, h2, h3 => by
    unfold rup
    rw [Int.tdiv_eq_ediv_of_nonneg hn]
    by_cases hc : r + 1 ≤ n / (r + 1)
    · rw [decide_eq_true hc]
      have hm := (Int.le_ediv_iff_mul_le (show 0 < r + 1 by omega)).1 hc
      have := up_at hn d (r + 1) (by omega) (by omega) hm
      simp only [cond_true]
      exact ⟨by omega, this.2⟩
    · rw [decide_eq_false hc]
      refine ⟨Int.le_refl _, h3, ?_⟩
      simp only [cond_false]
      rcases Int.lt_or_le n ((r + 1) * (r + 1)) with h | h
      · exact h
      · exact absurd ((Int.le_ediv_iff_mul_le (show 0 < r + 1 by omega)).2 h) hc
theorem r0_at {n : Int} (h1 : 1 ≤ n) (h2 : n < 9007199254740992) : ∃ w, sqF (FloatKind.f64.nearest n) = some w ∧ floatToIntVal .f64 w .i64 = some (r0 n) ∧ 1 ≤ r0 n ∧ r0 n < 9007199254740992 := by
  obtain ⟨w, r, e1, e2, e3, e4⟩ := sqrt_int h1 h2
  have e1 : sqF (FloatKind.f64.nearest n) = some w := e1
  have hr : r0 n = r := by unfold r0; rw [e1]; show (floatToIntVal .f64 w .i64).getD 0 = r; rw [e2]; rfl
  exact ⟨w, e1, by rw [hr]; exact e2, by omega, by omega⟩
theorem root_at' {n : Int} (h1 : 1 ≤ n) (h2 : n < 9007199254740992) : 1 ≤ dnV n (r0 n) ∧ dnV n (r0 n) ≤ r0 n ∧ dnV n (r0 n) * dnV n (r0 n) ≤ n := by
  obtain ⟨w, _, _, h3, h4⟩ := r0_at h1 h2
  exact dn_at h1 (r0 n).toNat (r0 n) h3 (by omega)
theorem root_ok {n : Int} (h1 : 0 ≤ n) (h2 : n < 9007199254740992) : 0 ≤ rootS n ∧ rootS n * rootS n ≤ n ∧ n < (rootS n + 1) * (rootS n + 1) := by
  unfold rootS
  by_cases h : n ≤ 0
  · rw [decide_eq_true h]; simp only [cond_true]; omega
  · rw [decide_eq_false h]
    obtain ⟨a, b, c⟩ := root_at' (by omega) h2
    have := up_at h1 (n - dnV n (r0 n)).toNat (dnV n (r0 n)) (by omega) (by omega) c
    simp only [cond_false]
    refine ⟨?_, this.2⟩
    have h3 := this.1
    show 0 ≤ rup n (n - dnV n (r0 n)).toNat (dnV n (r0 n))
    omega
theorem p95 (n : Int) (h : n < 9007199254740992) : w95L n = some (.sc (.int .i64 (rootS n)), []) := by
  rw [w95]; unfold rootS
  refine cond_split (fun hc => by rw [hc]; rfl) (fun hc => ?_)
  rw [hc]
  have hc := of_decide_eq_false hc
  obtain ⟨w, e1, e2, h3, h4⟩ := r0_at (show 1 ≤ n by omega) h
  obtain ⟨a, b, c⟩ := root_at' (show 1 ≤ n by omega) h
  rw [e1]
  refine guard_split rfl ?_
  rw [show (some w).getD 0 = w from rfl, e2]
  simp only [bindO]
  exact guard_split (decide_eq_true ⟨by omega, h, h3, h4⟩) (guard_split (decide_eq_true ⟨by omega, h, a, by omega⟩) rfl)
theorem p124 (a0 : Tr) : w124L a0 = some (.sc (.int .i64 (ctE a0)), []) := by
  rw [w124]; unfold ctE
  have no : ∀ {c : Bool} {x : Option (PV × List Blk)}, (c = true → ¬ partOk (tT a0) (tX a0) (tY a0) (tH a0) (tR a0) 0) → (c = false → x = some (.sc (.int .i64 (partE (tT a0) (tX a0) (tY a0) (tH a0) (tR a0) 0)), [])) →
      cond c (some (.sc (.int .i64 4), [])) x = some (.sc (.int .i64 (partE (tT a0) (tX a0) (tY a0) (tH a0) (tR a0) 0)), []) := fun {c x} h1 h2 => by
    cases c with
    | true => rw [partE_neg (h1 rfl)]; rfl
    | false => exact h2 rfl
  refine no (fun h k => ?_) (fun c1 => ?_)
  · have h : tT a0 < 0 := of_decide_eq_true h; omega
  refine no (fun h k => ?_) (fun c2 => ?_)
  · have h : tT a0 > 200000 := of_decide_eq_true h; omega
  refine no (fun h k => ?_) (fun c3 => ?_)
  · have h : tX a0 < -1000000 := of_decide_eq_true h; omega
  refine no (fun h k => ?_) (fun c4 => ?_)
  · have h : tX a0 > 1000000 := of_decide_eq_true h; omega
  refine no (fun h k => ?_) (fun c5 => ?_)
  · have h : tY a0 < -1000000 := of_decide_eq_true h; omega
  refine no (fun h k => ?_) (fun c6 => ?_)
  · have h : tY a0 > 1000000 := of_decide_eq_true h; omega
  refine no (fun h k => ?_) (fun c7 => ?_)
  · have h : tH a0 < 0 := of_decide_eq_true h; omega
  refine no (fun h k => ?_) (fun c8 => ?_)
  · have h : tH a0 > 60000 := of_decide_eq_true h; omega
  refine no (fun h k => ?_) (fun c9 => ?_)
  · have h : tR a0 < 0 := of_decide_eq_true h; omega
  refine no (fun h k => ?_) (fun c10 => ?_)
  · have h : tR a0 > 4000000 := of_decide_eq_true h; omega
  have c1 : ¬ tT a0 < 0 := of_decide_eq_false c1
  have c2 : ¬ tT a0 > 200000 := of_decide_eq_false c2
  have c3 : ¬ tX a0 < -1000000 := of_decide_eq_false c3
  have c4 : ¬ tX a0 > 1000000 := of_decide_eq_false c4
  have c5 : ¬ tY a0 < -1000000 := of_decide_eq_false c5
  have c6 : ¬ tY a0 > 1000000 := of_decide_eq_false c6
  have c7 : ¬ tH a0 < 0 := of_decide_eq_false c7
  have c8 : ¬ tH a0 > 60000 := of_decide_eq_false c8
  have c9 : ¬ tR a0 < 0 := of_decide_eq_false c9
  have c10 : ¬ tR a0 > 4000000 := of_decide_eq_false c10
  rw [partE_pos (by omega)]
theorem p94 (a0 : Tr) (l : List TN) (nl : Bool) : w94L a0 l nl = tupN (nodeS a0 l) l := by
  rw [w94]
  simp only [List.take_length, Nat.zero_add, len_true, cond_true]
  unfold nodeS
  refine cond_split (fun h => ?_) (fun h => ?_)
  · rw [decide_eq_false (ne_of_bne h)]; rfl
  · rw [decide_eq_true (eq_of_bne h)]; exact guard_split rfl rfl
theorem ct_in {t : Tr} (h : ctE t = 0) : partOk (tT t) (tX t) (tY t) (tH t) (tR t) 0 := by
  unfold ctE at h
  by_cases k : partOk (tT t) (tX t) (tY t) (tH t) (tR t) 0
  · exact k
  · rw [partE_neg k] at h; exact absurd h (by decide)
/-- Where a node was found: its bounds, those of the track. -/
theorem node_in {t : Tr} {l : List TN} (h : (nodeS t l).2 = 0) : vOk (nodeS t l).1 ∧ partOk (tT t) (tX t) (tY t) (tH t) (tR t) 0 ∧ nodeS t l = AtS l (tT t) ∧ ctE t = 0 := by
  unfold nodeS at h ⊢
  by_cases hc : ctE t = 0
  · rw [decide_eq_true hc] at h ⊢
    simp only [cond_true] at h ⊢
    refine ⟨at_in ?_ h, ct_in hc, trivial, hc⟩
    unfold AtS at h
    by_cases hk : chkT l = 0
    · exact hk
    · rw [if_neg hk] at h; exact absurd h hk
  · rw [decide_eq_false hc] at h; exact absurd h hc
theorem sq_le {n m : Int} (h1 : -m ≤ n) (h2 : n ≤ m) : 0 ≤ n * n ∧ n * n ≤ m * m := by
  have h0 : n.natAbs ≤ m.natAbs := by omega
  have h3 : n.natAbs * n.natAbs ≤ m.natAbs * m.natAbs := Nat.mul_le_mul h0 h0
  have e1 : ((n.natAbs * n.natAbs : Nat) : Int) = n * n := Int.natAbs_mul_self
  have e2 : ((m.natAbs * m.natAbs : Nat) : Int) = m * m := Int.natAbs_mul_self
  omega
theorem sqr_in {x y u v : Int} (h1 : -1000000 ≤ x) (h2 : x ≤ 1000000) (h3 : -1000000 ≤ y) (h4 : y ≤ 1000000) (h5 : -1000000 ≤ u) (h6 : u ≤ 1000000) (h7 : -1000000 ≤ v) (h8 : v ≤ 1000000) : 0 ≤ sqr x y u v ∧ sqr x y u v ≤ 8000000000000 := by
  have k1 := sq_le (n := x - u) (m := 2000000) (by omega) (by omega)
  have k2 := sq_le (n := y - v) (m := 2000000) (by omega) (by omega)
  unfold sqr
  rw [W_id (x - u) (by omega) (by omega), W_id (y - v) (by omega) (by omega), W_id ((x - u) * (x - u)) (by omega) (by omega), W_id ((y - v) * (y - v)) (by omega) (by omega), W_id _ (by omega) (by omega)]
  omega
theorem d_in {t : Tr} {l : List TN} (h : (nodeS t l).2 = 0) : 0 ≤ dS (nodeS t l).1 t ∧ dS (nodeS t l).1 t ≤ 8000000000000 := by
  obtain ⟨a, b, _⟩ := node_in h
  exact sqr_in a.1 a.2.1 a.2.2.1 a.2.2.2.1 b.2.2.1 b.2.2.2.1 b.2.2.2.2.1 b.2.2.2.2.2.1
theorem p51 (a0 : Tr) (l : List TN) (nl : Bool) : w51L a0 l nl = some (.tup [.sc (.int .i64 (excS a0 l).1), .sc (.int .i64 (excS a0 l).2.1), .sc (.int .i64 (excS a0 l).2.2)], [.row false kTN l]) := by
  rw [w51]
  simp only [List.take_length, Nat.zero_add, len_true, cond_true]
  unfold excS
  refine guard_split rfl ?_
  refine cond_split (fun h => ?_) (fun h => ?_)
  · rw [decide_eq_false (ne_of_bne h)]; rfl
  rw [decide_eq_true (eq_of_bne h)]
  have hd := d_in (eq_of_bne h)
  refine guard_split (decide_eq_true ?_) rfl
  show dS (nodeS a0 l).1 a0 < 9007199254740992
  omega
theorem p52 (a0 : Tr) (l : List TN) (nl : Bool) : w52L a0 l nl = some (.tup [.sc (.int .i64 (cmpS a0 l).1), .sc (.int .i64 (cmpS a0 l).2)], [.row false kTN l]) := by
  rw [w52]
  simp only [List.take_length, Nat.zero_add, len_true, cond_true]
  unfold cmpS
  refine guard_split rfl ?_
  refine cond_split (fun h => ?_) (fun h => ?_)
  · rw [decide_eq_false (ne_of_bne h)]; rfl
  rw [decide_eq_true (eq_of_bne h)]
  unfold whatS
  change cond (decide (dS (nodeS a0 l).1 a0 > W (W (Rd (nodeS a0 l).1 + tR a0) * W (Rd (nodeS a0 l).1 + tR a0)))) _ (cond (decide (hS (nodeS a0 l).1 a0 > W (Bn (nodeS a0 l).1 + 100))) _ (cond (decide (W (Rd (nodeS a0 l).1 - tR a0) ≥ 0)) (cond (decide (dS (nodeS a0 l).1 a0 ≤ W (W (Rd (nodeS a0 l).1 - tR a0) * W (Rd (nodeS a0 l).1 - tR a0)))) (cond (decide (hS (nodeS a0 l).1 a0 ≤ W (Bn (nodeS a0 l).1 - 100))) _ _) _) _)) = _
  generalize decide (dS (nodeS a0 l).1 a0 > W (W (Rd (nodeS a0 l).1 + tR a0) * W (Rd (nodeS a0 l).1 + tR a0))) = b1
  generalize decide (hS (nodeS a0 l).1 a0 > W (Bn (nodeS a0 l).1 + 100)) = b2
  generalize decide (W (Rd (nodeS a0 l).1 - tR a0) ≥ 0) = b3
  generalize decide (dS (nodeS a0 l).1 a0 ≤ W (W (Rd (nodeS a0 l).1 - tR a0) * W (Rd (nodeS a0 l).1 - tR a0))) = b4
  generalize decide (hS (nodeS a0 l).1 a0 ≤ W (Bn (nodeS a0 l).1 - 100)) = b5
  cases b1 <;> cases b2 <;> cases b3 <;> cases b4 <;> cases b5 <;> rfl
theorem in95a : CutOK Try.prog Try.f95.ntmps (codeAt 0 (bodyF Try.f95)) [0, 3] [3] (entC k95 c95a) := loop_cutW (kill := killA 0 k95) TF_ok mixed mu95a (by kernel_rfl) (noCuts_ok _) fun v h => p95a v.1 v.2.1 h
theorem in95b : CutOK Try.prog Try.f95.ntmps (codeAt 2 (bodyF Try.f95)) [0, 3] [3] (entC k95 c95b) := loop_cutW (kill := killA 0 k95) TF_ok mixed mu95b (by kernel_rfl) (noCuts_ok _) fun v h => p95b v.1 v.2.1 h
theorem TC1_ok : TableOK Try.prog TC1 :=
  ext_ok (entV_ok Try.call95 (liftV TF_ok mixed Try.func95 (show Try.f95.body = some (bodyF Try.f95) from rfl) (cut_cons (by kernel_rfl) in95a (cut_cons (by kernel_rfl) in95b (noCuts_ok _))) (by decide) fun v h => p95 v.1 (of_decide_eq_true h)))
  (ext_ok (entV_ok Try.call124 (liftV (T0_ok _) mixed Try.func124 (show Try.f124.body = some (bodyF Try.f124) from rfl) (noCuts_ok _) (by decide) fun v h => p124 v.1)) TU4_ok)
theorem TC2_ok : TableOK Try.prog TC2 := ext_ok (entV_ok Try.call94 (liftV TC1_ok mixed Try.func94 (show Try.f94.body = some (bodyF Try.f94) from rfl) (noCuts_ok _) (by decide) fun v h => p94 v.1 v.2.1.1 v.2.1.2)) TC1_ok
theorem TC3_ok : TableOK Try.prog TC3 :=
  ext_ok (entV_ok Try.call51 (liftV TC2_ok mixed Try.func51 (show Try.f51.body = some (bodyF Try.f51) from rfl) (noCuts_ok _) (by decide) fun v h => p51 v.1 v.2.1.1 v.2.1.2))
  (ext_ok (entV_ok Try.call52 (liftV TC2_ok mixed Try.func52 (show Try.f52.body = some (bodyF Try.f52) from rfl) (noCuts_ok _) (by decide) fun v h => p52 v.1 v.2.1.1 v.2.1.2)) TC2_ok)
end Go.Proofs.YtpndjpjpmcehbaaTu
