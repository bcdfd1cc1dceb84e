/- What is proved: where a tube's interpolated nodes lie; what the costs of one track and one flight are. No condition. -/
import Derived.Test.YtpndjpjpmcehbaaTtu2
namespace Go.Proofs.YtpndjpjpmcehbaaTu
open Go Go.Proofs Go.Proofs.YtpndjpjpmcehbaaEv Go.Proofs.YtpndjpjpmcehbaaTk
set_option maxRecDepth 100000
set_option linter.unusedSimpArgs false
set_option linter.unusedVariables false
noncomputable abbrev u88L (l : List TN) (nl : Bool) (c : Int) (cn : Bool) (t : YtpndjpjpmcehbaaTu.Tr) (tn : Bool) := (evFuncV Try.prog TU6 noCuts Try.f88 (killA 0 k88) (showA 0 k88 (((l, nl), ()), ([c], cn), ())).1
  (showA 0 k88 (((l, nl), ()), ([c], cn), ())).2)
theorem u88 (l : List TN) (nl : Bool) (c : Int) (cn : Bool) (t : YtpndjpjpmcehbaaTu.Tr) (tn : Bool) : u88L l nl c cn t tn = (guardB (bif decide (0 + l.length ≤ l.length) then true else false)
  (bif chkT (List.take l.length l) != 0 then
    some
      (PV.sc (Value.int IntKind.i64 (chkT (List.take l.length l))),
        [Blk.fix false [PV.sl 1 0 6 l.length l.length false nl],
          Blk.row false
            (((Kd.int IntKind.i64).pair
                  (((Kd.int IntKind.i64).pair (Kd.int IntKind.i64)).pair (Kd.int IntKind.i64))).pair
              ((Kd.int IntKind.i64).pair (Kd.int IntKind.i64)))
            l,
          Blk.row false (Kd.int IntKind.i64) [c]])
  else
    bif decide (c < 0) then
      some
        (PV.sc (Value.int IntKind.i64 4),
          [Blk.fix false [PV.sl 1 0 6 l.length l.length false nl],
            Blk.row false
              (((Kd.int IntKind.i64).pair
                    (((Kd.int IntKind.i64).pair (Kd.int IntKind.i64)).pair (Kd.int IntKind.i64))).pair
                ((Kd.int IntKind.i64).pair (Kd.int IntKind.i64)))
              l,
            Blk.row false (Kd.int IntKind.i64) [c]])
    else
      bif decide (c > 4095) then
        some
          (PV.sc (Value.int IntKind.i64 4),
            [Blk.fix false [PV.sl 1 0 6 l.length l.length false nl],
              Blk.row false
                (((Kd.int IntKind.i64).pair
                      (((Kd.int IntKind.i64).pair (Kd.int IntKind.i64)).pair (Kd.int IntKind.i64))).pair
                  ((Kd.int IntKind.i64).pair (Kd.int IntKind.i64)))
                l,
              Blk.row false (Kd.int IntKind.i64) [c]])
      else
        some
          (PV.sc (Value.int IntKind.i64 0),
            [Blk.fix false [PV.sl 1 0 6 l.length l.length false nl],
              Blk.row false
                (((Kd.int IntKind.i64).pair
                      (((Kd.int IntKind.i64).pair (Kd.int IntKind.i64)).pair (Kd.int IntKind.i64))).pair
                  ((Kd.int IntKind.i64).pair (Kd.int IntKind.i64)))
                l,
              Blk.row false (Kd.int IntKind.i64) [c]]))) := by kernel_rfl
noncomputable abbrev u45L (l : List TN) (nl : Bool) (c : Int) (cn : Bool) (t : YtpndjpjpmcehbaaTu.Tr) (tn : Bool) := (evFuncV Try.prog TU7 noCuts Try.f45 (killA 0 k45) (showA 0 k45 (([t], tn), ((l, nl), ()), ([c], cn), ())).1
  (showA 0 k45 (([t], tn), ((l, nl), ()), ([c], cn), ())).2)
theorem u45 (l : List TN) (nl : Bool) (c : Int) (cn : Bool) (t : YtpndjpjpmcehbaaTu.Tr) (tn : Bool) : u45L l nl c cn t tn = (guardB (bif decide (0 + l.length ≤ l.length) then bp ([c].length = 1) else false)
  (bif chkC (List.take l.length l) ([c].getD 0 0) != 0 then
    some
      (PV.tup
          [PV.sc (Value.slice none 0 0), PV.sc (Value.int IntKind.i64 (chkC (List.take l.length l) ([c].getD 0 0)))],
        [Blk.row false
            ((Kd.int IntKind.i64).pair
              ((Kd.int IntKind.i64).pair
                ((Kd.int IntKind.i64).pair
                  (((Kd.int IntKind.i64).pair (Kd.int IntKind.i64)).pair
                    (((Kd.int IntKind.i64).pair (Kd.int IntKind.i64)).pair
                      ((Kd.int IntKind.i64).pair
                        ((Kd.int IntKind.i64).pair
                          ((Kd.int IntKind.i64).pair
                            ((Kd.int IntKind.i64).pair ((Kd.int IntKind.i64).pair (Kd.int IntKind.i64)))))))))))
            [t],
          Blk.fix false [PV.sl 2 0 6 l.length l.length false nl],
          Blk.row false
            (((Kd.int IntKind.i64).pair
                  (((Kd.int IntKind.i64).pair (Kd.int IntKind.i64)).pair (Kd.int IntKind.i64))).pair
              ((Kd.int IntKind.i64).pair (Kd.int IntKind.i64)))
            l,
          Blk.row false (Kd.int IntKind.i64) [c]])
  else
    bif trE t != 0 then
      some
        (PV.tup [PV.sc (Value.slice none 0 0), PV.sc (Value.int IntKind.i64 (trE t))],
          [Blk.row false
              ((Kd.int IntKind.i64).pair
                ((Kd.int IntKind.i64).pair
                  ((Kd.int IntKind.i64).pair
                    (((Kd.int IntKind.i64).pair (Kd.int IntKind.i64)).pair
                      (((Kd.int IntKind.i64).pair (Kd.int IntKind.i64)).pair
                        ((Kd.int IntKind.i64).pair
                          ((Kd.int IntKind.i64).pair
                            ((Kd.int IntKind.i64).pair
                              ((Kd.int IntKind.i64).pair ((Kd.int IntKind.i64).pair (Kd.int IntKind.i64)))))))))))
              [t],
            Blk.fix false [PV.sl 2 0 6 l.length l.length false nl],
            Blk.row false
              (((Kd.int IntKind.i64).pair
                    (((Kd.int IntKind.i64).pair (Kd.int IntKind.i64)).pair (Kd.int IntKind.i64))).pair
                ((Kd.int IntKind.i64).pair (Kd.int IntKind.i64)))
              l,
            Blk.row false (Kd.int IntKind.i64) [c]])
    else
      guardB (bif decide (0 + l.length ≤ l.length) then true else false)
        (bif (fitsS t (List.take l.length l)).fst then
          bif decide (t.snd.snd.snd.snd.snd.snd.snd.snd.fst < 0) then
            guardB (bif decide (0 + l.length ≤ l.length) then true else false)
              (bif decide (t.snd.snd.snd.snd.snd.snd.snd.snd.fst < 0) then
                some
                  (PV.tup [PV.sl 4 0 1 1 1 false false, PV.sc (Value.int IntKind.i64 0)],
                    [Blk.row false
                        ((Kd.int IntKind.i64).pair
                          ((Kd.int IntKind.i64).pair
                            ((Kd.int IntKind.i64).pair
                              (((Kd.int IntKind.i64).pair (Kd.int IntKind.i64)).pair
                                (((Kd.int IntKind.i64).pair (Kd.int IntKind.i64)).pair
                                  ((Kd.int IntKind.i64).pair
                                    ((Kd.int IntKind.i64).pair
                                      ((Kd.int IntKind.i64).pair
                                        ((Kd.int IntKind.i64).pair
                                          ((Kd.int IntKind.i64).pair (Kd.int IntKind.i64)))))))))))
                        [t],
                      Blk.fix false [PV.sl 2 0 6 l.length l.length false nl],
                      Blk.row false
                        (((Kd.int IntKind.i64).pair
                              (((Kd.int IntKind.i64).pair (Kd.int IntKind.i64)).pair (Kd.int IntKind.i64))).pair
                          ((Kd.int IntKind.i64).pair (Kd.int IntKind.i64)))
                        l,
                      Blk.row false (Kd.int IntKind.i64) [c], Blk.fix true [PV.sl 5 0 1 1 1 false false],
                      Blk.row true (Kd.int IntKind.i64)
                        [IntKind.i64.wrap
                            (IntKind.i64.wrap
                                ((sqr (AtS (List.take l.length l) t.snd.snd.fst).fst.fst.snd.fst.fst
                                      (AtS (List.take l.length l) t.snd.snd.fst).fst.fst.snd.fst.snd
                                      t.snd.snd.snd.fst.fst t.snd.snd.snd.fst.snd).tdiv
                                  10000) +
                              1048576)]])
              else
                some
                  (PV.tup [PV.sl 4 0 1 1 1 false false, PV.sc (Value.int IntKind.i64 0)],
                    [Blk.row false
                        ((Kd.int IntKind.i64).pair
                          ((Kd.int IntKind.i64).pair
                            ((Kd.int IntKind.i64).pair
                              (((Kd.int IntKind.i64).pair (Kd.int IntKind.i64)).pair
                                (((Kd.int IntKind.i64).pair (Kd.int IntKind.i64)).pair
                                  ((Kd.int IntKind.i64).pair
                                    ((Kd.int IntKind.i64).pair
                                      ((Kd.int IntKind.i64).pair
                                        ((Kd.int IntKind.i64).pair
                                          ((Kd.int IntKind.i64).pair (Kd.int IntKind.i64)))))))))))
                        [t],
                      Blk.fix false [PV.sl 2 0 6 l.length l.length false nl],
                      Blk.row false
                        (((Kd.int IntKind.i64).pair
                              (((Kd.int IntKind.i64).pair (Kd.int IntKind.i64)).pair (Kd.int IntKind.i64))).pair
                          ((Kd.int IntKind.i64).pair (Kd.int IntKind.i64)))
                        l,
                      Blk.row false (Kd.int IntKind.i64) [c], Blk.fix true [PV.sl 5 0 1 1 1 false false],
                      Blk.row true (Kd.int IntKind.i64)
                        [IntKind.i64.wrap
                            ((sqr (AtS (List.take l.length l) t.snd.snd.fst).fst.fst.snd.fst.fst
                                  (AtS (List.take l.length l) t.snd.snd.fst).fst.fst.snd.fst.snd t.snd.snd.snd.fst.fst
                                  t.snd.snd.snd.fst.snd).tdiv
                              10000)]]))
          else
            bif t.snd.snd.snd.snd.snd.snd.snd.snd.fst == c then
              guardB (bif decide (0 + l.length ≤ l.length) then true else false)
                (bif decide (t.snd.snd.snd.snd.snd.snd.snd.snd.fst < 0) then
                  some
                    (PV.tup [PV.sl 4 0 1 1 1 false false, PV.sc (Value.int IntKind.i64 0)],
                      [Blk.row false
                          ((Kd.int IntKind.i64).pair
                            ((Kd.int IntKind.i64).pair
                              ((Kd.int IntKind.i64).pair
                                (((Kd.int IntKind.i64).pair (Kd.int IntKind.i64)).pair
                                  (((Kd.int IntKind.i64).pair (Kd.int IntKind.i64)).pair
                                    ((Kd.int IntKind.i64).pair
                                      ((Kd.int IntKind.i64).pair
                                        ((Kd.int IntKind.i64).pair
                                          ((Kd.int IntKind.i64).pair
                                            ((Kd.int IntKind.i64).pair (Kd.int IntKind.i64)))))))))))
                          [t],
                        Blk.fix false [PV.sl 2 0 6 l.length l.length false nl],
                        Blk.row false
                          (((Kd.int IntKind.i64).pair
                                (((Kd.int IntKind.i64).pair (Kd.int IntKind.i64)).pair (Kd.int IntKind.i64))).pair
                            ((Kd.int IntKind.i64).pair (Kd.int IntKind.i64)))
                          l,
                        Blk.row false (Kd.int IntKind.i64) [c], Blk.fix true [PV.sl 5 0 1 1 1 false false],
                        Blk.row true (Kd.int IntKind.i64)
                          [IntKind.i64.wrap
                              (IntKind.i64.wrap
                                  ((sqr (AtS (List.take l.length l) t.snd.snd.fst).fst.fst.snd.fst.fst
                                        (AtS (List.take l.length l) t.snd.snd.fst).fst.fst.snd.fst.snd
                                        t.snd.snd.snd.fst.fst t.snd.snd.snd.fst.snd).tdiv
                                    10000) +
                                1048576)]])
                else
                  some
                    (PV.tup [PV.sl 4 0 1 1 1 false false, PV.sc (Value.int IntKind.i64 0)],
                      [Blk.row false
                          ((Kd.int IntKind.i64).pair
                            ((Kd.int IntKind.i64).pair
                              ((Kd.int IntKind.i64).pair
                                (((Kd.int IntKind.i64).pair (Kd.int IntKind.i64)).pair
                                  (((Kd.int IntKind.i64).pair (Kd.int IntKind.i64)).pair
                                    ((Kd.int IntKind.i64).pair
                                      ((Kd.int IntKind.i64).pair
                                        ((Kd.int IntKind.i64).pair
                                          ((Kd.int IntKind.i64).pair
                                            ((Kd.int IntKind.i64).pair (Kd.int IntKind.i64)))))))))))
                          [t],
                        Blk.fix false [PV.sl 2 0 6 l.length l.length false nl],
                        Blk.row false
                          (((Kd.int IntKind.i64).pair
                                (((Kd.int IntKind.i64).pair (Kd.int IntKind.i64)).pair (Kd.int IntKind.i64))).pair
                            ((Kd.int IntKind.i64).pair (Kd.int IntKind.i64)))
                          l,
                        Blk.row false (Kd.int IntKind.i64) [c], Blk.fix true [PV.sl 5 0 1 1 1 false false],
                        Blk.row true (Kd.int IntKind.i64)
                          [IntKind.i64.wrap
                              ((sqr (AtS (List.take l.length l) t.snd.snd.fst).fst.fst.snd.fst.fst
                                    (AtS (List.take l.length l) t.snd.snd.fst).fst.fst.snd.fst.snd t.snd.snd.snd.fst.fst
                                    t.snd.snd.snd.fst.snd).tdiv
                                10000)]]))
            else
              some
                (PV.tup [PV.sl 4 0 1 1 1 false false, PV.sc (Value.int IntKind.i64 0)],
                  [Blk.row false
                      ((Kd.int IntKind.i64).pair
                        ((Kd.int IntKind.i64).pair
                          ((Kd.int IntKind.i64).pair
                            (((Kd.int IntKind.i64).pair (Kd.int IntKind.i64)).pair
                              (((Kd.int IntKind.i64).pair (Kd.int IntKind.i64)).pair
                                ((Kd.int IntKind.i64).pair
                                  ((Kd.int IntKind.i64).pair
                                    ((Kd.int IntKind.i64).pair
                                      ((Kd.int IntKind.i64).pair
                                        ((Kd.int IntKind.i64).pair (Kd.int IntKind.i64)))))))))))
                      [t],
                    Blk.fix false [PV.sl 2 0 6 l.length l.length false nl],
                    Blk.row false
                      (((Kd.int IntKind.i64).pair
                            (((Kd.int IntKind.i64).pair (Kd.int IntKind.i64)).pair (Kd.int IntKind.i64))).pair
                        ((Kd.int IntKind.i64).pair (Kd.int IntKind.i64)))
                      l,
                    Blk.row false (Kd.int IntKind.i64) [c], Blk.fix true [PV.sl 5 0 1 1 1 false false],
                    Blk.row true (Kd.int IntKind.i64) [-1]])
        else
          some
            (PV.tup [PV.sl 4 0 1 1 1 false false, PV.sc (Value.int IntKind.i64 0)],
              [Blk.row false
                  ((Kd.int IntKind.i64).pair
                    ((Kd.int IntKind.i64).pair
                      ((Kd.int IntKind.i64).pair
                        (((Kd.int IntKind.i64).pair (Kd.int IntKind.i64)).pair
                          (((Kd.int IntKind.i64).pair (Kd.int IntKind.i64)).pair
                            ((Kd.int IntKind.i64).pair
                              ((Kd.int IntKind.i64).pair
                                ((Kd.int IntKind.i64).pair
                                  ((Kd.int IntKind.i64).pair ((Kd.int IntKind.i64).pair (Kd.int IntKind.i64)))))))))))
                  [t],
                Blk.fix false [PV.sl 2 0 6 l.length l.length false nl],
                Blk.row false
                  (((Kd.int IntKind.i64).pair
                        (((Kd.int IntKind.i64).pair (Kd.int IntKind.i64)).pair (Kd.int IntKind.i64))).pair
                    ((Kd.int IntKind.i64).pair (Kd.int IntKind.i64)))
                  l,
                Blk.row false (Kd.int IntKind.i64) [c], Blk.fix true [PV.sl 5 0 1 1 1 false false],
                Blk.row true (Kd.int IntKind.i64) [-1]])))) := by kernel_rfl
theorem dn_floor {x d : Int} (hd : 0 < d) (h1 : -9000000000000000000 ≤ x) (h2 : x ≤ 9000000000000000000) : (divDown x d).1 = x / d ∧ (divDown x d).2 = 0 := by
  have b0 : decide (d < 0) = false := decide_eq_false (by omega)
  unfold divDown
  rw [if_neg (by omega), b0]
  refine ⟨?_, rfl⟩
  show (if _ then _ else _) = _
  by_cases hx : 0 ≤ x
  · rw [decide_eq_false (show ¬ x < 0 by omega), if_neg (fun h => h.2 rfl), Int.tdiv_eq_ediv_of_nonneg hx]
    have a1 : 0 ≤ x / d := Int.ediv_nonneg hx (by omega)
    have a2 : x / d ≤ x := Int.ediv_le_self _ hx
    exact W_id _ (by omega) (by omega)
  · rw [decide_eq_true (show x < 0 by omega)]
    have a1 : x ≤ x / d := by
      rw [Int.le_ediv_iff_mul_le hd]
      have := Int.mul_le_mul_of_nonpos_left (show x ≤ 0 by omega) (show 1 ≤ d by omega)
      omega
    have a2 : x / d < 1 := by rw [Int.ediv_lt_iff_lt_mul hd]; omega
    by_cases hm : x.tmod d = 0
    · rw [if_neg (fun h => h.1 hm)]
      have hdv : d ∣ x := Int.dvd_of_tmod_eq_zero hm
      rw [Int.tdiv_eq_ediv_of_dvd hdv]
      exact W_id _ (by omega) (by omega)
    · rw [if_pos ⟨hm, by decide⟩]
      have hnd : ¬ d ∣ x := fun h => hm (Int.tmod_eq_zero_of_dvd h)
      have e : x.tdiv d = x / d + 1 := by
        rw [Int.tdiv_eq_ediv, if_neg (fun h => h.elim hx hnd), Int.sign_eq_one_of_pos hd]
      rw [e, W_id (x / d + 1) (by omega) (by omega), W_id _ (by omega) (by omega)]; omega
theorem prod_at {a b n d : Int} (h0 : 0 ≤ n) (h1 : n ≤ d) (hd : 0 < d) (hd2 : d ≤ 200000) (ha : -1000001 ≤ a) (ha2 : a ≤ 1000001) (hb : -1000001 ≤ b) (hb2 : b ≤ 1000001) :
    W (b - a) = b - a ∧ W ((b - a) * n) = (b - a) * n ∧ -9000000000000000000 ≤ (b - a) * n ∧ (b - a) * n ≤ 9000000000000000000 ∧ min a b - a ≤ ((b - a) * n) / d ∧ ((b - a) * n) / d ≤ max a b - a ∧ (((b - a) * n) / d < max a b - a ∨ d ∣ (b - a) * n) := by
  have c1 : W (b - a) = b - a := W_id _ (by omega) (by omega)
  rcases Int.le_total a b with hab | hab
  · have m1 : 0 ≤ (b - a) * n := Int.mul_nonneg (by omega) h0
    have m2 : (b - a) * n ≤ (b - a) * d := Int.mul_le_mul_of_nonneg_left h1 (by omega)
    have m3 : (b - a) * d ≤ 2000002 * 200000 := Int.mul_le_mul (by omega) hd2 (by omega) (by omega)
    have q1 : 0 ≤ ((b - a) * n) / d := Int.ediv_nonneg m1 (by omega)
    have q2 : ((b - a) * n) / d ≤ b - a := Int.ediv_le_of_le_mul hd m2
    refine ⟨c1, W_id _ (by omega) (by omega), by omega, by omega, by omega, by omega, ?_⟩
    by_cases he : ((b - a) * n) / d < max a b - a
    · exact Or.inl he
    · right
      have he : ((b - a) * n) / d = b - a := by omega
      have : (b - a) * d ≤ (b - a) * n := (Int.le_ediv_iff_mul_le hd).1 (by omega)
      exact ⟨b - a, by rw [Int.mul_comm d]; omega⟩
  · have m1 : (b - a) * n ≤ 0 := Int.mul_nonpos_of_nonpos_of_nonneg (by omega) h0
    have m2 : (b - a) * d ≤ (b - a) * n := Int.mul_le_mul_of_nonpos_left (by omega) h1
    have m3 : (a - b) * d ≤ 2000002 * 200000 := Int.mul_le_mul (by omega) hd2 (by omega) (by omega)
    have m4 : (a - b) * d = - ((b - a) * d) := by rw [← Int.neg_mul]; congr 1; omega
    have q1 : b - a ≤ ((b - a) * n) / d := (Int.le_ediv_iff_mul_le hd).2 m2
    have q2 : ((b - a) * n) / d < 1 := by rw [Int.ediv_lt_iff_lt_mul hd]; omega
    refine ⟨c1, W_id _ (by omega) (by omega), by omega, by omega, by omega, by omega, ?_⟩
    by_cases he : ((b - a) * n) / d < max a b - a
    · exact Or.inl he
    · right
      have he : ((b - a) * n) / d = 0 := by omega
      have : 0 * d ≤ (b - a) * n := (Int.le_ediv_iff_mul_le hd).1 (by omega)
      exact ⟨0, by omega⟩
theorem btw_in {a b n d : Int} (h0 : 0 ≤ n) (h1 : n ≤ d) (hd : 0 < d) (hd2 : d ≤ 200000) (ha : -1000001 ≤ a) (ha2 : a ≤ 1000001) (hb : -1000001 ≤ b) (hb2 : b ≤ 1000001) : min a b ≤ btw a b n d ∧ btw a b n d ≤ max a b := by
  obtain ⟨c1, c2, c3, c4, c5, c6, _⟩ := prod_at h0 h1 hd hd2 ha ha2 hb hb2
  unfold btw
  rw [c1, c2, (dn_floor hd c3 c4).1, W_id _ (by omega) (by omega)]
  omega
theorem abv_in {a b n d : Int} (h0 : 0 ≤ n) (h1 : n ≤ d) (hd : 0 < d) (hd2 : d ≤ 200000) (ha : -1000001 ≤ a) (ha2 : a ≤ 1000001) (hb : -1000001 ≤ b) (hb2 : b ≤ 1000001) : min a b ≤ abv a b n d ∧ abv a b n d ≤ max a b := by
  obtain ⟨c1, c2, c3, c4, c5, c6, c7⟩ := prod_at h0 h1 hd hd2 ha ha2 hb hb2
  unfold abv divUp
  rw [c1, c2, (dn_floor hd c3 c4).2, (dn_floor hd c3 c4).1]
  show min a b ≤ W (a + (if _ then _ else _)) ∧ _
  by_cases hm : ((b - a) * n).tmod d = 0
  · rw [if_neg (fun h => h.2 hm), W_id _ (by omega) (by omega)]; omega
  · rw [if_pos ⟨rfl, hm⟩]
    have hlt : ((b - a) * n) / d < max a b - a := c7.resolve_right (fun h => hm (Int.tmod_eq_zero_of_dvd h))
    rw [W_id (((b - a) * n) / d + 1) (by omega) (by omega), W_id _ (by omega) (by omega)]; omega
/-- What is told of a node that is found. -/
theorem at_in {l : List TN} {t : Int} (h : chkT l = 0) (ht : (AtS l t).2 = 0) : vOk (AtS l t).1 := by
  unfold AtS at ht ⊢
  rw [if_pos h] at ht ⊢
  unfold atS at ht ⊢
  obtain ⟨h1, h2, h3⟩ := chk_len h
  obtain ⟨f, hf⟩ := get_ex (l := l) (k := 0) (by omega)
  obtain ⟨z, hz⟩ := get_ex (l := l) (k := l.length - 1) (by omega)
  rw [atL_of hf, atL_of hz] at ht ⊢
  by_cases c : t < tm f ∨ tm z < t
  · rw [if_pos c] at ht; exact absurd ht (by decide)
  rw [if_neg c] at ht ⊢
  obtain ⟨a, q1, q2, q3, q4⟩ := idxK_at (l := l) (t := t) l.length 0 (by omega) (by omega) ⟨f, hf, by omega⟩
  have q0 : idx l t 0 = idxK l t l.length 0 := rfl
  rw [← q0] at q1 q2 q4
  generalize idx l t 0 = i at q1 q2 q4 ht ⊢
  rw [atL_of q2] at ht ⊢
  have k1 := node_ok h q2
  by_cases c3 : tm a = t
  · rw [if_pos c3]; exact k1.2.1
  rw [if_neg c3] at ht ⊢
  have hi : i + 1 < l.length := by
    rcases Nat.lt_or_ge (i + 1) l.length with h | h
    · exact h
    · have : i = l.length - 1 := by omega
      rw [this, hz] at q2; cases q2; omega
  obtain ⟨b, hb⟩ := get_ex hi
  rw [atL_of hb]
  have k2 := node_ok h hb
  have k3 := q4 b hb
  obtain ⟨⟨t1, t2⟩, ⟨x1, x2, y1, y2, u1, u2, r1, r2, b1, b2⟩, _⟩ := k1
  obtain ⟨⟨s1, s2⟩, ⟨v1, v2, w1, w2, z1, z2, e1, e2, g1, g2⟩, _⟩ := k2
  have hd : W (tm b - tm a) = tm b - tm a := W_id _ (by omega) (by omega)
  have hn : W (t - tm a) = t - tm a := W_id _ (by omega) (by omega)
  have B : ∀ {p q : Int}, -1000001 ≤ p → p ≤ 1000001 → -1000001 ≤ q → q ≤ 1000001 → min p q ≤ btw p q (t - tm a) (tm b - tm a) ∧ btw p q (t - tm a) (tm b - tm a) ≤ max p q := fun h1 h2 h3 h4 => btw_in (by omega) (by omega) (by omega) (by omega) h1 h2 h3 h4
  have A : ∀ {p q : Int}, -1000001 ≤ p → p ≤ 1000001 → -1000001 ≤ q → q ≤ 1000001 → min p q ≤ abv p q (t - tm a) (tm b - tm a) ∧ abv p q (t - tm a) (tm b - tm a) ≤ max p q := fun h1 h2 h3 h4 => abv_in (by omega) (by omega) (by omega) (by omega) h1 h2 h3 h4
  have hT : towS (X a) (Y a) (X b) (Y b) (t - tm a) (tm b - tm a) = ((btw (X a) (X b) (t - tm a) (tm b - tm a), btw (Y a) (Y b) (t - tm a) (tm b - tm a)), 0) := by
    unfold towS
    rw [if_neg (by omega), if_neg (fun h => by
      rcases h with h | h | h | h | h
      · omega
      · omega
      · omega
      · exact h (chk_yes ⟨x1, x2, y1, y2⟩)
      · exact h (chk_yes ⟨v1, v2, w1, w2⟩))]
  have p1 := B (p := X a) (q := X b) (by omega) (by omega) (by omega) (by omega)
  have p2 := B (p := Y a) (q := Y b) (by omega) (by omega) (by omega) (by omega)
  have p3 := B (p := Hh a) (q := Hh b) (by omega) (by omega) (by omega) (by omega)
  have p4 := A (p := Rd a) (q := Rd b) (by omega) (by omega) (by omega) (by omega)
  have p5 := A (p := Bn a) (q := Bn b) (by omega) (by omega) (by omega) (by omega)
  have hmid : mid a b t = ((t, (btw (X a) (X b) (t - tm a) (tm b - tm a), btw (Y a) (Y b) (t - tm a) (tm b - tm a)), btw (Hh a) (Hh b) (t - tm a) (tm b - tm a)), abv (Rd a) (Rd b) (t - tm a) (tm b - tm a), abv (Bn a) (Bn b) (t - tm a) (tm b - tm a)) := by
    unfold mid; rw [hd, hn, hT]
  show vOk (mid a b t)
  rw [hmid]
  show -1000000 ≤ btw (X a) (X b) (t - tm a) (tm b - tm a) ∧ btw (X a) (X b) (t - tm a) (tm b - tm a) ≤ 1000000 ∧ -1000000 ≤ btw (Y a) (Y b) (t - tm a) (tm b - tm a) ∧ btw (Y a) (Y b) (t - tm a) (tm b - tm a) ≤ 1000000 ∧ 0 ≤ btw (Hh a) (Hh b) (t - tm a) (tm b - tm a) ∧ btw (Hh a) (Hh b) (t - tm a) (tm b - tm a) ≤ 60000 ∧ 0 ≤ abv (Rd a) (Rd b) (t - tm a) (tm b - tm a) ∧ abv (Rd a) (Rd b) (t - tm a) (tm b - tm a) ≤ 1000000 ∧ 0 ≤ abv (Bn a) (Bn b) (t - tm a) (tm b - tm a) ∧ abv (Bn a) (Bn b) (t - tm a) (tm b - tm a) ≤ 60000
  omega
theorem apt_eq {a b : Int} (h1 : 0 ≤ a) (h2 : a ≤ 60000) (h3 : 0 ≤ b) (h4 : b ≤ 60000) : aptR a b = apt a b := by
  unfold aptR apt
  rw [W_id (b - a) (by omega) (by omega), W_id (a - b) (by omega) (by omega)]
  refine cond_split (fun h => ?_) (fun h => ?_)
  · have := of_decide_eq_true h; omega
  · have := of_decide_eq_false h; omega
theorem tr_in {t : Tr} (h : trE t = 0) : partOk (tT t) (tX t) (tY t) (tH t) (tR t) (tC t) := by
  unfold trE at h
  by_cases k : partOk (tT t) (tX t) (tY t) (tH t) (tR t) (tC t)
  · exact k
  · rw [partE_neg k] at h; exact absurd h (by decide)
/-! ### Costs -/
theorem p88 (l : List TN) (nl : Bool) (c : Int) (cn : Bool) (t : Tr) (tn : Bool) : u88L l nl c cn t tn = some (.sc (.int .i64 (chkC l c)), (showA 0 k88 (((l, nl), ()), ([c], cn), ())).2) := by
  rw [u88]
  simp only [List.take_length, Nat.zero_add, len_true, cond_true]
  unfold chkC
  refine guard_split rfl ?_
  refine cond_split (fun h => ?_) (fun h => ?_)
  · rw [if_neg (ne_of_bne h)]; rfl
  rw [if_pos (eq_of_bne h)]
  refine cond_split (fun h => ?_) (fun h1 => ?_)
  · rw [if_pos (Or.inl (of_decide_eq_true h))]; rfl
  refine cond_split (fun h => ?_) (fun h2 => ?_)
  · rw [if_pos (Or.inr (of_decide_eq_true h))]; rfl
  · rw [if_neg (fun h => h.elim (of_decide_eq_false h1) (of_decide_eq_false h2))]; rfl
theorem TU7_ok : TableOK Try.prog TU7 := by
  refine ext_ok (entV_ok Try.call88 (liftV TU6_ok mixed Try.func88 (show Try.f88.body = some (bodyF Try.f88) from rfl) (kill := killA 0 k88) (noCuts_ok _) (by decide) ?_)) TU6_ok
  rintro ⟨lv, ⟨cs, cn⟩, ⟨⟩⟩ h
  have h : cs.length = 1 := bp_true.1 h
  obtain ⟨c, rfl⟩ : ∃ c, cs = [c] := List.length_eq_one_iff.1 h
  exact p88 lv.1.1 lv.1.2 c cn (0, 0, 0, (0, 0), (0, 0), 0, 0, 0, 0, 0, 0) false
theorem p45 (l : List TN) (nl : Bool) (c : Int) (cn : Bool) (t : Tr) (tn : Bool) : u45L l nl c cn t tn = pickA (sp45 (([t], tn), ((l, nl), ()), ([c], cn), ())).2 := by
  have key : ∀ (x : Option (PV × List Blk)), x = cond (decide (costE t l c = 0)) (some (.tup [.sl 4 0 1 1 1 false false, .sc (.int .i64 0)], (showA 0 k45 (([t], tn), ((l, nl), ()), ([c], cn), ())).2 ++ [.fix true [.sl 5 0 1 1 1 false false], .row true I [costV t l c]]))
      (some (.tup [.sc (.slice none 0 0), .sc (.int .i64 (costE t l c))], (showA 0 k45 (([t], tn), ((l, nl), ()), ([c], cn), ())).2)) → x = pickA (sp45 (([t], tn), ((l, nl), ()), ([c], cn), ())).2 := fun x h => h
  refine key _ ?_
  rw [u45]
  simp only [List.take_length, Nat.zero_add, len_true, cond_true]
  unfold costE
  rw [show ([c].getD 0 0) = c from rfl]
  refine guard_split (bp_mk rfl) ?_
  refine cond_split (fun h => ?_) (fun h => ?_)
  · rw [if_neg (ne_of_bne h), decide_eq_false (ne_of_bne h)]; rfl
  rw [if_pos (eq_of_bne h)]
  refine cond_split (fun h => ?_) (fun h => ?_)
  · rw [decide_eq_false (ne_of_bne h)]; rfl
  rw [decide_eq_true (eq_of_bne h)]
  refine guard_split rfl ?_
  unfold costV
  refine cond_split (fun h1 => ?_) (fun h1 => ?_)
  · rw [h1]
    refine cond_split (fun h2 => ?_) (fun h2 => ?_)
    · rw [show decide (tC t < 0) = true from h2]
      refine guard_split rfl ?_
      refine cond_split (fun h3 => rfl) (fun h3 => ?_)
      rw [h2] at h3; cases h3
    · rw [show decide (tC t < 0) = false from h2]
      refine cond_split (fun h3 => ?_) (fun h3 => ?_)
      · rw [show (tC t == c) = true from h3]
        refine guard_split rfl ?_
        refine cond_split (fun h4 => ?_) (fun h4 => rfl)
        rw [h2] at h4; cases h4
      · rw [show (tC t == c) = false from h3]; rfl
  · rw [h1]; rfl
theorem TU8_ok : TableOK Try.prog TU8 := by
  refine ext_ok (entV_ok Try.call45 (liftV TU7_ok mixed Try.func45 (show Try.f45.body = some (bodyF Try.f45) from rfl) (kill := killA 0 k45) (noCuts_ok _) (by decide) ?_)) TU7_ok
  rintro ⟨⟨ts, tn⟩, lv, ⟨cs, cn⟩, ⟨⟩⟩ h
  match ts, cs, h with
  | [t], [c], _ => exact p45 lv.1.1 lv.1.2 c cn t tn
  | [], _, h => cases h
  | _ :: _ :: _, _, h => cases h
  | [_], [], h => cases h
  | [_], _ :: _ :: _, h => cases h
end Go.Proofs.YtpndjpjpmcehbaaTu
