/- What is proved: the sort and the merge of plots answer what their plain functions say. No condition. -/
import Derived.Test.YtpndjpjpmcehbaaTmm1
import Derived.Test.YtpndjpjpmcehbaaTfz1
namespace Go.Proofs.YtpndjpjpmcehbaaMm
open Go Go.Proofs Go.Shelf Go.Sort Go.Proofs.YtpndjpjpmcehbaaEv Go.Proofs.YtpndjpjpmcehbaaTk Go.Proofs.YtpndjpjpmcehbaaFz
set_option maxRecDepth 100000
set_option linter.unusedSimpArgs false
set_option linter.unusedVariables false
def laysSP_ren : Go.Shelf.Ren := ⟨fun | 6 => 103 | 15 => 132 | 14 => 133 | 28 => 152 | 29 => 153 | 20 => 154 | 21 => 155 | 22 => 156 | 23 => 157 | 24 => 158 | 25 => 159 | 26 => 160 | 27 => 161 | 46 => 175 | 47 => 171 | 48 => 172 | 49 => 176 | 50 => 177 | 57 => 182 | n => n, fun | 22 => 93 | 24 => 99 | 25 => 150 | 3 => 3 | 39 => 160 | 0 => 0 | 53 => 178 | 55 => 180 | 4 => 4 | 46 => 184 | 45 => 183 | 50 => 189 | 5 => 5 | 9 => 9 | 66 => 201 | 70 => 205 | 76 => 211 | 77 => 212 | n => n, fun | n => n⟩
theorem laysSP : Go.Proofs.SlLaysF0.n6 Try.prog laysSP_ren := {
  mixed := by kernel_rfl
  f6 := ⟨Try.f103.name, by decide, Try.func103.trans (congrArg some (by kernel_rfl))⟩
  f14 := ⟨Try.f133.name, by decide, Try.func133.trans (congrArg some (by kernel_rfl))⟩
  f15 := Try.func132.trans (congrArg some (by kernel_rfl))
  f20 := ⟨Try.f154.name, by decide, Try.func154.trans (congrArg some (by kernel_rfl))⟩
  f21 := ⟨Try.f155.name, by decide, Try.func155.trans (congrArg some (by kernel_rfl))⟩
  f22 := ⟨Try.f156.name, by decide, Try.func156.trans (congrArg some (by kernel_rfl))⟩
  f23 := ⟨Try.f157.name, by decide, Try.func157.trans (congrArg some (by kernel_rfl))⟩
  f24 := ⟨Try.f158.name, by decide, Try.func158.trans (congrArg some (by kernel_rfl))⟩
  f25 := ⟨Try.f159.name, by decide, Try.func159.trans (congrArg some (by kernel_rfl))⟩
  f26 := ⟨Try.f160.name, by decide, Try.func160.trans (congrArg some (by kernel_rfl))⟩
  f27 := ⟨Try.f161.name, by decide, Try.func161.trans (congrArg some (by kernel_rfl))⟩
  f28 := Try.func152.trans (congrArg some (by kernel_rfl))
  f29 := Try.func153.trans (congrArg some (by kernel_rfl))
  f46 := ⟨Try.f175.name, by decide, Try.func175.trans (congrArg some (by kernel_rfl))⟩
  f47 := Try.func171.trans (congrArg some (by kernel_rfl))
  f48 := Try.func172.trans (congrArg some (by kernel_rfl))
  f49 := ⟨Try.f176.name, by decide, Try.func176.trans (congrArg some (by kernel_rfl))⟩
  f50 := ⟨Try.f177.name, by decide, Try.func177.trans (congrArg some (by kernel_rfl))⟩
  f57 := ⟨Try.f182.name, by decide, Try.func182.trans (congrArg some (by kernel_rfl))⟩
  t0 := Try.underlying0
  a0 := Try.isAgg0
  z0 := Try.sizeOf0
  v0 := Try.zeroValue0
  t3 := Try.underlying3
  a3 := Try.isAgg3
  z3 := Try.sizeOf3
  v3 := Try.zeroValue3
  t4 := Try.underlying4
  a4 := Try.isAgg4
  z4 := Try.sizeOf4
  v4 := Try.zeroValue4
  t5 := Try.underlying5
  a5 := Try.isAgg5
  z5 := Try.sizeOf5
  v5 := Try.zeroValue5
  t9 := Try.underlying9
  a9 := Try.isAgg9
  z9 := Try.sizeOf9
  v9 := Try.zeroValue9
  t22 := Try.underlying93
  a22 := Try.isAgg93
  z22 := Try.sizeOf93
  v22 := Try.zeroValue93
  t25 := Try.underlying150
  a25 := Try.isAgg150
  z25 := Try.sizeOf150
  v25 := Try.zeroValue150
  t39 := Try.underlying160
  a39 := Try.isAgg160
  z39 := Try.sizeOf160
  v39 := Try.zeroValue160
  t45 := Try.underlying183
  a45 := Try.isAgg183
  z45 := Try.sizeOf183
  v45 := Try.zeroValue183
  t46 := Try.underlying184
  a46 := Try.isAgg184
  z46 := Try.sizeOf184
  v46 := Try.zeroValue184
  t50 := Try.underlying189
  a50 := Try.isAgg189
  z50 := Try.sizeOf189
  v50 := Try.zeroValue189
  t53 := Try.underlying178
  a53 := Try.isAgg178
  z53 := Try.sizeOf178
  v53 := Try.zeroValue178
  t55 := Try.underlying180
  a55 := Try.isAgg180
  z55 := Try.sizeOf180
  v55 := Try.zeroValue180
  t66 := Try.underlying201
  a66 := Try.isAgg201
  z66 := Try.sizeOf201
  v66 := Try.zeroValue201
  t70 := Try.underlying205
  a70 := Try.isAgg205
  z70 := Try.sizeOf205
  v70 := Try.zeroValue205
  t76 := Try.underlying211
  a76 := Try.isAgg211
  z76 := Try.sizeOf211
  v76 := Try.zeroValue211
  t77 := Try.underlying212
  a77 := Try.isAgg212
  z77 := Try.sizeOf212
  v77 := Try.zeroValue212 }
/-! ### The order -/
def keyP (s : Pl) : List Int := [s.2.1, s.1, s.2.2.1, s.2.2.2.1, s.2.2.2.2.1, s.2.2.2.2.2]
theorem cmpP_lex (a b : Pl) : cmpP a b = lexC (keyP a) (keyP b) := rfl
theorem cmpP_flip (a b : Pl) : cmpP b a = -cmpP a b := lex_flip (keyP a) (keyP b) rfl
theorem cmpP_zero {a b : Pl} (h : cmpP a b = 0) : a = b := by
  have h := lex_zero (keyP a) (keyP b) rfl h
  obtain ⟨a1, a2, a3, a4, a5, a6⟩ := a
  obtain ⟨b1, b2, b3, b4, b5, b6⟩ := b
  simp only [keyP, List.cons.injEq] at h
  obtain ⟨rfl, rfl, rfl, rfl, rfl, rfl, _⟩ := h
  rfl
theorem cmpP_self (a : Pl) : cmpP a a = 0 := lex_self (keyP a)
theorem cmpP_trans {a b c : Pl} (h1 : cmpP a b ≤ 0) (h2 : cmpP b c ≤ 0) : cmpP a c ≤ 0 ∧ (cmpP a b < 0 ∨ cmpP b c < 0 → cmpP a c < 0) := lex_trans (keyP a) (keyP b) (keyP c) rfl rfl h1 h2
theorem swoP : Go.Sort.SWO (Go.Proofs.ltOf cmpP) where
  irrefl x := decide_eq_false (by rw [cmpP_self]; decide)
  trans x y z h1 h2 := by
    have h1 := of_decide_eq_true h1
    have h2 := of_decide_eq_true h2
    exact decide_eq_true ((cmpP_trans (by omega) (by omega)).2 (Or.inl h1))
  ntrans x y z h1 h2 := by
    have h1 := of_decide_eq_false h1
    have h2 := of_decide_eq_false h2
    have e1 := cmpP_flip x y
    have e2 := cmpP_flip y z
    have e3 := cmpP_flip x z
    have := (cmpP_trans (a := z) (b := y) (c := x) (by omega) (by omega)).1
    exact decide_eq_false (by omega)
theorem lt_lex (a b : Int) (u v : List Int) : decide (lexC (a :: u) (b :: v) < 0) = bif a != b then decide (a < b) else decide (lexC u v < 0) := by
  rw [lex_cons]
  by_cases h1 : a < b
  · rw [if_pos h1, show (a != b) = true by simp; omega, decide_eq_true h1]; rfl
  · rw [if_neg h1]
    by_cases h2 : b < a
    · rw [if_pos h2, show (a != b) = true by simp; omega, decide_eq_false h1]; rfl
    · rw [if_neg h2, show (a != b) = false by simp; omega]; rfl
theorem q106 (a b : Pl) : z106L a b = some (.sc (.bool (befP a b)), []) := by
  rw [z106]
  unfold befP
  rw [cmpP_lex]
  unfold keyP
  rw [lt_lex, lt_lex, lt_lex, lt_lex, lt_lex, lt_lex, show decide (lexC [] [] < 0) = false from rfl]
  cases (a.2.1 != b.2.1) <;> cases (a.1 != b.1) <;> cases (a.2.2.1 != b.2.2.1) <;> cases (a.2.2.2.1 != b.2.2.2.1) <;> cases (a.2.2.2.2.1 != b.2.2.2.2.1) <;> cases (a.2.2.2.2.2 != b.2.2.2.2.2) <;> rfl
noncomputable abbrev z54L (a0 : Pl) := evFuncV Try.prog Z2 noCuts Try.f54 (killA 0 [sPl]) (showA 0 [sPl] (a0, ())).1 (showA 0 [sPl] (a0, ())).2
theorem z54 (a0 : Pl) : z54L a0 = (bif inS a0.fst 0 255 then
  bif inS a0.snd.fst 0 200000 then
    bif inS a0.snd.snd.fst 0 2000000 then
      bif inS a0.snd.snd.snd.fst 0 4095 then
        bif inS a0.snd.snd.snd.snd.fst 0 60000 then
          bif inS a0.snd.snd.snd.snd.snd (-1) 4095 then some (PV.sc (Value.int IntKind.i64 0), [])
          else some (PV.sc (Value.int IntKind.i64 4), [])
        else some (PV.sc (Value.int IntKind.i64 4), [])
      else some (PV.sc (Value.int IntKind.i64 4), [])
    else some (PV.sc (Value.int IntKind.i64 4), [])
  else some (PV.sc (Value.int IntKind.i64 4), [])
else some (PV.sc (Value.int IntKind.i64 4), [])) := by kernel_rfl
theorem in6 (r t d a h c : Int) {X Y : Option (PV × List Blk)} : (bif inS r 0 255 then bif inS t 0 200000 then bif inS d 0 2000000 then bif inS a 0 4095 then bif inS h 0 60000 then bif inS c (-1) 4095 then X else Y else Y else Y else Y else Y else Y) = bif decide (plN r t d a h c) then X else Y := by
  have key : ∀ (b1 b2 b3 b4 b5 b6 : Bool), (bif b1 then bif b2 then bif b3 then bif b4 then bif b5 then bif b6 then X else Y else Y else Y else Y else Y else Y) = bif (b1 && (b2 && (b3 && (b4 && (b5 && b6))))) then X else Y := by
    intro b1 b2 b3 b4 b5 b6
    cases b1 <;> cases b2 <;> cases b3 <;> cases b4 <;> cases b5 <;> cases b6 <;> rfl
  rw [key]
  congr 1
  rw [Bool.eq_iff_iff]
  unfold inS
  simp only [Bool.and_eq_true, decide_eq_true_eq]
  omega
theorem q54 (p : Pl) : z54L p = some (.sc (.int .i64 (plE p)), []) := by
  rw [z54, in6 p.1 p.2.1 p.2.2.1 p.2.2.2.1 p.2.2.2.2.1 p.2.2.2.2.2]
  unfold plE plV
  cases decide (plN p.1 p.2.1 p.2.2.1 p.2.2.2.1 p.2.2.2.2.1 p.2.2.2.2.2) <;> rfl
theorem M1_ok : TableOK Try.prog M1 :=
  ext_ok (entV_ok Try.call97 (liftV Z2_ok mixed Try.func97 (show Try.f97.body = some (bodyF Try.f97) from rfl) (noCuts_ok _) (by decide) fun v h => q97 v.1))
  (ext_ok (entV_ok Try.call54 (liftV Z2_ok mixed Try.func54 (show Try.f54.body = some (bodyF Try.f54) from rfl) (noCuts_ok _) (by decide) fun v h => q54 v.1))
  (ext_ok (entV_ok Try.call104 (liftV Z2_ok mixed Try.func104 (show Try.f104.body = some (bodyF Try.f104) from rfl) (noCuts_ok _) (by decide) fun v h => z104 v.1 v.2.1))
  (ext_ok (entV_ok Try.call106 (liftV Z2_ok mixed Try.func106 (show Try.f106.body = some (bodyF Try.f106) from rfl) (noCuts_ok _) (by decide) fun v h => q106 v.1 v.2.1)) Z2_ok)))
/-! ### The sort -/
instance : Inhabited Pl := ⟨(0, 0, 0, 0, 0, 0)⟩
theorem call104 (x y : Pl) : CallOK Try.prog 104 [.agg (scs (kPl.vals x)), .agg (scs (kPl.vals y))] [] (.sc (.int .i64 (cmpP x y))) [] :=
  have h : CallOK Try.prog 104 (showA 0 [sPl, sPl] (x, (y, ()))).1 (showA 0 [sPl, sPl] (x, (y, ()))).2 (.sc (.int .i64 (cmpP x y))) [] := evFuncV_sound Z2_ok mixed Try.func104 (show Try.f104.body = some (bodyF Try.f104) from rfl) (noCuts_ok _) (z104 x y) (by rw [showA_len]; decide)
  h
theorem sortP_at (blk off cap : Nat) (zs : List Pl) (w : World) (hH : HoldsK kPl.vals kPl.sz w blk off zs.toArray) (hblk : blk < w.heap.size) (hsz : zs.length < 4611686018427387904) :
    Calls Try.prog 103 #[.slice (some ⟨blk, off, none⟩) zs.length cap, .func (.func 104) #[] #[]] w fun e w' => e = .returned (.tuple #[]) ∧ ∃ n os, w' = sortWorldK kPl.vals kPl.sz w blk off n (srtP zs).toArray os :=
  AnyQ.slices_SortFunc_total laysSP 6 Try.isAgg99 Try.sizeOf99 kPl.vals (Kd.len_vals kPl) (fun x v hv => Kd.one_vals kPl x v hv) cmpP swoP 104 #[] blk off cap zs.toArray w (enters_of Try.func104 (by kernel_rfl) rfl)
    (fun m os dk hd x y => YtpndjpjpmcehbaaSf.grown_call call104 x y _) hH hblk (by simpa using hsz)
    (fun x y h1 h2 => cmpP_zero (by
      have h1 := of_decide_eq_false h1
      have h2 := of_decide_eq_false h2
      have := cmpP_flip x y
      omega))
theorem srtP_len (l : List Pl) : (srtP l).length = l.length := List.length_mergeSort _
theorem e103 : EntOK Try.prog 103 (entV k103 (spec1 k103 [] (fun v => decide (v.1.1.length ≤ 2000)) (fun _ => ()) fun v => (srtP v.1.1, (), ()))) := by
  refine entV_ok Try.call103 ?_
  rintro ⟨⟨zs, nl⟩, ⟨⟩, ⟨⟩⟩ hv r H' hp
  have hv : zs.length ≤ 2000 := of_decide_eq_true hv
  have hp : (some (PV.tup [], [Blk.row true kPl (srtP zs)]) : Option (PV × List Blk)) = some (r, H') := hp
  obtain ⟨rfl, rfl⟩ := Prod.mk.inj (Option.some.inj hp)
  by_cases h0 : zs.length = 0
  · obtain rfl : zs = [] := List.length_eq_zero_iff.1 h0
    have e : srtP [] = [] := by unfold srtP; simp
    rw [e]
    exact YtpndjpjpmcehbaaSf.sortF_none (k := kPl) (f := 103) (g := 104) (fun p cap w => AnyF.slices_SortFunc_none laysSP p cap _ w) nl
  · exact YtpndjpjpmcehbaaSf.sortF_call srtP_len sortP_at zs nl (by omega) (by omega)
/-! ### Compact, Insert, SamePlots -/
theorem pIn_eq : ∀ xs H v, pIn xs H = some v → (xs, H) = stIn v := by
  intro xs H v h
  unfold pIn at h
  split at h
  · rename_i i e0 sz n lo full nl k j e sz2 n2 lo2 full2 nl2 k2 xs'
    cases hb : (Nat.beq i 0 && Nat.beq e0 0 && Nat.beq sz 6 && Nat.beq j 0 && Nat.beq sz2 6) with
    | false => rw [hb] at h; cases h
    | true =>
      rw [hb] at h
      simp only [Bool.and_eq_true, Nat.beq_eq] at hb
      obtain ⟨⟨⟨⟨rfl, rfl⟩, rfl⟩, rfl⟩, rfl⟩ := hb
      cases h; rfl
  · cases h
theorem in105i : CutOK Try.prog Try.f105.ntmps (codeAt 2 (bodyF Try.f105)) [0, 3, 4, 5] [3] (entR pIn cIn) :=
  loop_cutR (kill := []) M1_ok mixed pIn_eq muIn (by kernel_rfl) (noCuts_ok _) fun v h => q105i v.1 v.2.1 v.2.2.1 v.2.2.2.1 v.2.2.2.2.1 v.2.2.2.2.2.1 v.2.2.2.2.2.2.1 v.2.2.2.2.2.2.2.1 v.2.2.2.2.2.2.2.2.1 v.2.2.2.2.2.2.2.2.2.1 v.2.2.2.2.2.2.2.2.2.2.1 v.2.2.2.2.2.2.2.2.2.2.2 h
theorem in105o : CutOK Try.prog Try.f105.ntmps (codeAt 0 (bodyF Try.f105)) [0, 3] [2] (entC k105 c105) := loop_cutW (kill := killA 0 k105) M1_ok mixed mu105 (by kernel_rfl) (cut_cons (by kernel_rfl) in105i (noCuts_ok _)) fun v h => q105o v.1.1 v.1.2 v.2.1 h
theorem e105 : EntOK Try.prog 105 (entV [oPl] (spec1 [oPl] [oPl] (fun v => decide (v.1.1.length ≤ 2000)) (fun v => ((cpt v.1.1, v.1.2), ())) fun _ => ((), ()))) := by
  refine entV_ok Try.call105 ?_
  rintro ⟨⟨l, nl⟩, ⟨⟩⟩ hv r H' hp
  have hv : l.length ≤ 2000 := of_decide_eq_true hv
  have hp : (some (PV.sl 1 0 6 (cpt l).length (cpt l).length false nl, [Blk.dead, Blk.row true kPl (cpt l)]) : Option (PV × List Blk)) = some (r, H') := hp
  obtain ⟨rfl, rfl⟩ := Prod.mk.inj (Option.some.inj hp)
  have run : ∀ r0 H0, z105L l nl = some (r0, H0) → CallOK Try.prog 105 (showA 0 [oPl] ((l, nl), ())).1 (showA 0 [oPl] ((l, nl), ())).2 r0 H0 := fun r0 H0 h =>
    evFuncV_sound M1_ok mixed Try.func105 (show Try.f105.body = some (bodyF Try.f105) from rfl) (cut_cons (by kernel_rfl) in105o (noCuts_ok _)) h (by rw [showA_len]; decide)
  by_cases h2 : l.length < 2
  · rw [cpt_small h2]
    refine run _ _ ?_
    rw [z105, decide_eq_true (show (l.length : Int) < 2 by omega)]; rfl
  · have hz := z105 l nl
    rw [decide_eq_false (show ¬ (l.length : Int) < 2 by omega), lenS, show pre105 l 1 = true from decide_eq_true ⟨hv, by omega, by omega⟩] at hz
    obtain ⟨a1, a2⟩ := out_spec (l := l) (by omega)
    cases ho : outV l 1 with
    | none =>
      rw [a1 ho]
      refine run _ _ (hz.trans ?_)
      rw [ho]; rfl
    | some q =>
      obtain ⟨b1, b2, b3⟩ := a2 q ho
      have e : outL l 1 = q := by unfold outL; rw [ho]; rfl
      have := (run (.sl 1 0 6 q.2 q.2 false nl) [.dead, .row true kPl (splice q.1 q.2 (List.replicate (l.length - q.2) zPl))] (hz.trans (by rw [ho, e]; rfl))).cut 1 q.2
      have hL : (cpt l).length = q.2 := by rw [← b1, List.length_take]; omega
      have hcut : (splice q.1 q.2 (List.replicate (l.length - q.2) zPl)).take q.2 = cpt l := by
        unfold splice
        rw [List.take_append_of_le_length (by rw [List.length_take]; omega), List.take_take, Nat.min_self, b1]
      rw [hL, ← hcut]
      exact this
theorem in63 : CutOK Try.prog Try.f63.ntmps (codeAt 0 (bodyF Try.f63)) [0, 3, 5] [5] (entC kIns cIns) := loop_cutW (kill := killA 0 kIns) M1_ok mixed muIns (by kernel_rfl) (noCuts_ok _) fun v h => q63l v.1.1 v.1.2 v.2.1 v.2.2.1 h
theorem in64 : CutOK Try.prog Try.f64.ntmps (codeAt 0 (bodyF Try.f64)) [0, 1, 12, 13] [4] (entC kSm cSm) := loop_cutW (kill := killA 0 kSm) M1_ok mixed muSm (by kernel_rfl) (noCuts_ok _) fun v h => q64l v.1.1 v.1.2 v.2.1.1 v.2.1.2 v.2.2.1 v.2.2.2.1 h
theorem M2_ok : TableOK Try.prog M2 :=
  ext_ok e103 (ext_ok e105
  (ext_ok (entV_ok Try.call63 (liftV M1_ok mixed Try.func63 (show Try.f63.body = some (bodyF Try.f63) from rfl) (cut_cons (by kernel_rfl) in63 (noCuts_ok _)) (by decide) fun v h => q63 v.1.1 v.1.2 v.2.1 (of_decide_eq_true h)))
  (ext_ok (entV_ok Try.call64 (liftV M1_ok mixed Try.func64 (show Try.f64.body = some (bodyF Try.f64) from rfl) (cut_cons (by kernel_rfl) in64 (noCuts_ok _)) (by decide) fun v h => q64 v.1.1 v.1.2 v.2.1.1 v.2.1.2 (of_decide_eq_true h))) M1_ok)))
/-! ### Merge -/
noncomputable abbrev z62lL (a0 : List (Int × Int × Int × Int × Int × Int)) (a1 : Bool) (a2 : List (Int × Int × Int × Int × Int × Int)) (a3 : Bool) (a4 : Int) (a5 : Int) := evRound Try.prog M2 noCuts 56 (loopOf (codeAt 2 (bodyF Try.f62))) kCh muCh (killA 0 kCh) [6, 22, 23, 24] [2, 3] cCh ((a0, a1), ((a2, a3), (a4, (a5, ()))))
theorem z62l (a0 : List (Int × Int × Int × Int × Int × Int)) (a1 : Bool) (a2 : List (Int × Int × Int × Int × Int × Int)) (a3 : Bool) (a4 : Int) (a5 : Int) : z62lL a0 a1 a2 a3 a4 a5 = (bif decide (a5 < a4) then
  guardB (decide (0 ≤ a5) && decide (a5 < (↑a2.length : Int)))
    (bindO a2[0 + a5.toNat]? fun x =>
      bif plE x != 0 then
        some
          (Xt.ret, [PV.sc (Value.slice none 0 0), PV.sc (Value.int IntKind.i64 (plE x))],
            [Blk.row false
                ((Kd.int IntKind.i64).pair
                  ((Kd.int IntKind.i64).pair
                    ((Kd.int IntKind.i64).pair
                      ((Kd.int IntKind.i64).pair ((Kd.int IntKind.i64).pair (Kd.int IntKind.i64))))))
                a0,
              Blk.row false
                ((Kd.int IntKind.i64).pair
                  ((Kd.int IntKind.i64).pair
                    ((Kd.int IntKind.i64).pair
                      ((Kd.int IntKind.i64).pair ((Kd.int IntKind.i64).pair (Kd.int IntKind.i64))))))
                a2])
      else
        bif decide (a5 > 0) then
          guardB (decide (0 ≤ IntKind.i64.wrap (a5 - 1)) && decide (IntKind.i64.wrap (a5 - 1) < (↑a0.length : Int)))
            (bindO a0[0 + (IntKind.i64.wrap (a5 - 1)).toNat]? fun x_1 =>
              bif decide (x_1.snd.fst > x.snd.fst) then
                some
                  (Xt.ret, [PV.sc (Value.slice none 0 0), PV.sc (Value.int IntKind.i64 12)],
                    [Blk.row false
                        ((Kd.int IntKind.i64).pair
                          ((Kd.int IntKind.i64).pair
                            ((Kd.int IntKind.i64).pair
                              ((Kd.int IntKind.i64).pair ((Kd.int IntKind.i64).pair (Kd.int IntKind.i64))))))
                        a0,
                      Blk.row false
                        ((Kd.int IntKind.i64).pair
                          ((Kd.int IntKind.i64).pair
                            ((Kd.int IntKind.i64).pair
                              ((Kd.int IntKind.i64).pair ((Kd.int IntKind.i64).pair (Kd.int IntKind.i64))))))
                        a2])
              else
                guardB
                  (decide
                    (muCh
                        ((List.take a0.length a0, a1), (List.take a2.length a2, a3), a4, IntKind.i64.wrap (a5 + 1),
                          PUnit.unit) <
                      muCh ((a0, a1), (a2, a3), a4, a5, ())))
                  (guardB
                    (bif decide (0 + a0.length ≤ a0.length) then
                      bif decide (0 + a2.length ≤ a2.length) then
                        preCh (List.take a0.length a0) (List.take a2.length a2) a4 (IntKind.i64.wrap (a5 + 1))
                      else false
                    else false)
                    (bif decide (chkV (List.take a0.length a0) (IntKind.i64.wrap (a5 + 1)) = 0) then
                      some
                        (Xt.exit 2, [PV.undef, PV.undef],
                          [Blk.row false
                              ((Kd.int IntKind.i64).pair
                                ((Kd.int IntKind.i64).pair
                                  ((Kd.int IntKind.i64).pair
                                    ((Kd.int IntKind.i64).pair ((Kd.int IntKind.i64).pair (Kd.int IntKind.i64))))))
                              a0,
                            Blk.row false
                              ((Kd.int IntKind.i64).pair
                                ((Kd.int IntKind.i64).pair
                                  ((Kd.int IntKind.i64).pair
                                    ((Kd.int IntKind.i64).pair ((Kd.int IntKind.i64).pair (Kd.int IntKind.i64))))))
                              a2])
                    else
                      some
                        (Xt.ret,
                          [PV.sc (Value.slice none 0 0),
                            PV.sc (Value.int IntKind.i64 (chkV (List.take a0.length a0) (IntKind.i64.wrap (a5 + 1))))],
                          [Blk.row false
                              ((Kd.int IntKind.i64).pair
                                ((Kd.int IntKind.i64).pair
                                  ((Kd.int IntKind.i64).pair
                                    ((Kd.int IntKind.i64).pair ((Kd.int IntKind.i64).pair (Kd.int IntKind.i64))))))
                              a0,
                            Blk.row false
                              ((Kd.int IntKind.i64).pair
                                ((Kd.int IntKind.i64).pair
                                  ((Kd.int IntKind.i64).pair
                                    ((Kd.int IntKind.i64).pair ((Kd.int IntKind.i64).pair (Kd.int IntKind.i64))))))
                              a2]))))
        else
          guardB
            (decide
              (muCh
                  ((List.take a0.length a0, a1), (List.take a2.length a2, a3), a4, IntKind.i64.wrap (a5 + 1),
                    PUnit.unit) <
                muCh ((a0, a1), (a2, a3), a4, a5, ())))
            (guardB
              (bif decide (0 + a0.length ≤ a0.length) then
                bif decide (0 + a2.length ≤ a2.length) then
                  preCh (List.take a0.length a0) (List.take a2.length a2) a4 (IntKind.i64.wrap (a5 + 1))
                else false
              else false)
              (bif decide (chkV (List.take a0.length a0) (IntKind.i64.wrap (a5 + 1)) = 0) then
                some
                  (Xt.exit 2, [PV.undef, PV.undef],
                    [Blk.row false
                        ((Kd.int IntKind.i64).pair
                          ((Kd.int IntKind.i64).pair
                            ((Kd.int IntKind.i64).pair
                              ((Kd.int IntKind.i64).pair ((Kd.int IntKind.i64).pair (Kd.int IntKind.i64))))))
                        a0,
                      Blk.row false
                        ((Kd.int IntKind.i64).pair
                          ((Kd.int IntKind.i64).pair
                            ((Kd.int IntKind.i64).pair
                              ((Kd.int IntKind.i64).pair ((Kd.int IntKind.i64).pair (Kd.int IntKind.i64))))))
                        a2])
              else
                some
                  (Xt.ret,
                    [PV.sc (Value.slice none 0 0),
                      PV.sc (Value.int IntKind.i64 (chkV (List.take a0.length a0) (IntKind.i64.wrap (a5 + 1))))],
                    [Blk.row false
                        ((Kd.int IntKind.i64).pair
                          ((Kd.int IntKind.i64).pair
                            ((Kd.int IntKind.i64).pair
                              ((Kd.int IntKind.i64).pair ((Kd.int IntKind.i64).pair (Kd.int IntKind.i64))))))
                        a0,
                      Blk.row false
                        ((Kd.int IntKind.i64).pair
                          ((Kd.int IntKind.i64).pair
                            ((Kd.int IntKind.i64).pair
                              ((Kd.int IntKind.i64).pair ((Kd.int IntKind.i64).pair (Kd.int IntKind.i64))))))
                        a2]))))
else
  some
    (Xt.exit 2, [PV.undef, PV.undef],
      [Blk.row false
          ((Kd.int IntKind.i64).pair
            ((Kd.int IntKind.i64).pair
              ((Kd.int IntKind.i64).pair ((Kd.int IntKind.i64).pair ((Kd.int IntKind.i64).pair (Kd.int IntKind.i64))))))
          a0,
        Blk.row false
          ((Kd.int IntKind.i64).pair
            ((Kd.int IntKind.i64).pair
              ((Kd.int IntKind.i64).pair ((Kd.int IntKind.i64).pair ((Kd.int IntKind.i64).pair (Kd.int IntKind.i64))))))
          a2])) := by kernel_rfl
noncomputable abbrev z62rL (n : Nat) (lo : Nat) (fu : Bool) (nl : Bool) := (evFuncV Try.prog M2 (addCut 2 [6, 22, 23, 24] [2, 3] (entC kCh cCh) noCuts) Try.f62 [] (st62 (n, lo, fu, nl)).1
  (st62 (n, lo, fu, nl)).2)
theorem z62r (n : Nat) (lo : Nat) (fu : Bool) (nl : Bool) : z62rL n lo fu nl = (bif decide ((↑n : Int) > 4) then
  some (PV.tup [PV.sc (Value.slice none 0 0), PV.sc (Value.int IntKind.i64 2)], [Blk.row false (Kd.int IntKind.i64) []])
else
  bif decide (0 < (↑n : Int)) then guardB (decide (0 < (↑n : Int))) none
  else
    some
      (PV.tup [PV.sl 1 0 6 0 0 false true, PV.sc (Value.int IntKind.i64 0)],
        [Blk.row false (Kd.int IntKind.i64) [],
          Blk.row true
            ((Kd.int IntKind.i64).pair
              ((Kd.int IntKind.i64).pair
                ((Kd.int IntKind.i64).pair
                  ((Kd.int IntKind.i64).pair ((Kd.int IntKind.i64).pair (Kd.int IntKind.i64))))))
            []])) := by kernel_rfl
noncomputable abbrev z62aL (a0 : List (Int × Int × Int × Int × Int × Int)) (a1 : Bool) := evFuncV Try.prog M2 (addCut 2 [6, 22, 23, 24] [2, 3] (entC kCh cCh) noCuts) Try.f62 (killA 0 ks1) (showA 0 ks1 (((a0, a1), ()), ())).1 (showA 0 ks1 (((a0, a1), ()), ())).2
theorem z62a (a0 : List (Int × Int × Int × Int × Int × Int)) (a1 : Bool) : z62aL a0 a1 = (bif decide ((↑a0.length : Int) > 256) then
  some
    (PV.tup [PV.sc (Value.slice none 0 0), PV.sc (Value.int IntKind.i64 2)],
      [Blk.fix false [PV.sl 1 0 6 a0.length a0.length false a1],
        Blk.row false
          ((Kd.int IntKind.i64).pair
            ((Kd.int IntKind.i64).pair
              ((Kd.int IntKind.i64).pair ((Kd.int IntKind.i64).pair ((Kd.int IntKind.i64).pair (Kd.int IntKind.i64))))))
          a0])
else
  guardB
    (bif decide (0 + a0.length ≤ a0.length) then
      bif decide (0 + a0.length ≤ a0.length) then
        preCh (List.take a0.length a0) (List.take a0.length a0) (↑a0.length : Int) 0
      else false
    else false)
    (bif decide (chkV (List.take a0.length a0) 0 = 0) then
      guardB
        (decide (0 + a0.length ≤ a0.length) && decide (a0.length * 48 ≤ 140737488355328) &&
          decide (a0.length ≤ 4611686018427387904))
        (guardB
          (bif decide (a0.length = (List.take a0.length a0).length) then decide ((List.take a0.length a0).length ≤ 2000)
          else false)
          (guardB
            (bif decide (a0.length = (srtP (List.take a0.length a0)).length) then
              decide ((srtP (List.take a0.length a0)).length ≤ 2000)
            else false)
            (some
              (PV.tup
                  [PV.sl 2 0 6 (cpt (srtP (List.take a0.length a0))).length (cpt (srtP (List.take a0.length a0))).length
                      false (a0.length.beq 0),
                    PV.sc (Value.int IntKind.i64 0)],
                [Blk.fix false [PV.sl 1 0 6 a0.length a0.length false a1],
                  Blk.row false
                    ((Kd.int IntKind.i64).pair
                      ((Kd.int IntKind.i64).pair
                        ((Kd.int IntKind.i64).pair
                          ((Kd.int IntKind.i64).pair ((Kd.int IntKind.i64).pair (Kd.int IntKind.i64))))))
                    a0,
                  Blk.row true
                    ((Kd.int IntKind.i64).pair
                      ((Kd.int IntKind.i64).pair
                        ((Kd.int IntKind.i64).pair
                          ((Kd.int IntKind.i64).pair ((Kd.int IntKind.i64).pair (Kd.int IntKind.i64))))))
                    (cpt (srtP (List.take a0.length a0)))]))))
    else
      some
        (PV.tup [PV.sc (Value.slice none 0 0), PV.sc (Value.int IntKind.i64 (chkV (List.take a0.length a0) 0))],
          [Blk.fix false [PV.sl 1 0 6 a0.length a0.length false a1],
            Blk.row false
              ((Kd.int IntKind.i64).pair
                ((Kd.int IntKind.i64).pair
                  ((Kd.int IntKind.i64).pair
                    ((Kd.int IntKind.i64).pair ((Kd.int IntKind.i64).pair (Kd.int IntKind.i64))))))
              a0]))) := by kernel_rfl
noncomputable abbrev z62bL (a0 : List (Int × Int × Int × Int × Int × Int)) (a1 : Bool) (a2 : List (Int × Int × Int × Int × Int × Int)) (a3 : Bool) := evFuncV Try.prog M2 (addCut 2 [6, 22, 23, 24] [2, 3] (entC kCh cCh) noCuts) Try.f62 (killA 0 ks2) (showA 0 ks2 (((a0, a1), ((a2, a3), ())), ())).1 (showA 0 ks2 (((a0, a1), ((a2, a3), ())), ())).2
theorem z62b (a0 : List (Int × Int × Int × Int × Int × Int)) (a1 : Bool) (a2 : List (Int × Int × Int × Int × Int × Int)) (a3 : Bool) : z62bL a0 a1 a2 a3 = (bif decide ((↑a0.length : Int) > 256) then
  some
    (PV.tup [PV.sc (Value.slice none 0 0), PV.sc (Value.int IntKind.i64 2)],
      [Blk.fix false [PV.sl 1 0 6 a0.length a0.length false a1, PV.sl 2 0 6 a2.length a2.length false a3],
        Blk.row false
          ((Kd.int IntKind.i64).pair
            ((Kd.int IntKind.i64).pair
              ((Kd.int IntKind.i64).pair ((Kd.int IntKind.i64).pair ((Kd.int IntKind.i64).pair (Kd.int IntKind.i64))))))
          a0,
        Blk.row false
          ((Kd.int IntKind.i64).pair
            ((Kd.int IntKind.i64).pair
              ((Kd.int IntKind.i64).pair ((Kd.int IntKind.i64).pair ((Kd.int IntKind.i64).pair (Kd.int IntKind.i64))))))
          a2])
else
  guardB
    (bif decide (0 + a0.length ≤ a0.length) then
      bif decide (0 + a0.length ≤ a0.length) then
        preCh (List.take a0.length a0) (List.take a0.length a0) (↑a0.length : Int) 0
      else false
    else false)
    (bif decide (chkV (List.take a0.length a0) 0 = 0) then
      guardB
        (decide (0 + a0.length ≤ a0.length) && decide (a0.length * 48 ≤ 140737488355328) &&
          decide (a0.length ≤ 4611686018427387904))
        (bif decide ((↑a2.length : Int) > 256) then
          some
            (PV.tup [PV.sc (Value.slice none 0 0), PV.sc (Value.int IntKind.i64 2)],
              [Blk.fix false [PV.sl 1 0 6 a0.length a0.length false a1, PV.sl 2 0 6 a2.length a2.length false a3],
                Blk.row false
                  ((Kd.int IntKind.i64).pair
                    ((Kd.int IntKind.i64).pair
                      ((Kd.int IntKind.i64).pair
                        ((Kd.int IntKind.i64).pair ((Kd.int IntKind.i64).pair (Kd.int IntKind.i64))))))
                  a0,
                Blk.row false
                  ((Kd.int IntKind.i64).pair
                    ((Kd.int IntKind.i64).pair
                      ((Kd.int IntKind.i64).pair
                        ((Kd.int IntKind.i64).pair ((Kd.int IntKind.i64).pair (Kd.int IntKind.i64))))))
                  a2])
        else
          guardB
            (bif decide (0 + a2.length ≤ a2.length) then
              bif decide (0 + a2.length ≤ a2.length) then
                preCh (List.take a2.length a2) (List.take a2.length a2) (↑a2.length : Int) 0
              else false
            else false)
            (bif decide (chkV (List.take a2.length a2) 0 = 0) then
              guardB
                (decide (0 + a0.length ≤ (List.take a0.length a0).length) && decide (0 + a2.length ≤ a2.length) &&
                    decide ((a0.length + a2.length) * 48 ≤ 140737488355328) &&
                  decide (a0.length + a2.length ≤ 4611686018427387904))
                (guardB
                  (bif
                      decide
                        (a0.length + a2.length =
                          (List.take a0.length (List.take a0.length a0) ++ List.take a2.length a2).length) then
                    decide ((List.take a0.length (List.take a0.length a0) ++ List.take a2.length a2).length ≤ 2000)
                  else false)
                  (guardB
                    (bif
                        decide
                          (a0.length + a2.length =
                            (srtP (List.take a0.length (List.take a0.length a0) ++ List.take a2.length a2)).length) then
                      decide
                        ((srtP (List.take a0.length (List.take a0.length a0) ++ List.take a2.length a2)).length ≤ 2000)
                    else false)
                    (some
                      (PV.tup
                          [PV.sl 3 0 6
                              (cpt
                                  (srtP
                                    (List.take a0.length (List.take a0.length a0) ++ List.take a2.length a2))).length
                              (cpt
                                  (srtP
                                    (List.take a0.length (List.take a0.length a0) ++ List.take a2.length a2))).length
                              false (a2.length.beq 0 && a0.length.beq 0),
                            PV.sc (Value.int IntKind.i64 0)],
                        [Blk.fix false
                            [PV.sl 1 0 6 a0.length a0.length false a1, PV.sl 2 0 6 a2.length a2.length false a3],
                          Blk.row false
                            ((Kd.int IntKind.i64).pair
                              ((Kd.int IntKind.i64).pair
                                ((Kd.int IntKind.i64).pair
                                  ((Kd.int IntKind.i64).pair ((Kd.int IntKind.i64).pair (Kd.int IntKind.i64))))))
                            a0,
                          Blk.row false
                            ((Kd.int IntKind.i64).pair
                              ((Kd.int IntKind.i64).pair
                                ((Kd.int IntKind.i64).pair
                                  ((Kd.int IntKind.i64).pair ((Kd.int IntKind.i64).pair (Kd.int IntKind.i64))))))
                            a2,
                          Blk.row true
                            ((Kd.int IntKind.i64).pair
                              ((Kd.int IntKind.i64).pair
                                ((Kd.int IntKind.i64).pair
                                  ((Kd.int IntKind.i64).pair ((Kd.int IntKind.i64).pair (Kd.int IntKind.i64))))))
                            (cpt (srtP (List.take a0.length (List.take a0.length a0) ++ List.take a2.length a2)))]))))
            else
              some
                (PV.tup [PV.sc (Value.slice none 0 0), PV.sc (Value.int IntKind.i64 (chkV (List.take a2.length a2) 0))],
                  [Blk.fix false [PV.sl 1 0 6 a0.length a0.length false a1, PV.sl 2 0 6 a2.length a2.length false a3],
                    Blk.row false
                      ((Kd.int IntKind.i64).pair
                        ((Kd.int IntKind.i64).pair
                          ((Kd.int IntKind.i64).pair
                            ((Kd.int IntKind.i64).pair ((Kd.int IntKind.i64).pair (Kd.int IntKind.i64))))))
                      a0,
                    Blk.row false
                      ((Kd.int IntKind.i64).pair
                        ((Kd.int IntKind.i64).pair
                          ((Kd.int IntKind.i64).pair
                            ((Kd.int IntKind.i64).pair ((Kd.int IntKind.i64).pair (Kd.int IntKind.i64))))))
                      a2])))
    else
      some
        (PV.tup [PV.sc (Value.slice none 0 0), PV.sc (Value.int IntKind.i64 (chkV (List.take a0.length a0) 0))],
          [Blk.fix false [PV.sl 1 0 6 a0.length a0.length false a1, PV.sl 2 0 6 a2.length a2.length false a3],
            Blk.row false
              ((Kd.int IntKind.i64).pair
                ((Kd.int IntKind.i64).pair
                  ((Kd.int IntKind.i64).pair
                    ((Kd.int IntKind.i64).pair ((Kd.int IntKind.i64).pair (Kd.int IntKind.i64))))))
              a0,
            Blk.row false
              ((Kd.int IntKind.i64).pair
                ((Kd.int IntKind.i64).pair
                  ((Kd.int IntKind.i64).pair
                    ((Kd.int IntKind.i64).pair ((Kd.int IntKind.i64).pair (Kd.int IntKind.i64))))))
              a2]))) := by kernel_rfl
noncomputable abbrev z62cL (a0 : List (Int × Int × Int × Int × Int × Int)) (a1 : Bool) (a2 : List (Int × Int × Int × Int × Int × Int)) (a3 : Bool) (a4 : List (Int × Int × Int × Int × Int × Int)) (a5 : Bool) := evFuncV Try.prog M2 (addCut 2 [6, 22, 23, 24] [2, 3] (entC kCh cCh) noCuts) Try.f62 (killA 0 ks3) (showA 0 ks3 (((a0, a1), ((a2, a3), ((a4, a5), ()))), ())).1 (showA 0 ks3 (((a0, a1), ((a2, a3), ((a4, a5), ()))), ())).2
theorem z62c (a0 : List (Int × Int × Int × Int × Int × Int)) (a1 : Bool) (a2 : List (Int × Int × Int × Int × Int × Int)) (a3 : Bool) (a4 : List (Int × Int × Int × Int × Int × Int)) (a5 : Bool) : z62cL a0 a1 a2 a3 a4 a5 = (bif decide ((↑a0.length : Int) > 256) then
  some
    (PV.tup [PV.sc (Value.slice none 0 0), PV.sc (Value.int IntKind.i64 2)],
      [Blk.fix false
          [PV.sl 1 0 6 a0.length a0.length false a1, PV.sl 2 0 6 a2.length a2.length false a3,
            PV.sl 3 0 6 a4.length a4.length false a5],
        Blk.row false
          ((Kd.int IntKind.i64).pair
            ((Kd.int IntKind.i64).pair
              ((Kd.int IntKind.i64).pair ((Kd.int IntKind.i64).pair ((Kd.int IntKind.i64).pair (Kd.int IntKind.i64))))))
          a0,
        Blk.row false
          ((Kd.int IntKind.i64).pair
            ((Kd.int IntKind.i64).pair
              ((Kd.int IntKind.i64).pair ((Kd.int IntKind.i64).pair ((Kd.int IntKind.i64).pair (Kd.int IntKind.i64))))))
          a2,
        Blk.row false
          ((Kd.int IntKind.i64).pair
            ((Kd.int IntKind.i64).pair
              ((Kd.int IntKind.i64).pair ((Kd.int IntKind.i64).pair ((Kd.int IntKind.i64).pair (Kd.int IntKind.i64))))))
          a4])
else
  guardB
    (bif decide (0 + a0.length ≤ a0.length) then
      bif decide (0 + a0.length ≤ a0.length) then
        preCh (List.take a0.length a0) (List.take a0.length a0) (↑a0.length : Int) 0
      else false
    else false)
    (bif decide (chkV (List.take a0.length a0) 0 = 0) then
      guardB
        (decide (0 + a0.length ≤ a0.length) && decide (a0.length * 48 ≤ 140737488355328) &&
          decide (a0.length ≤ 4611686018427387904))
        (bif decide ((↑a2.length : Int) > 256) then
          some
            (PV.tup [PV.sc (Value.slice none 0 0), PV.sc (Value.int IntKind.i64 2)],
              [Blk.fix false
                  [PV.sl 1 0 6 a0.length a0.length false a1, PV.sl 2 0 6 a2.length a2.length false a3,
                    PV.sl 3 0 6 a4.length a4.length false a5],
                Blk.row false
                  ((Kd.int IntKind.i64).pair
                    ((Kd.int IntKind.i64).pair
                      ((Kd.int IntKind.i64).pair
                        ((Kd.int IntKind.i64).pair ((Kd.int IntKind.i64).pair (Kd.int IntKind.i64))))))
                  a0,
                Blk.row false
                  ((Kd.int IntKind.i64).pair
                    ((Kd.int IntKind.i64).pair
                      ((Kd.int IntKind.i64).pair
                        ((Kd.int IntKind.i64).pair ((Kd.int IntKind.i64).pair (Kd.int IntKind.i64))))))
                  a2,
                Blk.row false
                  ((Kd.int IntKind.i64).pair
                    ((Kd.int IntKind.i64).pair
                      ((Kd.int IntKind.i64).pair
                        ((Kd.int IntKind.i64).pair ((Kd.int IntKind.i64).pair (Kd.int IntKind.i64))))))
                  a4])
        else
          guardB
            (bif decide (0 + a2.length ≤ a2.length) then
              bif decide (0 + a2.length ≤ a2.length) then
                preCh (List.take a2.length a2) (List.take a2.length a2) (↑a2.length : Int) 0
              else false
            else false)
            (bif decide (chkV (List.take a2.length a2) 0 = 0) then
              guardB
                (decide (0 + a0.length ≤ (List.take a0.length a0).length) && decide (0 + a2.length ≤ a2.length) &&
                    decide ((a0.length + a2.length) * 48 ≤ 140737488355328) &&
                  decide (a0.length + a2.length ≤ 4611686018427387904))
                (bif decide ((↑a4.length : Int) > 256) then
                  some
                    (PV.tup [PV.sc (Value.slice none 0 0), PV.sc (Value.int IntKind.i64 2)],
                      [Blk.fix false
                          [PV.sl 1 0 6 a0.length a0.length false a1, PV.sl 2 0 6 a2.length a2.length false a3,
                            PV.sl 3 0 6 a4.length a4.length false a5],
                        Blk.row false
                          ((Kd.int IntKind.i64).pair
                            ((Kd.int IntKind.i64).pair
                              ((Kd.int IntKind.i64).pair
                                ((Kd.int IntKind.i64).pair ((Kd.int IntKind.i64).pair (Kd.int IntKind.i64))))))
                          a0,
                        Blk.row false
                          ((Kd.int IntKind.i64).pair
                            ((Kd.int IntKind.i64).pair
                              ((Kd.int IntKind.i64).pair
                                ((Kd.int IntKind.i64).pair ((Kd.int IntKind.i64).pair (Kd.int IntKind.i64))))))
                          a2,
                        Blk.row false
                          ((Kd.int IntKind.i64).pair
                            ((Kd.int IntKind.i64).pair
                              ((Kd.int IntKind.i64).pair
                                ((Kd.int IntKind.i64).pair ((Kd.int IntKind.i64).pair (Kd.int IntKind.i64))))))
                          a4])
                else
                  guardB
                    (bif decide (0 + a4.length ≤ a4.length) then
                      bif decide (0 + a4.length ≤ a4.length) then
                        preCh (List.take a4.length a4) (List.take a4.length a4) (↑a4.length : Int) 0
                      else false
                    else false)
                    (bif decide (chkV (List.take a4.length a4) 0 = 0) then
                      guardB
                        (decide
                                (0 + (a0.length + a2.length) ≤
                                  (List.take a0.length (List.take a0.length a0) ++ List.take a2.length a2).length) &&
                              decide (0 + a4.length ≤ a4.length) &&
                            decide ((a0.length + a2.length + a4.length) * 48 ≤ 140737488355328) &&
                          decide (a0.length + a2.length + a4.length ≤ 4611686018427387904))
                        (guardB
                          (bif
                              decide
                                (a0.length + a2.length + a4.length =
                                  (List.take (a0.length + a2.length)
                                        (List.take a0.length (List.take a0.length a0) ++ List.take a2.length a2) ++
                                      List.take a4.length a4).length) then
                            decide
                              ((List.take (a0.length + a2.length)
                                      (List.take a0.length (List.take a0.length a0) ++ List.take a2.length a2) ++
                                    List.take a4.length a4).length ≤
                                2000)
                          else false)
                          (guardB
                            (bif
                                decide
                                  (a0.length + a2.length + a4.length =
                                    (srtP
                                        (List.take (a0.length + a2.length)
                                            (List.take a0.length (List.take a0.length a0) ++ List.take a2.length a2) ++
                                          List.take a4.length a4)).length) then
                              decide
                                ((srtP
                                      (List.take (a0.length + a2.length)
                                          (List.take a0.length (List.take a0.length a0) ++ List.take a2.length a2) ++
                                        List.take a4.length a4)).length ≤
                                  2000)
                            else false)
                            (some
                              (PV.tup
                                  [PV.sl 4 0 6
                                      (cpt
                                          (srtP
                                            (List.take (a0.length + a2.length)
                                                (List.take a0.length (List.take a0.length a0) ++
                                                  List.take a2.length a2) ++
                                              List.take a4.length a4))).length
                                      (cpt
                                          (srtP
                                            (List.take (a0.length + a2.length)
                                                (List.take a0.length (List.take a0.length a0) ++
                                                  List.take a2.length a2) ++
                                              List.take a4.length a4))).length
                                      false (a4.length.beq 0 && (a2.length.beq 0 && a0.length.beq 0)),
                                    PV.sc (Value.int IntKind.i64 0)],
                                [Blk.fix false
                                    [PV.sl 1 0 6 a0.length a0.length false a1, PV.sl 2 0 6 a2.length a2.length false a3,
                                      PV.sl 3 0 6 a4.length a4.length false a5],
                                  Blk.row false
                                    ((Kd.int IntKind.i64).pair
                                      ((Kd.int IntKind.i64).pair
                                        ((Kd.int IntKind.i64).pair
                                          ((Kd.int IntKind.i64).pair
                                            ((Kd.int IntKind.i64).pair (Kd.int IntKind.i64))))))
                                    a0,
                                  Blk.row false
                                    ((Kd.int IntKind.i64).pair
                                      ((Kd.int IntKind.i64).pair
                                        ((Kd.int IntKind.i64).pair
                                          ((Kd.int IntKind.i64).pair
                                            ((Kd.int IntKind.i64).pair (Kd.int IntKind.i64))))))
                                    a2,
                                  Blk.row false
                                    ((Kd.int IntKind.i64).pair
                                      ((Kd.int IntKind.i64).pair
                                        ((Kd.int IntKind.i64).pair
                                          ((Kd.int IntKind.i64).pair
                                            ((Kd.int IntKind.i64).pair (Kd.int IntKind.i64))))))
                                    a4,
                                  Blk.row true
                                    ((Kd.int IntKind.i64).pair
                                      ((Kd.int IntKind.i64).pair
                                        ((Kd.int IntKind.i64).pair
                                          ((Kd.int IntKind.i64).pair
                                            ((Kd.int IntKind.i64).pair (Kd.int IntKind.i64))))))
                                    (cpt
                                      (srtP
                                        (List.take (a0.length + a2.length)
                                            (List.take a0.length (List.take a0.length a0) ++ List.take a2.length a2) ++
                                          List.take a4.length a4)))]))))
                    else
                      some
                        (PV.tup
                            [PV.sc (Value.slice none 0 0),
                              PV.sc (Value.int IntKind.i64 (chkV (List.take a4.length a4) 0))],
                          [Blk.fix false
                              [PV.sl 1 0 6 a0.length a0.length false a1, PV.sl 2 0 6 a2.length a2.length false a3,
                                PV.sl 3 0 6 a4.length a4.length false a5],
                            Blk.row false
                              ((Kd.int IntKind.i64).pair
                                ((Kd.int IntKind.i64).pair
                                  ((Kd.int IntKind.i64).pair
                                    ((Kd.int IntKind.i64).pair ((Kd.int IntKind.i64).pair (Kd.int IntKind.i64))))))
                              a0,
                            Blk.row false
                              ((Kd.int IntKind.i64).pair
                                ((Kd.int IntKind.i64).pair
                                  ((Kd.int IntKind.i64).pair
                                    ((Kd.int IntKind.i64).pair ((Kd.int IntKind.i64).pair (Kd.int IntKind.i64))))))
                              a2,
                            Blk.row false
                              ((Kd.int IntKind.i64).pair
                                ((Kd.int IntKind.i64).pair
                                  ((Kd.int IntKind.i64).pair
                                    ((Kd.int IntKind.i64).pair ((Kd.int IntKind.i64).pair (Kd.int IntKind.i64))))))
                              a4])))
            else
              some
                (PV.tup [PV.sc (Value.slice none 0 0), PV.sc (Value.int IntKind.i64 (chkV (List.take a2.length a2) 0))],
                  [Blk.fix false
                      [PV.sl 1 0 6 a0.length a0.length false a1, PV.sl 2 0 6 a2.length a2.length false a3,
                        PV.sl 3 0 6 a4.length a4.length false a5],
                    Blk.row false
                      ((Kd.int IntKind.i64).pair
                        ((Kd.int IntKind.i64).pair
                          ((Kd.int IntKind.i64).pair
                            ((Kd.int IntKind.i64).pair ((Kd.int IntKind.i64).pair (Kd.int IntKind.i64))))))
                      a0,
                    Blk.row false
                      ((Kd.int IntKind.i64).pair
                        ((Kd.int IntKind.i64).pair
                          ((Kd.int IntKind.i64).pair
                            ((Kd.int IntKind.i64).pair ((Kd.int IntKind.i64).pair (Kd.int IntKind.i64))))))
                      a2,
                    Blk.row false
                      ((Kd.int IntKind.i64).pair
                        ((Kd.int IntKind.i64).pair
                          ((Kd.int IntKind.i64).pair
                            ((Kd.int IntKind.i64).pair ((Kd.int IntKind.i64).pair (Kd.int IntKind.i64))))))
                      a4])))
    else
      some
        (PV.tup [PV.sc (Value.slice none 0 0), PV.sc (Value.int IntKind.i64 (chkV (List.take a0.length a0) 0))],
          [Blk.fix false
              [PV.sl 1 0 6 a0.length a0.length false a1, PV.sl 2 0 6 a2.length a2.length false a3,
                PV.sl 3 0 6 a4.length a4.length false a5],
            Blk.row false
              ((Kd.int IntKind.i64).pair
                ((Kd.int IntKind.i64).pair
                  ((Kd.int IntKind.i64).pair
                    ((Kd.int IntKind.i64).pair ((Kd.int IntKind.i64).pair (Kd.int IntKind.i64))))))
              a0,
            Blk.row false
              ((Kd.int IntKind.i64).pair
                ((Kd.int IntKind.i64).pair
                  ((Kd.int IntKind.i64).pair
                    ((Kd.int IntKind.i64).pair ((Kd.int IntKind.i64).pair (Kd.int IntKind.i64))))))
              a2,
            Blk.row false
              ((Kd.int IntKind.i64).pair
                ((Kd.int IntKind.i64).pair
                  ((Kd.int IntKind.i64).pair
                    ((Kd.int IntKind.i64).pair ((Kd.int IntKind.i64).pair (Kd.int IntKind.i64))))))
              a4]))) := by kernel_rfl
noncomputable abbrev z62dL (a0 : List (Int × Int × Int × Int × Int × Int)) (a1 : Bool) (a2 : List (Int × Int × Int × Int × Int × Int)) (a3 : Bool) (a4 : List (Int × Int × Int × Int × Int × Int)) (a5 : Bool) (a6 : List (Int × Int × Int × Int × Int × Int)) (a7 : Bool) := evFuncV Try.prog M2 (addCut 2 [6, 22, 23, 24] [2, 3] (entC kCh cCh) noCuts) Try.f62 (killA 0 ks4) (showA 0 ks4 (((a0, a1), ((a2, a3), ((a4, a5), ((a6, a7), ())))), ())).1 (showA 0 ks4 (((a0, a1), ((a2, a3), ((a4, a5), ((a6, a7), ())))), ())).2
theorem z62d (a0 : List (Int × Int × Int × Int × Int × Int)) (a1 : Bool) (a2 : List (Int × Int × Int × Int × Int × Int)) (a3 : Bool) (a4 : List (Int × Int × Int × Int × Int × Int)) (a5 : Bool) (a6 : List (Int × Int × Int × Int × Int × Int)) (a7 : Bool) : z62dL a0 a1 a2 a3 a4 a5 a6 a7 = (bif decide ((↑a0.length : Int) > 256) then
  some
    (PV.tup [PV.sc (Value.slice none 0 0), PV.sc (Value.int IntKind.i64 2)],
      [Blk.fix false
          [PV.sl 1 0 6 a0.length a0.length false a1, PV.sl 2 0 6 a2.length a2.length false a3,
            PV.sl 3 0 6 a4.length a4.length false a5, PV.sl 4 0 6 a6.length a6.length false a7],
        Blk.row false
          ((Kd.int IntKind.i64).pair
            ((Kd.int IntKind.i64).pair
              ((Kd.int IntKind.i64).pair ((Kd.int IntKind.i64).pair ((Kd.int IntKind.i64).pair (Kd.int IntKind.i64))))))
          a0,
        Blk.row false
          ((Kd.int IntKind.i64).pair
            ((Kd.int IntKind.i64).pair
              ((Kd.int IntKind.i64).pair ((Kd.int IntKind.i64).pair ((Kd.int IntKind.i64).pair (Kd.int IntKind.i64))))))
          a2,
        Blk.row false
          ((Kd.int IntKind.i64).pair
            ((Kd.int IntKind.i64).pair
              ((Kd.int IntKind.i64).pair ((Kd.int IntKind.i64).pair ((Kd.int IntKind.i64).pair (Kd.int IntKind.i64))))))
          a4,
        Blk.row false
          ((Kd.int IntKind.i64).pair
            ((Kd.int IntKind.i64).pair
              ((Kd.int IntKind.i64).pair ((Kd.int IntKind.i64).pair ((Kd.int IntKind.i64).pair (Kd.int IntKind.i64))))))
          a6])
else
  guardB
    (bif decide (0 + a0.length ≤ a0.length) then
      bif decide (0 + a0.length ≤ a0.length) then
        preCh (List.take a0.length a0) (List.take a0.length a0) (↑a0.length : Int) 0
      else false
    else false)
    (bif decide (chkV (List.take a0.length a0) 0 = 0) then
      guardB
        (decide (0 + a0.length ≤ a0.length) && decide (a0.length * 48 ≤ 140737488355328) &&
          decide (a0.length ≤ 4611686018427387904))
        (bif decide ((↑a2.length : Int) > 256) then
          some
            (PV.tup [PV.sc (Value.slice none 0 0), PV.sc (Value.int IntKind.i64 2)],
              [Blk.fix false
                  [PV.sl 1 0 6 a0.length a0.length false a1, PV.sl 2 0 6 a2.length a2.length false a3,
                    PV.sl 3 0 6 a4.length a4.length false a5, PV.sl 4 0 6 a6.length a6.length false a7],
                Blk.row false
                  ((Kd.int IntKind.i64).pair
                    ((Kd.int IntKind.i64).pair
                      ((Kd.int IntKind.i64).pair
                        ((Kd.int IntKind.i64).pair ((Kd.int IntKind.i64).pair (Kd.int IntKind.i64))))))
                  a0,
                Blk.row false
                  ((Kd.int IntKind.i64).pair
                    ((Kd.int IntKind.i64).pair
                      ((Kd.int IntKind.i64).pair
                        ((Kd.int IntKind.i64).pair ((Kd.int IntKind.i64).pair (Kd.int IntKind.i64))))))
                  a2,
                Blk.row false
                  ((Kd.int IntKind.i64).pair
                    ((Kd.int IntKind.i64).pair
                      ((Kd.int IntKind.i64).pair
                        ((Kd.int IntKind.i64).pair ((Kd.int IntKind.i64).pair (Kd.int IntKind.i64))))))
                  a4,
                Blk.row false
                  ((Kd.int IntKind.i64).pair
                    ((Kd.int IntKind.i64).pair
                      ((Kd.int IntKind.i64).pair
                        ((Kd.int IntKind.i64).pair ((Kd.int IntKind.i64).pair (Kd.int IntKind.i64))))))
                  a6])
        else
          guardB
            (bif decide (0 + a2.length ≤ a2.length) then
              bif decide (0 + a2.length ≤ a2.length) then
                preCh (List.take a2.length a2) (List.take a2.length a2) (↑a2.length : Int) 0
              else false
            else false)
            (bif decide (chkV (List.take a2.length a2) 0 = 0) then
              guardB
                (decide (0 + a0.length ≤ (List.take a0.length a0).length) && decide (0 + a2.length ≤ a2.length) &&
                    decide ((a0.length + a2.length) * 48 ≤ 140737488355328) &&
                  decide (a0.length + a2.length ≤ 4611686018427387904))
                (bif decide ((↑a4.length : Int) > 256) then
                  some
                    (PV.tup [PV.sc (Value.slice none 0 0), PV.sc (Value.int IntKind.i64 2)],
                      [Blk.fix false
                          [PV.sl 1 0 6 a0.length a0.length false a1, PV.sl 2 0 6 a2.length a2.length false a3,
                            PV.sl 3 0 6 a4.length a4.length false a5, PV.sl 4 0 6 a6.length a6.length false a7],
                        Blk.row false
                          ((Kd.int IntKind.i64).pair
                            ((Kd.int IntKind.i64).pair
                              ((Kd.int IntKind.i64).pair
                                ((Kd.int IntKind.i64).pair ((Kd.int IntKind.i64).pair (Kd.int IntKind.i64))))))
                          a0,
                        Blk.row false
                          ((Kd.int IntKind.i64).pair
                            ((Kd.int IntKind.i64).pair
                              ((Kd.int IntKind.i64).pair
                                ((Kd.int IntKind.i64).pair ((Kd.int IntKind.i64).pair (Kd.int IntKind.i64))))))
                          a2,
                        Blk.row false
                          ((Kd.int IntKind.i64).pair
                            ((Kd.int IntKind.i64).pair
                              ((Kd.int IntKind.i64).pair
                                ((Kd.int IntKind.i64).pair ((Kd.int IntKind.i64).pair (Kd.int IntKind.i64))))))
                          a4,
                        Blk.row false
                          ((Kd.int IntKind.i64).pair
                            ((Kd.int IntKind.i64).pair
                              ((Kd.int IntKind.i64).pair
                                ((Kd.int IntKind.i64).pair ((Kd.int IntKind.i64).pair (Kd.int IntKind.i64))))))
                          a6])
                else
                  guardB
                    (bif decide (0 + a4.length ≤ a4.length) then
                      bif decide (0 + a4.length ≤ a4.length) then
                        preCh (List.take a4.length a4) (List.take a4.length a4) (↑a4.length : Int) 0
                      else false
                    else false)
                    (bif decide (chkV (List.take a4.length a4) 0 = 0) then
                      guardB
                        (decide
                                (0 + (a0.length + a2.length) ≤
                                  (List.take a0.length (List.take a0.length a0) ++ List.take a2.length a2).length) &&
                              decide (0 + a4.length ≤ a4.length) &&
                            decide ((a0.length + a2.length + a4.length) * 48 ≤ 140737488355328) &&
                          decide (a0.length + a2.length + a4.length ≤ 4611686018427387904))
                        (bif decide ((↑a6.length : Int) > 256) then
                          some
                            (PV.tup [PV.sc (Value.slice none 0 0), PV.sc (Value.int IntKind.i64 2)],
                              [Blk.fix false
                                  [PV.sl 1 0 6 a0.length a0.length false a1, PV.sl 2 0 6 a2.length a2.length false a3,
                                    PV.sl 3 0 6 a4.length a4.length false a5, PV.sl 4 0 6 a6.length a6.length false a7],
                                Blk.row false
                                  ((Kd.int IntKind.i64).pair
                                    ((Kd.int IntKind.i64).pair
                                      ((Kd.int IntKind.i64).pair
                                        ((Kd.int IntKind.i64).pair ((Kd.int IntKind.i64).pair (Kd.int IntKind.i64))))))
                                  a0,
                                Blk.row false
                                  ((Kd.int IntKind.i64).pair
                                    ((Kd.int IntKind.i64).pair
                                      ((Kd.int IntKind.i64).pair
                                        ((Kd.int IntKind.i64).pair ((Kd.int IntKind.i64).pair (Kd.int IntKind.i64))))))
                                  a2,
                                Blk.row false
                                  ((Kd.int IntKind.i64).pair
                                    ((Kd.int IntKind.i64).pair
                                      ((Kd.int IntKind.i64).pair
                                        ((Kd.int IntKind.i64).pair ((Kd.int IntKind.i64).pair (Kd.int IntKind.i64))))))
                                  a4,
                                Blk.row false
                                  ((Kd.int IntKind.i64).pair
                                    ((Kd.int IntKind.i64).pair
                                      ((Kd.int IntKind.i64).pair
                                        ((Kd.int IntKind.i64).pair ((Kd.int IntKind.i64).pair (Kd.int IntKind.i64))))))
                                  a6])
                        else
                          guardB
                            (bif decide (0 + a6.length ≤ a6.length) then
                              bif decide (0 + a6.length ≤ a6.length) then
                                preCh (List.take a6.length a6) (List.take a6.length a6) (↑a6.length : Int) 0
                              else false
                            else false)
                            (bif decide (chkV (List.take a6.length a6) 0 = 0) then
                              guardB
                                (decide
                                        (0 + (a0.length + a2.length + a4.length) ≤
                                          (List.take (a0.length + a2.length)
                                                (List.take a0.length (List.take a0.length a0) ++
                                                  List.take a2.length a2) ++
                                              List.take a4.length a4).length) &&
                                      decide (0 + a6.length ≤ a6.length) &&
                                    decide ((a0.length + a2.length + a4.length + a6.length) * 48 ≤ 140737488355328) &&
                                  decide (a0.length + a2.length + a4.length + a6.length ≤ 4611686018427387904))
                                (guardB
                                  (bif
                                      decide
                                        (a0.length + a2.length + a4.length + a6.length =
                                          (List.take (a0.length + a2.length + a4.length)
                                                (List.take (a0.length + a2.length)
                                                    (List.take a0.length (List.take a0.length a0) ++
                                                      List.take a2.length a2) ++
                                                  List.take a4.length a4) ++
                                              List.take a6.length a6).length) then
                                    decide
                                      ((List.take (a0.length + a2.length + a4.length)
                                              (List.take (a0.length + a2.length)
                                                  (List.take a0.length (List.take a0.length a0) ++
                                                    List.take a2.length a2) ++
                                                List.take a4.length a4) ++
                                            List.take a6.length a6).length ≤
                                        2000)
                                  else false)
                                  (guardB
                                    (bif
                                        decide
                                          (a0.length + a2.length + a4.length + a6.length =
                                            (srtP
                                                (List.take (a0.length + a2.length + a4.length)
                                                    (List.take (a0.length + a2.length)
                                                        (List.take a0.length (List.take a0.length a0) ++
                                                          List.take a2.length a2) ++
                                                      List.take a4.length a4) ++
                                                  List.take a6.length a6)).length) then
                                      decide
                                        ((srtP
                                              (List.take (a0.length + a2.length + a4.length)
                                                  (List.take (a0.length + a2.length)
                                                      (List.take a0.length (List.take a0.length a0) ++
                                                        List.take a2.length a2) ++
                                                    List.take a4.length a4) ++
                                                List.take a6.length a6)).length ≤
                                          2000)
                                    else false)
                                    (some
                                      (PV.tup
                                          [PV.sl 5 0 6
                                              (cpt
                                                  (srtP
                                                    (List.take (a0.length + a2.length + a4.length)
                                                        (List.take (a0.length + a2.length)
                                                            (List.take a0.length (List.take a0.length a0) ++
                                                              List.take a2.length a2) ++
                                                          List.take a4.length a4) ++
                                                      List.take a6.length a6))).length
                                              (cpt
                                                  (srtP
                                                    (List.take (a0.length + a2.length + a4.length)
                                                        (List.take (a0.length + a2.length)
                                                            (List.take a0.length (List.take a0.length a0) ++
                                                              List.take a2.length a2) ++
                                                          List.take a4.length a4) ++
                                                      List.take a6.length a6))).length
                                              false
                                              (a6.length.beq 0 &&
                                                (a4.length.beq 0 && (a2.length.beq 0 && a0.length.beq 0))),
                                            PV.sc (Value.int IntKind.i64 0)],
                                        [Blk.fix false
                                            [PV.sl 1 0 6 a0.length a0.length false a1,
                                              PV.sl 2 0 6 a2.length a2.length false a3,
                                              PV.sl 3 0 6 a4.length a4.length false a5,
                                              PV.sl 4 0 6 a6.length a6.length false a7],
                                          Blk.row false
                                            ((Kd.int IntKind.i64).pair
                                              ((Kd.int IntKind.i64).pair
                                                ((Kd.int IntKind.i64).pair
                                                  ((Kd.int IntKind.i64).pair
                                                    ((Kd.int IntKind.i64).pair (Kd.int IntKind.i64))))))
                                            a0,
                                          Blk.row false
                                            ((Kd.int IntKind.i64).pair
                                              ((Kd.int IntKind.i64).pair
                                                ((Kd.int IntKind.i64).pair
                                                  ((Kd.int IntKind.i64).pair
                                                    ((Kd.int IntKind.i64).pair (Kd.int IntKind.i64))))))
                                            a2,
                                          Blk.row false
                                            ((Kd.int IntKind.i64).pair
                                              ((Kd.int IntKind.i64).pair
                                                ((Kd.int IntKind.i64).pair
                                                  ((Kd.int IntKind.i64).pair
                                                    ((Kd.int IntKind.i64).pair (Kd.int IntKind.i64))))))
                                            a4,
                                          Blk.row false
                                            ((Kd.int IntKind.i64).pair
                                              ((Kd.int IntKind.i64).pair
                                                ((Kd.int IntKind.i64).pair
                                                  ((Kd.int IntKind.i64).pair
                                                    ((Kd.int IntKind.i64).pair (Kd.int IntKind.i64))))))
                                            a6,
                                          Blk.row true
                                            ((Kd.int IntKind.i64).pair
                                              ((Kd.int IntKind.i64).pair
                                                ((Kd.int IntKind.i64).pair
                                                  ((Kd.int IntKind.i64).pair
                                                    ((Kd.int IntKind.i64).pair (Kd.int IntKind.i64))))))
                                            (cpt
                                              (srtP
                                                (List.take (a0.length + a2.length + a4.length)
                                                    (List.take (a0.length + a2.length)
                                                        (List.take a0.length (List.take a0.length a0) ++
                                                          List.take a2.length a2) ++
                                                      List.take a4.length a4) ++
                                                  List.take a6.length a6)))]))))
                            else
                              some
                                (PV.tup
                                    [PV.sc (Value.slice none 0 0),
                                      PV.sc (Value.int IntKind.i64 (chkV (List.take a6.length a6) 0))],
                                  [Blk.fix false
                                      [PV.sl 1 0 6 a0.length a0.length false a1,
                                        PV.sl 2 0 6 a2.length a2.length false a3,
                                        PV.sl 3 0 6 a4.length a4.length false a5,
                                        PV.sl 4 0 6 a6.length a6.length false a7],
                                    Blk.row false
                                      ((Kd.int IntKind.i64).pair
                                        ((Kd.int IntKind.i64).pair
                                          ((Kd.int IntKind.i64).pair
                                            ((Kd.int IntKind.i64).pair
                                              ((Kd.int IntKind.i64).pair (Kd.int IntKind.i64))))))
                                      a0,
                                    Blk.row false
                                      ((Kd.int IntKind.i64).pair
                                        ((Kd.int IntKind.i64).pair
                                          ((Kd.int IntKind.i64).pair
                                            ((Kd.int IntKind.i64).pair
                                              ((Kd.int IntKind.i64).pair (Kd.int IntKind.i64))))))
                                      a2,
                                    Blk.row false
                                      ((Kd.int IntKind.i64).pair
                                        ((Kd.int IntKind.i64).pair
                                          ((Kd.int IntKind.i64).pair
                                            ((Kd.int IntKind.i64).pair
                                              ((Kd.int IntKind.i64).pair (Kd.int IntKind.i64))))))
                                      a4,
                                    Blk.row false
                                      ((Kd.int IntKind.i64).pair
                                        ((Kd.int IntKind.i64).pair
                                          ((Kd.int IntKind.i64).pair
                                            ((Kd.int IntKind.i64).pair
                                              ((Kd.int IntKind.i64).pair (Kd.int IntKind.i64))))))
                                      a6])))
                    else
                      some
                        (PV.tup
                            [PV.sc (Value.slice none 0 0),
                              PV.sc (Value.int IntKind.i64 (chkV (List.take a4.length a4) 0))],
                          [Blk.fix false
                              [PV.sl 1 0 6 a0.length a0.length false a1, PV.sl 2 0 6 a2.length a2.length false a3,
                                PV.sl 3 0 6 a4.length a4.length false a5, PV.sl 4 0 6 a6.length a6.length false a7],
                            Blk.row false
                              ((Kd.int IntKind.i64).pair
                                ((Kd.int IntKind.i64).pair
                                  ((Kd.int IntKind.i64).pair
                                    ((Kd.int IntKind.i64).pair ((Kd.int IntKind.i64).pair (Kd.int IntKind.i64))))))
                              a0,
                            Blk.row false
                              ((Kd.int IntKind.i64).pair
                                ((Kd.int IntKind.i64).pair
                                  ((Kd.int IntKind.i64).pair
                                    ((Kd.int IntKind.i64).pair ((Kd.int IntKind.i64).pair (Kd.int IntKind.i64))))))
                              a2,
                            Blk.row false
                              ((Kd.int IntKind.i64).pair
                                ((Kd.int IntKind.i64).pair
                                  ((Kd.int IntKind.i64).pair
                                    ((Kd.int IntKind.i64).pair ((Kd.int IntKind.i64).pair (Kd.int IntKind.i64))))))
                              a4,
                            Blk.row false
                              ((Kd.int IntKind.i64).pair
                                ((Kd.int IntKind.i64).pair
                                  ((Kd.int IntKind.i64).pair
                                    ((Kd.int IntKind.i64).pair ((Kd.int IntKind.i64).pair (Kd.int IntKind.i64))))))
                              a6])))
            else
              some
                (PV.tup [PV.sc (Value.slice none 0 0), PV.sc (Value.int IntKind.i64 (chkV (List.take a2.length a2) 0))],
                  [Blk.fix false
                      [PV.sl 1 0 6 a0.length a0.length false a1, PV.sl 2 0 6 a2.length a2.length false a3,
                        PV.sl 3 0 6 a4.length a4.length false a5, PV.sl 4 0 6 a6.length a6.length false a7],
                    Blk.row false
                      ((Kd.int IntKind.i64).pair
                        ((Kd.int IntKind.i64).pair
                          ((Kd.int IntKind.i64).pair
                            ((Kd.int IntKind.i64).pair ((Kd.int IntKind.i64).pair (Kd.int IntKind.i64))))))
                      a0,
                    Blk.row false
                      ((Kd.int IntKind.i64).pair
                        ((Kd.int IntKind.i64).pair
                          ((Kd.int IntKind.i64).pair
                            ((Kd.int IntKind.i64).pair ((Kd.int IntKind.i64).pair (Kd.int IntKind.i64))))))
                      a2,
                    Blk.row false
                      ((Kd.int IntKind.i64).pair
                        ((Kd.int IntKind.i64).pair
                          ((Kd.int IntKind.i64).pair
                            ((Kd.int IntKind.i64).pair ((Kd.int IntKind.i64).pair (Kd.int IntKind.i64))))))
                      a4,
                    Blk.row false
                      ((Kd.int IntKind.i64).pair
                        ((Kd.int IntKind.i64).pair
                          ((Kd.int IntKind.i64).pair
                            ((Kd.int IntKind.i64).pair ((Kd.int IntKind.i64).pair (Kd.int IntKind.i64))))))
                      a6])))
    else
      some
        (PV.tup [PV.sc (Value.slice none 0 0), PV.sc (Value.int IntKind.i64 (chkV (List.take a0.length a0) 0))],
          [Blk.fix false
              [PV.sl 1 0 6 a0.length a0.length false a1, PV.sl 2 0 6 a2.length a2.length false a3,
                PV.sl 3 0 6 a4.length a4.length false a5, PV.sl 4 0 6 a6.length a6.length false a7],
            Blk.row false
              ((Kd.int IntKind.i64).pair
                ((Kd.int IntKind.i64).pair
                  ((Kd.int IntKind.i64).pair
                    ((Kd.int IntKind.i64).pair ((Kd.int IntKind.i64).pair (Kd.int IntKind.i64))))))
              a0,
            Blk.row false
              ((Kd.int IntKind.i64).pair
                ((Kd.int IntKind.i64).pair
                  ((Kd.int IntKind.i64).pair
                    ((Kd.int IntKind.i64).pair ((Kd.int IntKind.i64).pair (Kd.int IntKind.i64))))))
              a2,
            Blk.row false
              ((Kd.int IntKind.i64).pair
                ((Kd.int IntKind.i64).pair
                  ((Kd.int IntKind.i64).pair
                    ((Kd.int IntKind.i64).pair ((Kd.int IntKind.i64).pair (Kd.int IntKind.i64))))))
              a4,
            Blk.row false
              ((Kd.int IntKind.i64).pair
                ((Kd.int IntKind.i64).pair
                  ((Kd.int IntKind.i64).pair
                    ((Kd.int IntKind.i64).pair ((Kd.int IntKind.i64).pair (Kd.int IntKind.i64))))))
              a6]))) := by kernel_rfl
theorem chk_step {l : List Pl} {k : Int} {x : Pl} (h : 0 ≤ k) (hx : l[k.toNat]? = some x) : chkV l k = bif decide (plE x = 0) then (bif decide (prv l k > tmP x) then 12 else chkV l (k + 1)) else 4 := by
  unfold chkV
  rw [dropC hx, show (k + 1).toNat = k.toNat + 1 by omega, show prv l (k + 1) = tmP x by unfold prv; rw [decide_eq_false (show ¬ k + 1 ≤ 0 by omega), show k + 1 - 1 = k by omega, getDo hx]; rfl]
  rfl
theorem prv_pos {l : List Pl} {k : Int} {y : Pl} (h : 0 < k) (hy : l[(k - 1).toNat]? = some y) : prv l k = tmP y := by
  unfold prv; rw [decide_eq_false (show ¬ k ≤ 0 by omega), getDo hy]; rfl
theorem chk_end {l : List Pl} {k : Int} (h : (l.length : Int) ≤ k) : chkV l k = 0 := by
  unfold chkV; rw [List.drop_eq_nil_of_le (by omega)]; rfl
theorem q62l (l : List Pl) (nl : Bool) (l2 : List Pl) (nl2 : Bool) (n k : Int) (h : preCh l l2 n k = true) : z62lL l nl l2 nl2 n k = cond (decide (chkV l k = 0)) (some (.exit 2, [.undef, .undef], R2' l l2)) (some (.ret, [.sc (.slice none 0 0), .sc (.int .i64 (chkV l k))], R2' l l2)) := by
  unfold preCh at h
  rw [Bool.and_eq_true, bp_true] at h
  obtain ⟨rfl, h⟩ := h
  obtain ⟨h1, h2, h3, h4⟩ := of_decide_eq_true h
  rw [z62l]
  simp only [List.take_length, Nat.zero_add, lenT, cond_true]
  refine cond_split (fun hk => ?_) (fun hk => ?_)
  · have hk := of_decide_eq_true hk
    obtain ⟨x, hx⟩ := getE (l := l) (k := k.toNat) (by omega)
    have hw : IntKind.i64.wrap (k + 1) = k + 1 := W_id _ (by omega) (by omega)
    have hmu : decide (muCh ((l, nl), (l, nl2), n, k + 1, PUnit.unit) < muCh ((l, nl), (l, nl2), n, k, ())) = true := decide_eq_true (show (n - (k + 1)).toNat < (n - k).toNat by omega)
    have hpre : preCh l l n (k + 1) = true := by unfold preCh; rw [Bool.and_eq_true, bp_true]; exact ⟨rfl, decide_eq_true ⟨h1, h2, by omega, by omega⟩⟩
    rw [hx, hw, chk_step h3 hx]
    refine guard_split (by simp; omega) ?_
    simp only [bindO]
    rcases plE_or x with he | he
    · rw [he]
      simp only [show ((0 : Int) != 0) = false from rfl, show decide ((0 : Int) = 0) = true from rfl, cond_false, cond_true]
      refine cond_split (fun hp => ?_) (fun hp => ?_)
      · have hp := of_decide_eq_true hp
        have hw1 : IntKind.i64.wrap (k - 1) = k - 1 := W_id _ (by omega) (by omega)
        obtain ⟨y, hy⟩ := getE (l := l) (k := (k - 1).toNat) (by omega)
        rw [hw1, hy, prv_pos (by omega) hy]
        refine guard_split (by simp; omega) ?_
        simp only [bindO]
        refine cond_split (fun ht => ?_) (fun ht => ?_)
        · rw [show decide (tmP y > tmP x) = true from ht]; rfl
        · rw [show decide (tmP y > tmP x) = false from ht]
          exact guard_split hmu (guard_split hpre rfl)
      · have hp := of_decide_eq_false hp
        have : decide (prv l k > tmP x) = false := by
          have := plE_tm he
          unfold prv
          rw [decide_eq_true (show k ≤ 0 by omega)]
          exact decide_eq_false (by simp only [cond_true]; omega)
        rw [this]
        exact guard_split hmu (guard_split hpre rfl)
    · rw [he]; rfl
  · have hk := of_decide_eq_false hk
    rw [chk_end (by omega)]; rfl
theorem preCh_mk {l : List Pl} (h : l.length ≤ 1000) : preCh l l (l.length : Int) 0 = true := by
  unfold preCh; rw [Bool.and_eq_true, bp_true]; exact ⟨rfl, decide_eq_true ⟨h, rfl, by omega, by omega⟩⟩
theorem mgE_big {w : WS} {r : List WS} (h : 256 < w.1.length) : mgE (w :: r) = 2 := by
  show (bif decide (256 < w.1.length) then (2 : Int) else _) = 2
  rw [decide_eq_true h]; rfl
theorem mgE_go {w : WS} {r : List WS} (h : ¬ 256 < w.1.length) : mgE (w :: r) = bif decide (chkV w.1 0 = 0) then mgE r else chkV w.1 0 := by
  show (bif decide (256 < w.1.length) then (2 : Int) else bif decide (chkV w.1 0 = 0) then mgE r else chkV w.1 0) = _
  rw [decide_eq_false h]; rfl
theorem mgE_ok {w : WS} {r : List WS} (h : ¬ 256 < w.1.length) (hc : decide (chkV w.1 0 = 0) = true) : mgE (w :: r) = mgE r := by rw [mgE_go h, hc]; rfl
theorem mgE_bad {w : WS} {r : List WS} (h : ¬ 256 < w.1.length) (hc : decide (chkV w.1 0 = 0) = false) : mgE (w :: r) = chkV w.1 0 := by rw [mgE_go h, hc]; rfl
theorem take_ap2 {α : Type} (a b : List α) : List.take (a.length + b.length) (a ++ b) = a ++ b := by rw [← List.length_append, List.take_length]
theorem take_ap3 {α : Type} (a b c : List α) : List.take (a.length + b.length + c.length) (a ++ b ++ c) = a ++ b ++ c := by rw [← List.length_append, ← List.length_append, List.take_length]
theorem len_g {a : Nat} {l : List Pl} (h : a = l.length) (h2 : l.length ≤ 2000) : (bif decide (a = l.length) then decide (l.length ≤ 2000) else false) = true := by rw [decide_eq_true h]; exact decide_eq_true h2
theorem q62a (l1 : List Pl) (n1 : Bool) : z62aL l1 n1 = pickA (specM ks1 fs1 (((l1, n1), ()), ())).2 := by
  have key : ∀ (x : Option (PV × List Blk)), x = cond (decide (mgE [(l1, n1)] = 0)) (some (.tup [.sl 2 0 6 (mgL [(l1, n1)]).length (mgL [(l1, n1)]).length false (flg [(l1, n1)]), .sc (.int .i64 0)], [.fix false [.sl 1 0 6 l1.length l1.length false n1], .row false kPl l1, .row true kPl (mgL [(l1, n1)])])) (some (.tup [.sc (.slice none 0 0), .sc (.int .i64 (mgE [(l1, n1)]))], [.fix false [.sl 1 0 6 l1.length l1.length false n1], .row false kPl l1])) → x = pickA (specM ks1 fs1 (((l1, n1), ()), ())).2 := fun x h => h
  refine key _ ?_
  rw [z62a]
  simp only [List.take_length, Nat.zero_add, lenT, lenS, cond_true, take_ap2, take_ap3]
  have E1 : mgE [(l1, n1)] = mgE [(l1, n1)] := rfl
  refine cond_split (fun hb => ?_) (fun hb => ?_)
  · have hb := of_decide_eq_true hb
    rw [E1, mgE_big (show 256 < l1.length by omega)]; rfl
  have b1 : ¬ 256 < l1.length := by have := of_decide_eq_false hb; omega
  refine guard_split (preCh_mk (by omega)) ?_
  refine cond_split (fun hc => ?_) (fun hc => by rw [E1, mgE_bad b1 hc, hc]; rfl)
  have E2 := E1.trans (mgE_ok b1 hc)
  refine guard_split (by simp; omega) ?_
  have hcat : l1 = catP [(l1, n1)] := by simp [catP]
  have hlen : l1.length ≤ 1024 := by omega
  refine guard_split (decide_eq_true (by omega)) ?_
  refine guard_split (len_g (by rw [srtP_len]) (by rw [srtP_len]; omega)) ?_
  have hf : l1.length.beq 0 = flg [(l1, n1)] := by
    show _ = (l1.length.beq 0 && true)
    cases l1.length.beq 0 <;> rfl
  rw [E2, hf]
  unfold mgL
  rw [← hcat]
  rfl
theorem q62b (l1 : List Pl) (n1 : Bool) (l2 : List Pl) (n2 : Bool) : z62bL l1 n1 l2 n2 = pickA (specM ks2 fs2 (((l1, n1), (l2, n2), ()), ())).2 := by
  have key : ∀ (x : Option (PV × List Blk)), x = cond (decide (mgE [(l1, n1), (l2, n2)] = 0)) (some (.tup [.sl 3 0 6 (mgL [(l1, n1), (l2, n2)]).length (mgL [(l1, n1), (l2, n2)]).length false (flg [(l1, n1), (l2, n2)]), .sc (.int .i64 0)], [.fix false [.sl 1 0 6 l1.length l1.length false n1, .sl 2 0 6 l2.length l2.length false n2], .row false kPl l1, .row false kPl l2, .row true kPl (mgL [(l1, n1), (l2, n2)])])) (some (.tup [.sc (.slice none 0 0), .sc (.int .i64 (mgE [(l1, n1), (l2, n2)]))], [.fix false [.sl 1 0 6 l1.length l1.length false n1, .sl 2 0 6 l2.length l2.length false n2], .row false kPl l1, .row false kPl l2])) → x = pickA (specM ks2 fs2 (((l1, n1), (l2, n2), ()), ())).2 := fun x h => h
  refine key _ ?_
  rw [z62b]
  simp only [List.take_length, Nat.zero_add, lenT, lenS, cond_true, take_ap2, take_ap3]
  have E1 : mgE [(l1, n1), (l2, n2)] = mgE [(l1, n1), (l2, n2)] := rfl
  refine cond_split (fun hb => ?_) (fun hb => ?_)
  · have hb := of_decide_eq_true hb
    rw [E1, mgE_big (show 256 < l1.length by omega)]; rfl
  have b1 : ¬ 256 < l1.length := by have := of_decide_eq_false hb; omega
  refine guard_split (preCh_mk (by omega)) ?_
  refine cond_split (fun hc => ?_) (fun hc => by rw [E1, mgE_bad b1 hc, hc]; rfl)
  have E2 := E1.trans (mgE_ok b1 hc)
  refine guard_split (by simp; omega) ?_
  refine cond_split (fun hb => ?_) (fun hb => ?_)
  · have hb := of_decide_eq_true hb
    rw [E2, mgE_big (show 256 < l2.length by omega)]; rfl
  have b2 : ¬ 256 < l2.length := by have := of_decide_eq_false hb; omega
  refine guard_split (preCh_mk (by omega)) ?_
  refine cond_split (fun hc => ?_) (fun hc => by rw [E2, mgE_bad b2 hc, hc]; rfl)
  have E3 := E2.trans (mgE_ok b2 hc)
  refine guard_split (by simp; omega) ?_
  have hcat : (l1 ++ l2) = catP [(l1, n1), (l2, n2)] := by simp [catP]
  have hlen : (l1 ++ l2).length ≤ 1024 := by simp only [List.length_append]; omega
  refine guard_split (len_g (by simp only [List.length_append]) (by omega)) ?_
  refine guard_split (len_g (by rw [srtP_len]; simp only [List.length_append]) (by rw [srtP_len]; omega)) ?_
  have hf : (l2.length.beq 0 && l1.length.beq 0) = flg [(l1, n1), (l2, n2)] := by
    show _ = (l1.length.beq 0 && (l2.length.beq 0 && true))
    cases l1.length.beq 0 <;> cases l2.length.beq 0 <;> rfl
  rw [E3, hf]
  unfold mgL
  rw [← hcat]
  rfl
theorem q62c (l1 : List Pl) (n1 : Bool) (l2 : List Pl) (n2 : Bool) (l3 : List Pl) (n3 : Bool) : z62cL l1 n1 l2 n2 l3 n3 = pickA (specM ks3 fs3 (((l1, n1), (l2, n2), (l3, n3), ()), ())).2 := by
  have key : ∀ (x : Option (PV × List Blk)), x = cond (decide (mgE [(l1, n1), (l2, n2), (l3, n3)] = 0)) (some (.tup [.sl 4 0 6 (mgL [(l1, n1), (l2, n2), (l3, n3)]).length (mgL [(l1, n1), (l2, n2), (l3, n3)]).length false (flg [(l1, n1), (l2, n2), (l3, n3)]), .sc (.int .i64 0)], [.fix false [.sl 1 0 6 l1.length l1.length false n1, .sl 2 0 6 l2.length l2.length false n2, .sl 3 0 6 l3.length l3.length false n3], .row false kPl l1, .row false kPl l2, .row false kPl l3, .row true kPl (mgL [(l1, n1), (l2, n2), (l3, n3)])])) (some (.tup [.sc (.slice none 0 0), .sc (.int .i64 (mgE [(l1, n1), (l2, n2), (l3, n3)]))], [.fix false [.sl 1 0 6 l1.length l1.length false n1, .sl 2 0 6 l2.length l2.length false n2, .sl 3 0 6 l3.length l3.length false n3], .row false kPl l1, .row false kPl l2, .row false kPl l3])) → x = pickA (specM ks3 fs3 (((l1, n1), (l2, n2), (l3, n3), ()), ())).2 := fun x h => h
  refine key _ ?_
  rw [z62c]
  simp only [List.take_length, Nat.zero_add, lenT, lenS, cond_true, take_ap2, take_ap3]
  have E1 : mgE [(l1, n1), (l2, n2), (l3, n3)] = mgE [(l1, n1), (l2, n2), (l3, n3)] := rfl
  refine cond_split (fun hb => ?_) (fun hb => ?_)
  · have hb := of_decide_eq_true hb
    rw [E1, mgE_big (show 256 < l1.length by omega)]; rfl
  have b1 : ¬ 256 < l1.length := by have := of_decide_eq_false hb; omega
  refine guard_split (preCh_mk (by omega)) ?_
  refine cond_split (fun hc => ?_) (fun hc => by rw [E1, mgE_bad b1 hc, hc]; rfl)
  have E2 := E1.trans (mgE_ok b1 hc)
  refine guard_split (by simp; omega) ?_
  refine cond_split (fun hb => ?_) (fun hb => ?_)
  · have hb := of_decide_eq_true hb
    rw [E2, mgE_big (show 256 < l2.length by omega)]; rfl
  have b2 : ¬ 256 < l2.length := by have := of_decide_eq_false hb; omega
  refine guard_split (preCh_mk (by omega)) ?_
  refine cond_split (fun hc => ?_) (fun hc => by rw [E2, mgE_bad b2 hc, hc]; rfl)
  have E3 := E2.trans (mgE_ok b2 hc)
  refine guard_split (by simp; omega) ?_
  refine cond_split (fun hb => ?_) (fun hb => ?_)
  · have hb := of_decide_eq_true hb
    rw [E3, mgE_big (show 256 < l3.length by omega)]; rfl
  have b3 : ¬ 256 < l3.length := by have := of_decide_eq_false hb; omega
  refine guard_split (preCh_mk (by omega)) ?_
  refine cond_split (fun hc => ?_) (fun hc => by rw [E3, mgE_bad b3 hc, hc]; rfl)
  have E4 := E3.trans (mgE_ok b3 hc)
  refine guard_split (by simp; omega) ?_
  have hcat : ((l1 ++ l2) ++ l3) = catP [(l1, n1), (l2, n2), (l3, n3)] := by simp [catP]
  have hlen : ((l1 ++ l2) ++ l3).length ≤ 1024 := by simp only [List.length_append]; omega
  refine guard_split (len_g (by simp only [List.length_append]) (by omega)) ?_
  refine guard_split (len_g (by rw [srtP_len]; simp only [List.length_append]) (by rw [srtP_len]; omega)) ?_
  have hf : (l3.length.beq 0 && (l2.length.beq 0 && l1.length.beq 0)) = flg [(l1, n1), (l2, n2), (l3, n3)] := by
    show _ = (l1.length.beq 0 && (l2.length.beq 0 && (l3.length.beq 0 && true)))
    cases l1.length.beq 0 <;> cases l2.length.beq 0 <;> cases l3.length.beq 0 <;> rfl
  rw [E4, hf]
  unfold mgL
  rw [← hcat]
  rfl
theorem q62d (l1 : List Pl) (n1 : Bool) (l2 : List Pl) (n2 : Bool) (l3 : List Pl) (n3 : Bool) (l4 : List Pl) (n4 : Bool) : z62dL l1 n1 l2 n2 l3 n3 l4 n4 = pickA (specM ks4 fs4 (((l1, n1), (l2, n2), (l3, n3), (l4, n4), ()), ())).2 := by
  have key : ∀ (x : Option (PV × List Blk)), x = cond (decide (mgE [(l1, n1), (l2, n2), (l3, n3), (l4, n4)] = 0)) (some (.tup [.sl 5 0 6 (mgL [(l1, n1), (l2, n2), (l3, n3), (l4, n4)]).length (mgL [(l1, n1), (l2, n2), (l3, n3), (l4, n4)]).length false (flg [(l1, n1), (l2, n2), (l3, n3), (l4, n4)]), .sc (.int .i64 0)], [.fix false [.sl 1 0 6 l1.length l1.length false n1, .sl 2 0 6 l2.length l2.length false n2, .sl 3 0 6 l3.length l3.length false n3, .sl 4 0 6 l4.length l4.length false n4], .row false kPl l1, .row false kPl l2, .row false kPl l3, .row false kPl l4, .row true kPl (mgL [(l1, n1), (l2, n2), (l3, n3), (l4, n4)])])) (some (.tup [.sc (.slice none 0 0), .sc (.int .i64 (mgE [(l1, n1), (l2, n2), (l3, n3), (l4, n4)]))], [.fix false [.sl 1 0 6 l1.length l1.length false n1, .sl 2 0 6 l2.length l2.length false n2, .sl 3 0 6 l3.length l3.length false n3, .sl 4 0 6 l4.length l4.length false n4], .row false kPl l1, .row false kPl l2, .row false kPl l3, .row false kPl l4])) → x = pickA (specM ks4 fs4 (((l1, n1), (l2, n2), (l3, n3), (l4, n4), ()), ())).2 := fun x h => h
  refine key _ ?_
  rw [z62d]
  simp only [List.take_length, Nat.zero_add, lenT, lenS, cond_true, take_ap2, take_ap3]
  have E1 : mgE [(l1, n1), (l2, n2), (l3, n3), (l4, n4)] = mgE [(l1, n1), (l2, n2), (l3, n3), (l4, n4)] := rfl
  refine cond_split (fun hb => ?_) (fun hb => ?_)
  · have hb := of_decide_eq_true hb
    rw [E1, mgE_big (show 256 < l1.length by omega)]; rfl
  have b1 : ¬ 256 < l1.length := by have := of_decide_eq_false hb; omega
  refine guard_split (preCh_mk (by omega)) ?_
  refine cond_split (fun hc => ?_) (fun hc => by rw [E1, mgE_bad b1 hc, hc]; rfl)
  have E2 := E1.trans (mgE_ok b1 hc)
  refine guard_split (by simp; omega) ?_
  refine cond_split (fun hb => ?_) (fun hb => ?_)
  · have hb := of_decide_eq_true hb
    rw [E2, mgE_big (show 256 < l2.length by omega)]; rfl
  have b2 : ¬ 256 < l2.length := by have := of_decide_eq_false hb; omega
  refine guard_split (preCh_mk (by omega)) ?_
  refine cond_split (fun hc => ?_) (fun hc => by rw [E2, mgE_bad b2 hc, hc]; rfl)
  have E3 := E2.trans (mgE_ok b2 hc)
  refine guard_split (by simp; omega) ?_
  refine cond_split (fun hb => ?_) (fun hb => ?_)
  · have hb := of_decide_eq_true hb
    rw [E3, mgE_big (show 256 < l3.length by omega)]; rfl
  have b3 : ¬ 256 < l3.length := by have := of_decide_eq_false hb; omega
  refine guard_split (preCh_mk (by omega)) ?_
  refine cond_split (fun hc => ?_) (fun hc => by rw [E3, mgE_bad b3 hc, hc]; rfl)
  have E4 := E3.trans (mgE_ok b3 hc)
  refine guard_split (by simp; omega) ?_
  refine cond_split (fun hb => ?_) (fun hb => ?_)
  · have hb := of_decide_eq_true hb
    rw [E4, mgE_big (show 256 < l4.length by omega)]; rfl
  have b4 : ¬ 256 < l4.length := by have := of_decide_eq_false hb; omega
  refine guard_split (preCh_mk (by omega)) ?_
  refine cond_split (fun hc => ?_) (fun hc => by rw [E4, mgE_bad b4 hc, hc]; rfl)
  have E5 := E4.trans (mgE_ok b4 hc)
  refine guard_split (by simp; omega) ?_
  have hcat : (((l1 ++ l2) ++ l3) ++ l4) = catP [(l1, n1), (l2, n2), (l3, n3), (l4, n4)] := by simp [catP]
  have hlen : (((l1 ++ l2) ++ l3) ++ l4).length ≤ 1024 := by simp only [List.length_append]; omega
  refine guard_split (len_g (by simp only [List.length_append]) (by omega)) ?_
  refine guard_split (len_g (by rw [srtP_len]; simp only [List.length_append]) (by rw [srtP_len]; omega)) ?_
  have hf : (l4.length.beq 0 && (l3.length.beq 0 && (l2.length.beq 0 && l1.length.beq 0))) = flg [(l1, n1), (l2, n2), (l3, n3), (l4, n4)] := by
    show _ = (l1.length.beq 0 && (l2.length.beq 0 && (l3.length.beq 0 && (l4.length.beq 0 && true))))
    cases l1.length.beq 0 <;> cases l2.length.beq 0 <;> cases l3.length.beq 0 <;> cases l4.length.beq 0 <;> rfl
  rw [E5, hf]
  unfold mgL
  rw [← hcat]
  rfl
theorem in62 : CutOK Try.prog Try.f62.ntmps (codeAt 2 (bodyF Try.f62)) [6, 22, 23, 24] [2, 3] (entC kCh cCh) := loop_cutW (kill := killA 0 kCh) M2_ok mixed muCh (by kernel_rfl) (noCuts_ok _) fun v h => q62l v.1.1 v.1.2 v.2.1.1 v.2.1.2 v.2.2.1 v.2.2.2.1 h
theorem p62_eq : ∀ xs H v, p62 xs H = some v → (xs, H) = st62 v := by
  intro xs H v h
  unfold p62 at h
  split at h
  · rename_i i e sz n lo full nl
    cases hb : (Nat.beq i 0 && Nat.beq e 0 && Nat.beq sz 1) with
    | false => rw [hb] at h; cases h
    | true =>
      rw [hb] at h
      simp only [Bool.and_eq_true, Nat.beq_eq] at hb
      obtain ⟨⟨rfl, rfl⟩, rfl⟩ := hb
      cases h; rfl
  · cases h
theorem q62r (n lo : Nat) (fu nl : Bool) (h : decide (n = 0 ∨ 4 < n) = true) : z62rL n lo fu nl = pickA (c62 (n, lo, fu, nl)).2 := by
  have key : ∀ (x : Option (PV × List Blk)), x = cond (decide (n = 0)) (some (.tup [.sl 1 0 6 0 0 false true, .sc (.int .i64 0)], [.row false I [], .row true kPl []])) (some (.tup [.sc (.slice none 0 0), .sc (.int .i64 2)], [.row false I []])) → x = pickA (c62 (n, lo, fu, nl)).2 := fun x h => h
  refine key _ ?_
  rw [z62r]
  rcases of_decide_eq_true h with h | h
  · subst h; rfl
  · rw [decide_eq_false (show ¬ n = 0 by omega)]
    have : decide ((n : Int) > 4) = true := decide_eq_true (by omega)
    rw [this]; rfl
theorem M3_ok : TableOK Try.prog M3 :=
  ext_ok (orE_ok (entF_ok Try.call62 p62_eq fun v h => liftF M2_ok mixed Try.func62 (show Try.f62.body = some (bodyF Try.f62) from rfl) (cut_cons (by kernel_rfl) in62 (noCuts_ok _)) (show 1 ≤ Try.f62.ntmps by decide) (q62r v.1 v.2.1 v.2.2.1 v.2.2.2 h))
    (orE_ok (entV_ok Try.call62 (liftV M2_ok mixed Try.func62 (show Try.f62.body = some (bodyF Try.f62) from rfl) (cut_cons (by kernel_rfl) in62 (noCuts_ok _)) (by decide) fun v h => q62b v.1.1.1 v.1.1.2 v.1.2.1.1 v.1.2.1.2))
    (orE_ok (entV_ok Try.call62 (liftV M2_ok mixed Try.func62 (show Try.f62.body = some (bodyF Try.f62) from rfl) (cut_cons (by kernel_rfl) in62 (noCuts_ok _)) (by decide) fun v h => q62a v.1.1.1 v.1.1.2))
    (orE_ok (entV_ok Try.call62 (liftV M2_ok mixed Try.func62 (show Try.f62.body = some (bodyF Try.f62) from rfl) (cut_cons (by kernel_rfl) in62 (noCuts_ok _)) (by decide) fun v h => q62c v.1.1.1 v.1.1.2 v.1.2.1.1 v.1.2.1.2 v.1.2.2.1.1 v.1.2.2.1.2))
      (entV_ok Try.call62 (liftV M2_ok mixed Try.func62 (show Try.f62.body = some (bodyF Try.f62) from rfl) (cut_cons (by kernel_rfl) in62 (noCuts_ok _)) (by decide) fun v h => q62d v.1.1.1 v.1.1.2 v.1.2.1.1 v.1.2.1.2 v.1.2.2.1.1 v.1.2.2.1.2 v.1.2.2.2.1.1 v.1.2.2.2.1.2)))))) M2_ok
end Go.Proofs.YtpndjpjpmcehbaaMm
