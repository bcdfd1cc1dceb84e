/- What is proved here: a contract over shapes holds wherever the slices lie and whatever else there is; what code leaves behind is told in one form (own slices under new numbers); a loop by one round of it, a marked block by its body. No condition but that the contracts of what is called hold. -/
import Derived.Test.YtokephobkllfgaaDoorEvY
namespace Go.Proofs.YtokephobkllfgaaDoorEv
open Go

def nthD : List Bd → Nat → Option Bd
  | [], _ => none
  | b :: _, 0 => some b
  | _ :: r, n + 1 => nthD r n
theorem nthD_eq : ∀ (l : List Bd) (c : Nat), nthD l c = l[c]?
  | [], c => by simp [nthD]
  | b :: r, 0 => by simp [nthD]
  | b :: r, c + 1 => by simp [nthD, nthD_eq r c]
/-- The block of the contract's own that stands for the caller's block i. -/
def findOwn (i : Nat) : List Bd → List Bool → Nat → Option Nat
  | some (j, _) :: bs, o :: os, c => bif o && Nat.beq j i then some c else findOwn i bs os (c + 1)
  | none :: bs, _ :: os, c => findOwn i bs os (c + 1)
  | _, _, _ => none
def clash (i : Nat) (o : Bool) : List Bd → List Bool → Bool
  | some (j, _) :: bs, o' :: os => (Nat.beq j i && (o || o')) || clash i o bs os
  | none :: bs, _ :: os => clash i o bs os
  | _, _ => false
def okBs : List Bd → List Bool → Bool
  | some (i, _) :: bs, o :: os => !clash i o bs os && okBs bs os
  | none :: bs, _ :: os => okBs bs os
  | _, _ => true
def backG (bs : List Bd) (n c : Nat) : Option Nat :=
  match nthD bs c with
  | some (some (i, sh)) => bif Nat.beq sh 0 then some i else none
  | some none => none
  | none => some (n + sub c bs.length)
def backH (g : Nat → Option Nat) (Hc : List Blk) (bs : List Bd) (os : List Bool) : Nat → List Blk → List Blk
  | _, [] => []
  | i, B :: r => (match findOwn i bs os 0 with
    | some c => renB g (blkAt Hc c)
    | none => B) :: backH g Hc bs os (i + 1) r
def allB : List Bool → Bool → Bool
  | [], p => p
  | b :: r, p => bif b then allB r p else false
theorem allB_true : ∀ {gs : List Bool} {p : Bool}, allB gs p = true → (∀ g ∈ gs, g = true) ∧ p = true
  | [], p, h => ⟨fun g hg => by simp at hg, h⟩
  | b :: r, p, h => by
    cases b with
    | false => simp [allB] at h
    | true =>
      simp only [allB, cond_true] at h
      obtain ⟨h1, h2⟩ := allB_true h
      exact ⟨fun g hg => by
        rcases List.mem_cons.1 hg with rfl | hg
        · rfl
        · exact h1 g hg, h2⟩
theorem clash_get {i : Nat} {o : Bool} : ∀ {bs : List Bd} {os : List Bool}, clash i o bs os = false → ∀ (c sh : Nat) (o' : Bool), bs[c]? = some (some (i, sh)) → os[c]? = some o' → o = false ∧ o' = false
  | [], os, _, c, sh, o', h, _ => by simp at h
  | _ :: _, [], _, c, sh, o', _, h => by simp at h
  | none :: bs, _ :: os, hc, c, sh, o', h1, h2 => by
    simp only [clash] at hc
    cases c with
    | zero => simp at h1
    | succ c => exact clash_get hc c sh o' (by simpa using h1) (by simpa using h2)
  | some (j, s) :: bs, o1 :: os, hc, c, sh, o', h1, h2 => by
    simp only [clash, Bool.or_eq_false_iff, Bool.and_eq_false_iff] at hc
    cases c with
    | zero =>
      simp at h1 h2
      obtain ⟨rfl, rfl⟩ := h1
      subst h2
      rcases hc.1 with h | h
      · simp at h
      · exact h
    | succ c => exact clash_get hc.2 c sh o' (by simpa using h1) (by simpa using h2)
theorem okBs_get : ∀ {bs : List Bd} {os : List Bool}, okBs bs os = true → ∀ (c c' i sh sh' : Nat) (o o' : Bool), c < c' → bs[c]? = some (some (i, sh)) → bs[c']? = some (some (i, sh')) → os[c]? = some o → os[c']? = some o' → o = false ∧ o' = false
  | [], os, _, c, c', i, sh, sh', o, o', _, h, _, _, _ => by simp at h
  | _ :: _, [], _, c, c', i, sh, sh', o, o', _, _, _, h, _ => by simp at h
  | none :: bs, _ :: os, hk, c, c', i, sh, sh', o, o', hlt, h1, h2, h3, h4 => by
    simp only [okBs] at hk
    match c, c' with
    | 0, _ => simp at h1
    | c + 1, c' + 1 => exact okBs_get hk c c' i sh sh' o o' (by omega) (by simpa using h1) (by simpa using h2) (by simpa using h3) (by simpa using h4)
  | some (j, s) :: bs, o1 :: os, hk, c, c', i, sh, sh', o, o', hlt, h1, h2, h3, h4 => by
    simp only [okBs, Bool.and_eq_true, Bool.not_eq_true'] at hk
    match c, c' with
    | 0, c' + 1 =>
      simp at h1 h3
      obtain ⟨rfl, rfl⟩ := h1
      subst h3
      exact clash_get hk.1 c' sh' o' (by simpa using h2) (by simpa using h4)
    | c + 1, c' + 1 => exact okBs_get hk.2 c c' i sh sh' o o' (by omega) (by simpa using h1) (by simpa using h2) (by simpa using h3) (by simpa using h4)
theorem findOwn_some : ∀ {bs : List Bd} {os : List Bool} {i k c : Nat}, findOwn i bs os k = some c → ∃ j sh, c = k + j ∧ bs[j]? = some (some (i, sh)) ∧ os[j]? = some true
  | [], os, i, k, c, h => by simp [findOwn] at h
  | none :: _, [], i, k, c, h => by simp [findOwn] at h
  | some _ :: _, [], i, k, c, h => by simp [findOwn] at h
  | none :: bs, _ :: os, i, k, c, h => by
    simp only [findOwn] at h
    obtain ⟨j, sh, h1, h2, h3⟩ := findOwn_some h
    exact ⟨j + 1, sh, by omega, by simpa using h2, by simpa using h3⟩
  | some (j0, s) :: bs, o :: os, i, k, c, h => by
    simp only [findOwn] at h
    cases hb : (o && Nat.beq j0 i) with
    | true =>
      rw [hb] at h; simp at h; subst h
      simp only [Bool.and_eq_true, Nat.beq_eq] at hb
      obtain ⟨rfl, rfl⟩ := hb
      exact ⟨0, s, rfl, rfl, rfl⟩
    | false =>
      rw [hb] at h; simp only [cond_false] at h
      obtain ⟨j, sh, h1, h2, h3⟩ := findOwn_some h
      exact ⟨j + 1, sh, by omega, by simpa using h2, by simpa using h3⟩
theorem findOwn_none : ∀ {bs : List Bd} {os : List Bool} {i k : Nat}, findOwn i bs os k = none → ∀ (j sh : Nat), bs[j]? = some (some (i, sh)) → os[j]? = some true → False
  | [], os, i, k, _, j, sh, h, _ => by simp at h
  | _ :: _, [], i, k, _, j, sh, _, h => by simp at h
  | none :: bs, _ :: os, i, k, hf, j, sh, h1, h2 => by
    simp only [findOwn] at hf
    cases j with
    | zero => simp at h1
    | succ j => exact findOwn_none hf j sh (by simpa using h1) (by simpa using h2)
  | some (j0, s) :: bs, o :: os, i, k, hf, j, sh, h1, h2 => by
    simp only [findOwn] at hf
    cases hb : (o && Nat.beq j0 i) with
    | true => rw [hb] at hf; simp at hf
    | false =>
      rw [hb] at hf; simp only [cond_false] at hf
      cases j with
      | zero =>
        simp at h1 h2
        obtain ⟨rfl, rfl⟩ := h1
        subst h2
        simp at hb
      | succ j => exact findOwn_none hf j sh (by simpa using h1) (by simpa using h2)
theorem backH_get {g : Nat → Option Nat} {Hc : List Blk} {bs : List Bd} {os : List Bool} : ∀ {H : List Blk} {k i : Nat}, (backH g Hc bs os k H)[i]? = (H[i]?).map fun B => match findOwn (k + i) bs os 0 with
    | some c => renB g (blkAt Hc c)
    | none => B
  | [], k, i => by simp [backH]
  | B :: r, k, 0 => by simp [backH]
  | B :: r, k, i + 1 => by
    simp only [backH, List.getElem?_cons_succ]
    rw [backH_get, show k + 1 + i = k + (i + 1) by omega]
theorem backH_len {g : Nat → Option Nat} {Hc : List Blk} {bs : List Bd} {os : List Bool} : ∀ {H : List Blk} {k : Nat}, (backH g Hc bs os k H).length = H.length
  | [], k => rfl
  | B :: r, k => by simp [backH, backH_len]

theorem viewAt_zero {m : Inj} {i : Nat} : viewAt m (some (i, 0)) = m i := by
  simp only [viewAt, Nat.add_zero]
  cases m i with
  | none => rfl
  | some x => rfl
theorem viewInj_at {m : Inj} {bs : List Bd} {c : Nat} {b : Bd} (h : bs[c]? = some b) : viewInj m bs c = viewAt m b := by unfold viewInj; rw [h]

/-- From behind a contract, over its own blocks, to the caller's. -/
theorem post_view {m m2 : Inj} {w w' : World} {H Hc Hc' : List Blk} {bs : List Bd} {r : PV} {v : Value} (hb : Bnd H bs Hc) (hok : okBs bs (Hc.map Blk.own) = true)
    (hrep : ∀ i B, getB H i = some B → BRep m w i B) (htop : ∀ i, H.length ≤ i → m i = none) (hdis : Dis m w (getB H)) (hp : PostC (viewInj m bs) w Hc r Hc' v m2 w') :
    PostC m w H (renP (backG bs H.length) r) (backH (backG bs H.length) Hc' bs (Hc.map Blk.own) 0 H ++ (Hc'.drop bs.length).map (renB (backG bs H.length))) v (fun i => if i < H.length then m i else m2 (bs.length + (i - H.length))) w' := by
  have hlb := hb.1
  have hbi : ∀ {j i sh : Nat}, bs[j]? = some (some (i, sh)) → i < H.length := by
    intro j i sh h
    have hj : j < Hc.length := by rw [← hlb]; exact (List.getElem?_eq_some_iff.1 h).1
    obtain ⟨B0, h0, _⟩ := hb.2 j i sh _ h (List.getElem?_eq_getElem hj)
    exact getB_lt h0
  have hown : ∀ {j i sh : Nat}, bs[j]? = some (some (i, sh)) → (Hc.map Blk.own)[j]? = some true → sh = 0 ∧ ∃ B B0, Hc[j]? = some B ∧ B.own = true ∧ getB H i = some B0 ∧ B0.own = true := by
    intro j i sh h ho
    rw [List.getElem?_map, Option.map_eq_some_iff] at ho
    obtain ⟨B, h1, h2⟩ := ho
    obtain ⟨B0, h3, _, h5⟩ := hb.2 j i sh B h h1
    obtain ⟨h6, h7⟩ := h5 h2
    exact ⟨h7, B, B0, h1, h2, h3, h6⟩
  have uniq : ∀ {j j' i sh sh' : Nat}, bs[j]? = some (some (i, sh)) → bs[j']? = some (some (i, sh')) → (Hc.map Blk.own)[j]? = some true → j = j' := by
    intro j j' i sh sh' h h' ho
    have hj' : j' < (Hc.map Blk.own).length := by rw [List.length_map, ← hlb]; exact (List.getElem?_eq_some_iff.1 h').1
    rcases Nat.lt_trichotomy j j' with hlt | heq | hgt
    · have := (okBs_get hok j j' i sh sh' _ _ hlt h h' ho (List.getElem?_eq_getElem hj')).1
      cases this
    · exact heq
    · have := (okBs_get hok j' j i sh' sh _ _ hgt h' h (List.getElem?_eq_getElem hj') ho).2
      cases this
  have g_some : ∀ {c k : Nat}, backG bs H.length c = some k → bs[c]? = some (some (k, 0)) ∨ (bs.length ≤ c ∧ k = H.length + (c - bs.length)) := by
    intro c k h
    unfold backG at h
    rw [nthD_eq] at h
    cases hc : bs[c]? with
    | none => rw [hc] at h; simp [sub] at h; exact Or.inr ⟨List.getElem?_eq_none_iff.1 hc, h.symm⟩
    | some b =>
      rw [hc] at h
      cases b with
      | none => simp at h
      | some q =>
        obtain ⟨i, sh⟩ := q
        simp only [] at h
        cases hs : Nat.beq sh 0 with
        | false => rw [hs] at h; simp at h
        | true =>
          rw [hs] at h; simp at h; subst h
          obtain rfl := Nat.eq_of_beq_eq_true hs
          exact Or.inl rfl
  have old : ∀ {c i : Nat}, bs[c]? = some (some (i, 0)) → m2 c = m i := by
    intro c i h
    have hc : c < Hc.length := by rw [← hlb]; exact (List.getElem?_eq_some_iff.1 h).1
    rw [hp.ext c hc, viewInj_at h, viewAt_zero]
  have tr : ∀ c k x, backG bs H.length c = some k → m2 c = some x → (if k < H.length then m k else m2 (bs.length + (k - H.length))) = some x := by
    intro c k x hk hx
    rcases g_some hk with h | ⟨h1, rfl⟩
    · rw [if_pos (hbi h), ← old h]; exact hx
    · rw [if_neg (by omega), show bs.length + (H.length + (c - bs.length) - H.length) = c by omega]; exact hx
  have hext : Ext m (fun i => if i < H.length then m i else m2 (bs.length + (i - H.length))) := by
    intro i x hx
    by_cases hi : i < H.length
    · simp only [if_pos hi]; exact hx
    · rw [htop i (by omega)] at hx; cases hx
  have hlen : (backH (backG bs H.length) Hc' bs (Hc.map Blk.own) 0 H ++ (Hc'.drop bs.length).map (renB (backG bs H.length))).length = H.length + (Hc'.length - bs.length) := by
    simp [backH_len]
  have hle : bs.length ≤ Hc'.length := by rw [hlb]; exact hp.len
  have getO : ∀ {i : Nat} {B : Blk}, i < H.length → getB (backH (backG bs H.length) Hc' bs (Hc.map Blk.own) 0 H ++ (Hc'.drop bs.length).map (renB (backG bs H.length))) i = some B →
      (∃ c sh, bs[c]? = some (some (i, sh)) ∧ (Hc.map Blk.own)[c]? = some true ∧ findOwn i bs (Hc.map Blk.own) 0 = some c ∧ B = renB (backG bs H.length) (blkAt Hc' c)) ∨ (findOwn i bs (Hc.map Blk.own) 0 = none ∧ getB H i = some B) := by
    intro i B hi h
    rw [getB_eq, List.getElem?_append_left (by rw [backH_len]; exact hi), backH_get, Option.map_eq_some_iff] at h
    obtain ⟨B0, h0, h1⟩ := h
    rw [Nat.zero_add] at h1
    cases hf : findOwn i bs (Hc.map Blk.own) 0 with
    | none => rw [hf] at h1; simp only [] at h1; subst h1; exact Or.inr ⟨rfl, by rw [getB_eq]; exact h0⟩
    | some c =>
      rw [hf] at h1; simp only [] at h1
      obtain ⟨j, sh, h2, h3, h4⟩ := findOwn_some hf
      rw [Nat.zero_add] at h2; subst h2
      exact Or.inl ⟨_, sh, h3, h4, rfl, h1.symm⟩
  have getN : ∀ {i : Nat} {B : Blk}, H.length ≤ i → getB (backH (backG bs H.length) Hc' bs (Hc.map Blk.own) 0 H ++ (Hc'.drop bs.length).map (renB (backG bs H.length))) i = some B →
      ∃ B0, getB Hc' (bs.length + (i - H.length)) = some B0 ∧ B = renB (backG bs H.length) B0 := by
    intro i B hi h
    rw [getB_eq, List.getElem?_append_right (by rw [backH_len]; exact hi), backH_len, List.getElem?_map, Option.map_eq_some_iff, List.getElem?_drop] at h
    obtain ⟨B0, h0, h1⟩ := h
    exact ⟨B0, by rw [getB_eq]; exact h0, h1.symm⟩
  have liveC : ∀ {c : Nat}, blkAt Hc' c ≠ .dead → getB Hc' c = some (blkAt Hc' c) := fun h => blkAt_live h
  refine ⟨hp.val.ren tr, fun i hi => by simp only [if_pos hi], fun i hi => ?_, fun i B hB => ?_, by rw [hlen]; omega, fun i B hi hB hd => ?_, fun i b base t B hi hB hd he => ?_, fun i j b base t base2 t2 B B2 hi hj hB hB2 hd hd2 he he2 => ?_, ?_⟩
  · rw [hlen] at hi
    rw [if_neg (by omega)]
    exact hp.top _ (by omega)
  · by_cases hi : i < H.length
    · rcases getO hi hB with ⟨c, sh, h1, h2, _, rfl⟩ | ⟨hf, h1⟩
      · obtain ⟨rfl, _⟩ := hown h1 h2
        by_cases hd : blkAt Hc' c = .dead
        · rw [hd]; exact Or.inl rfl
        · have := BRep.ren (q := false) tr (by rw [if_pos hi, old h1]) (hp.rep c _ (liveC hd))
          rwa [maskB_false] at this
      · by_cases hBd : B = .dead
        · exact Or.inl hBd
        refine BRep.keep (hrep i B h1) hext (by simp only [if_pos hi]) (fun b base t hm hlt => hp.frame.block b hlt ?_)
        rintro ⟨c, Bc, base1, t1, hc1, hc2, hc3⟩
        have hcl := getB_lt hc1
        have hbc : c < bs.length := by rw [hlb]; exact hcl
        obtain ⟨q, hq⟩ : ∃ q, bs[c]? = some q := ⟨bs[c], List.getElem?_eq_getElem hbc⟩
        rw [viewInj_at hq] at hc3
        cases q with
        | none => simp [viewAt] at hc3
        | some q =>
          obtain ⟨i', sh⟩ := q
          have hoc : (Hc.map Blk.own)[c]? = some true := by
            rw [List.getElem?_map]; rw [getB_eq] at hc1; rw [hc1]; simp [hc2]
          obtain ⟨rfl, _, B0, _, _, h5, h6⟩ := hown hq hoc
          rw [viewAt_zero] at hc3
          by_cases he : i' = i
          · subst he; exact findOwn_none hf c 0 hq hoc
          · exact hdis.apart i' i B0 B he h5 h1 (own_live h6) hBd h6 b _ _ _ _ hc3 hm
    · obtain ⟨B0, h0, rfl⟩ := getN (by omega) hB
      have := BRep.ren (q := false) tr (by rw [if_neg hi]) (hp.rep _ B0 h0)
      rwa [maskB_false] at this
  · rcases getO hi hB with ⟨c, sh, h1, h2, _, rfl⟩ | ⟨_, h1⟩
    · obtain ⟨_, Bc, B0, g1, g2, g3, g4⟩ := hown h1 h2
      have hl : blkAt Hc' c ≠ .dead := fun e => hd (by rw [e]; rfl)
      obtain ⟨B1, k1, k2, k3⟩ := hp.own c _ (List.getElem?_eq_some_iff.1 g1).1 (liveC hl) hl
      rw [getB_eq, g1] at k1; cases k1
      exact ⟨B0, g3, own_live g4, by rw [renB_own, k3, g2, g4]⟩
    · exact ⟨B, h1, hd, rfl⟩
  · obtain ⟨B0, h0, rfl⟩ := getN hi hB
    have he' : m2 (bs.length + (i - H.length)) = some (b, base, t) := by rwa [if_neg (by omega)] at he
    rcases hp.fresh _ b base t B0 (by rw [← hlb]; omega) h0 (fun e => hd (by rw [e]; rfl)) he' with h | ⟨c, Bc, base0, t0, h1, h2, h3, h4, h5⟩
    · exact Or.inl h
    · right
      have hbc : c < bs.length := by rw [hlb]; exact h1
      obtain ⟨q, hq⟩ : ∃ q, bs[c]? = some q := ⟨bs[c], List.getElem?_eq_getElem hbc⟩
      rw [viewInj_at hq] at h5
      cases q with
      | none => simp [viewAt] at h5
      | some q =>
        obtain ⟨i', sh⟩ := q
        have hoc : (Hc.map Blk.own)[c]? = some true := by
          rw [List.getElem?_map]; rw [getB_eq] at h3; rw [h3]; simp [h4]
        obtain ⟨rfl, _, B1, _, _, k5, k6⟩ := hown hq hoc
        rw [viewAt_zero] at h5
        refine ⟨i', B1, base0, t0, hbi hq, ?_, k5, k6, h5⟩
        rw [getB_eq, List.getElem?_append_left (by rw [backH_len]; exact hbi hq), backH_get, ← getB_eq, k5, Nat.zero_add]
        cases hf : findOwn i' bs (Hc.map Blk.own) 0 with
        | none => exact (findOwn_none hf c 0 hq hoc).elim
        | some c' =>
          obtain ⟨j, sh', g2, g3, g4⟩ := findOwn_some hf
          rw [Nat.zero_add] at g2; subst g2
          have := uniq g3 hq g4
          subst this
          simp only [Option.map_some]
          simp [blkAt, h2, renB]
  · obtain ⟨B0, h0, rfl⟩ := getN hi hB
    obtain ⟨B1, h1, rfl⟩ := getN hj hB2
    have he' : m2 (bs.length + (i - H.length)) = some (b, base, t) := by rwa [if_neg (by omega)] at he
    have he2' : m2 (bs.length + (j - H.length)) = some (b, base2, t2) := by rwa [if_neg (by omega)] at he2
    have := hp.dist _ _ b base t base2 t2 B0 B1 (by rw [← hlb]; omega) (by rw [← hlb]; omega) h0 h1 (fun e => hd (by rw [e]; rfl)) (fun e => hd2 (by rw [e]; rfl)) he' he2'
    omega
  · refine hp.frame.mono ?_
    rintro b _ ⟨c, Bc, base, t, h1, h2, h3⟩
    have hbc : c < bs.length := by rw [hlb]; exact getB_lt h1
    obtain ⟨q, hq⟩ : ∃ q, bs[c]? = some q := ⟨bs[c], List.getElem?_eq_getElem hbc⟩
    rw [viewInj_at hq] at h3
    cases q with
    | none => simp [viewAt] at h3
    | some q =>
      obtain ⟨i', sh⟩ := q
      have hoc : (Hc.map Blk.own)[c]? = some true := by
        rw [List.getElem?_map]; rw [getB_eq] at h1; rw [h1]; simp [h2]
      obtain ⟨rfl, _, B1, _, _, k5, k6⟩ := hown hq hoc
      rw [viewAt_zero] at h3
      exact ⟨i', B1, base, t, k5, k6, h3⟩
end Go.Proofs.YtokephobkllfgaaDoorEv
