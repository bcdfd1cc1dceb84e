/- What is proved: in a world where the row's listed tables read as they are listed, they lie as the evaluator is told. No condition. -/
import Derived.Test.YtokephobkllfgaaDoorEvZg
import Derived.Test.YtokephobkllfgaaDoorRows
import Derived.Lib.LaidU8
namespace Go.Proofs.YtokephobkllfgaaDoorGw
open Go Go.Proofs Go.Proofs.YtokephobkllfgaaDoorEv Go.Proofs.YtokephobkllfgaaDoor
set_option maxRecDepth 100000
theorem flat_map (k : IntKind) : ∀ zs : List Int, zs.flatMap (Kd.int k).vals = zs.map fun z => Value.int k z
  | [] => rfl
  | z :: r => by
    rw [List.flatMap_cons, flat_map k r, List.map_cons]; rfl
theorem cell_of {P : Program} {W : World} {name : String} {k : IntKind} {zs : List Int} {g t e n : Nat} (h : Lib.VarReads P W name (Lib.tabData k zs)) (hg : P.globalNamed name = some g) (hty : (P.globals[g]?).map (·.type) = some t) (ht : P.underlying t = some (.array n e))
    (he : P.underlying e = some (.int k)) (hce : P.cellsOf e = 1) (hct : P.cellsOf t = n) : ∃ el fz, W.heap[g]? = some (.cells (zs.flatMap (Kd.int k).vals).toArray el fz) := by
  obtain ⟨g', t', cs, fuel, p, hg', ht', hvar, hd⟩ := h
  obtain rfl := Option.some.inj (hg.symm.trans hg')
  obtain rfl := Option.some.inj (hty.symm.trans ht')
  have hc := Lib.cells_of_tab ht he hce hct hd
  unfold World.var? at hvar
  rw [hg] at hvar
  simp only [Option.bind_some] at hvar
  split at hvar
  · rename_i c el fz hh
    cases hvar
    refine ⟨el, fz, ?_⟩
    rw [hh]
    rw [flat_map, ← hc]
  · cases hvar
theorem gw_of {W : World} (h1 : Lib.VarReads Tryd.prog W "internal/strconv.uint64pow10" Rows.laid_internal_strconv_uint64pow10) (h2 : Lib.VarReads Tryd.prog W "math/bits.deBruijn32tab" Rows.laid_math_bits_deBruijn32tab) (h3 : Lib.VarReads Tryd.prog W "math/bits.deBruijn64tab" Rows.laid_math_bits_deBruijn64tab) : GW W := by
  have c1 := cell_of (k := .u64) (zs := (gTab.getD 0 (0, .u8, [])).2.2) (g := 1) (t := 114) (e := 30) (n := 20) h1 (by kernel_rfl) (by kernel_rfl) (by kernel_rfl) (by kernel_rfl) (by kernel_rfl) (by kernel_rfl)
  have c2 := cell_of (k := .u8) (zs := (gTab.getD 1 (0, .u8, [])).2.2) (g := 6) (t := 139) (e := 5) (n := 32) h2 (by kernel_rfl) (by kernel_rfl) (by kernel_rfl) (by kernel_rfl) (by kernel_rfl) (by kernel_rfl)
  have c3 := cell_of (k := .u8) (zs := (gTab.getD 2 (0, .u8, [])).2.2) (g := 7) (t := 140) (e := 5) (n := 64) h3 (by kernel_rfl) (by kernel_rfl) (by kernel_rfl) (by kernel_rfl) (by kernel_rfl) (by kernel_rfl)
  refine ⟨?_, ?_⟩
  · obtain ⟨el, fz, e⟩ := c3
    have := (Array.getElem?_eq_some_iff.1 e).1
    have hm : gMax = 8 := by kernel_rfl
    omega
  · intro g cs hg
    unfold gTab at hg
    rcases List.mem_cons.1 hg with e | hg
    · cases e; exact c1
    rcases List.mem_cons.1 hg with e | hg
    · cases e; exact c2
    rcases List.mem_cons.1 hg with e | hg
    · cases e; exact c3
    · cases hg
end Go.Proofs.YtokephobkllfgaaDoorGw
