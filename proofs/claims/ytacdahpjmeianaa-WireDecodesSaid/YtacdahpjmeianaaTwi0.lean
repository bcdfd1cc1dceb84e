/- What is laid here: the plain functions of floats that frames of radars need, with their tables. Definitions alone; no condition. -/
import Derived.Test.YtacdahpjmeianaaEvZh
import Derived.Test.YtacdahpjmeianaaEvZg
import Derived.Test.YtacdahpjmeianaaProg
import Derived.Test.YtacdahpjmeianaaTwf
namespace Go.Proofs.YtacdahpjmeianaaWi
open Go Go.Proofs Go.Proofs.YtacdahpjmeianaaEv Go.Proofs.YtacdahpjmeianaaFl
abbrev I : Kd := .int .i64
abbrev U8 : Kd := .int .u8
abbrev U64 : Kd := .int .u64
abbrev kP : Kd := .pair I (.pair I (.pair I (.pair I (.pair I I))))
abbrev P6 := Int × Int × Int × Int × Int × Int
abbrev sI : Shp := .s (.v ⟨false, I⟩)
abbrev sB : Shp := .s (.v ⟨false, .bool⟩)
abbrev sS : Shp := .s (.v ⟨false, .str⟩)
abbrev sU : Shp := .s (.v ⟨false, U64⟩)
abbrev sF : Shp := .s (.v ⟨false, .flt .f64⟩)
abbrev sP : Shp := .s (.v ⟨true, kP⟩)
abbrev aF : Shp := .ag [.v ⟨false, I⟩, .v ⟨false, I⟩, .ro kP]
/-! ### Floats -/
def FB (b : Nat) : Prop := ∃ L K, At b L K
def fbits (n : Int) : Nat := FloatKind.f64.nearest n
def g98 : Value → Option Value
  | .float .f64 b => some (.int .u64 b)
  | _ => none
def g116 : Value → Option Value
  | .int .u64 n => some (.float .f64 n.toNat)
  | _ => none
noncomputable def F0 : Table := ext 98 (entX g98) <| ext 116 (entX g116) T0
noncomputable def F1 : Table :=
  ext 156 (entV [sF] (specP [sF] [sF] (fun v => bp (FB v.1)) fun v => (v.1, ()))) F0
noncomputable def F2 : Table :=
  ext 151 (entV [sF, sI] (specP [sF, sI] [sB] (fun v => bp (FB v.1 ∧ v.2.1 = 0)) fun _ => (false, ()))) <|
  ext 152 (entV [sF] (specP [sF] [sB] (fun v => bp (FB v.1)) fun _ => (false, ()))) <|
  ext 153 (entV [sF] (specP [sF] [sF, sI] (fun v => bp (FB v.1)) fun v => (v.1, 0, ()))) F1
noncomputable def F3 : Table := ext 143 (entV [sF, sI] (specP [sF, sI] [sF] (fun v => bp ((v.1 = 0 ∨ FB v.1) ∧ v.2.1 = 0)) fun v => (v.1, ()))) F2
noncomputable def F4 : Table := ext 126 (entV [sF, sI] (specP [sF, sI] [sF] (fun v => bp ((v.1 = 0 ∨ FB v.1) ∧ v.2.1 = 0)) fun v => (v.1, ()))) F3
noncomputable def F5 : Table := ext 94 (entV [sI, sI] (specP [sI, sI] [sU, sI] (fun v => decide (0 ≤ v.1 ∧ v.1 ≤ 2000000 ∧ v.2.1 = 0)) fun v => ((fbits v.1 : Int), 0, ()))) F4
end Go.Proofs.YtacdahpjmeianaaWi
