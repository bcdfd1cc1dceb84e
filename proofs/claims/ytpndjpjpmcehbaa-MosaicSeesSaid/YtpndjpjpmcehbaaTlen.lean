/- What is laid here: the library's contract of bits.Len at the given program, in plain words. No condition. -/
import Derived.Test.YtpndjpjpmcehbaaProg
import Derived.Shelf.Small.Bits
import Derived.Ground.NamesProg
namespace Go.Proofs.YtpndjpjpmcehbaaMo
open Go Go.Proofs Go.Shelf
def laysLen_ren : Go.Shelf.Ren := ⟨fun | 125 => 132 | 128 => 152 | 129 => 153 | n => n, fun | 46 => 160 | 3 => 3 | 51 => 178 | 53 => 180 | 4 => 4 | 5 => 5 | 9 => 9 | n => n, fun | n => n⟩
theorem laysLen : Go.Proofs.Lays.n125 Try.prog laysLen_ren := {
  mixed := by kernel_rfl
  f125 := Try.func132.trans (congrArg some (by kernel_rfl))
  f128 := Try.func152.trans (congrArg some (by kernel_rfl))
  f129 := Try.func153.trans (congrArg some (by kernel_rfl))
  t3 := Try.underlying3
  a3 := Try.isAgg3
  z3 := Try.sizeOf3
  v3 := Try.zeroValue3
  t4 := Try.underlying4
  a4 := Try.isAgg4
  z4 := Try.sizeOf4
  v4 := Try.zeroValue4
  t5 := Try.underlying5
  a5 := Try.isAgg5
  z5 := Try.sizeOf5
  v5 := Try.zeroValue5
  t9 := Try.underlying9
  a9 := Try.isAgg9
  z9 := Try.sizeOf9
  v9 := Try.zeroValue9
  t46 := Try.underlying160
  a46 := Try.isAgg160
  z46 := Try.sizeOf160
  v46 := Try.zeroValue160
  t51 := Try.underlying178
  a51 := Try.isAgg178
  z51 := Try.sizeOf178
  v51 := Try.zeroValue178
  t53 := Try.underlying180
  a53 := Try.isAgg180
  z53 := Try.sizeOf180
  v53 := Try.zeroValue180 }
theorem bitsLen (x : Int) (w : World) (h0 : 0 ≤ x) (h1 : x ≤ 18446744073709551615) :
    Calls Try.prog 132 #[.int .u64 x] w fun e w' => e = .returned (.int .i64 (Lib.bitLen x.toNat)) ∧ w' = w := Any.bits_Len laysLen x w h0 h1
end Go.Proofs.YtpndjpjpmcehbaaMo
