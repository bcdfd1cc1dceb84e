/- What is laid here: the library's contract of bits.Len at the given program. No condition. -/
import Derived.Test.YtpndjpjpmcehbaaProg
import Derived.Shelf.Lay
import Derived.Shelf.Small.Bits
import Derived.Ground.NamesProg
namespace Go.Proofs
open Go.Shelf
shelf_lay Lays.n125 Nm 125 at Try as Try.lays125
theorem Try.bitsLen (x : Int) (w : World) (h0 : 0 ≤ x) (h1 : x ≤ 18446744073709551615) :
    Calls Try.prog 132 #[.int .u64 x] w fun e w' => e = .returned (.int .i64 (Lib.bitLen x.toNat)) ∧ w' = w := Any.bits_Len Try.lays125 x w h0 h1
end Go.Proofs
