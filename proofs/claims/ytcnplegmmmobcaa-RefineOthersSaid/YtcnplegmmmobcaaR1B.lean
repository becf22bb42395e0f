/- Own text: R1B. -/
import Derived.Test.YtcnplegmmmobcaaProg
import Derived.Lib.Strings
import Derived.Lib.Slices
import Derived.Lib.Small
import Derived.Lib.Walk
import Derived.Lib.BitFns
namespace Go.Proofs
theorem Try.bits_TrailingZeros8 (x : Int) (w : World) (h0 : 0 ≤ x) (h1 : x ≤ 255) :
    Calls Try.prog 95 #[.int .u8 x] w fun e w' => e = .returned (.int .i64 (Lib.trailingZeros8 x.toNat)) ∧ w' = w := by
  rw [← Lib.ntz8_int x h0 h1]
  go_enter Try.func95, Try.ntmps95
  go_wp2
  go_ret
  exact ⟨rfl, rfl⟩
end Go.Proofs
