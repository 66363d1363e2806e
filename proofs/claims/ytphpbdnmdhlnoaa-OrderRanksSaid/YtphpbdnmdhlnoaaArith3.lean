/-
  The walks of package arith: numbers of 128 bits by two's complement (widen, plus), sums of lists.
-/
import Derived.Test.YtphpbdnmdhlnoaaArithLaws
import Derived.Test.YtphpbdnmdhlnoaaReg
import Derived.Laws.Externs
namespace Go.Proofs.Ytphpbdnmdhlnoaa
open Go.RowKit

/-- A whole number by two's complement, its high part and its low part. -/
def wHi (v : Int) : Int := v / 18446744073709551616 % 18446744073709551616
def wLo (v : Int) : Int := v % 18446744073709551616
def wdA (v : Int) : Array Value := #[.int .u64 (wHi v), .int .u64 (wLo v)]
theorem w_bd (v : Int) : 0 ≤ wHi v ∧ wHi v < 18446744073709551616 ∧ 0 ≤ wLo v ∧ wLo v < 18446744073709551616 := by unfold wHi wLo; omega
theorem w_add_lo (u v : Int) : (wLo u + wLo v + 0) % 18446744073709551616 = wLo (u + v) := by unfold wLo; omega
theorem w_add_hi (u v : Int) : (wHi u + wHi v + (wLo u + wLo v + 0) / 18446744073709551616) % 18446744073709551616 = wHi (u + v) := by unfold wLo wHi; omega
theorem w_carry (u v : Int) : 0 ≤ (wLo u + wLo v + 0) / 18446744073709551616 ∧ (wLo u + wLo v + 0) / 18446744073709551616 ≤ 1 := by unfold wLo; omega
theorem w_int (n : Int) (h0 : -9223372036854775808 ≤ n) (h1 : n ≤ 9223372036854775807) : wHi n = (if n < 0 then 18446744073709551615 else 0) ∧ wLo n = IntKind.u64.wrap n := by
  rw [IntKind.wrap_u64]; unfold wHi wLo; split <;> omega
theorem ret_agg {a b : Array Value} (h : a = b) : Ending.returned (.agg a) = .returned (.agg b) := by rw [h]

end Go.Proofs.Ytphpbdnmdhlnoaa
