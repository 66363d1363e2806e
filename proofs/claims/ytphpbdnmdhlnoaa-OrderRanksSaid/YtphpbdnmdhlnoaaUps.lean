/-
  The walk of kurganlaw01.ArithUps.
-/
import Derived.Test.YtphpbdnmdhlnoaaArithLaws
import Derived.Test.YtphpbdnmdhlnoaaRef01c
namespace Go.Proofs.Ytphpbdnmdhlnoaa
open Go.RowKit

theorem two_abs {a : Int} (a0 : -9223372036854775808 ≤ a) (a1 : a ≤ 9223372036854775807) : Two190 a.natAbs :=
  Nat.lt_of_lt_of_le (m := 2^64) (by have : (2:Nat)^64 = 18446744073709551616 := by decide
                                     omega) (Nat.pow_le_pow_right (by decide) (by decide))

namespace arithUps
end arithUps
end Go.Proofs.Ytphpbdnmdhlnoaa
