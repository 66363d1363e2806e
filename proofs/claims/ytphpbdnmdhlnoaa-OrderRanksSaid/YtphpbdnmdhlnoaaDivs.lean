/-
  The walk of kurganlaw01.ArithDivs.
-/
import Derived.Test.YtphpbdnmdhlnoaaUps
import Derived.Test.YtphpbdnmdhlnoaaReg
namespace Go.Proofs.Ytphpbdnmdhlnoaa.arithDivs
open Go.RowKit

theorem fits {q b r a : Int} (h : b * q + r = a) : q * b + r - a = 0 := by rw [Int.mul_comm q b]; omega
theorem four_abs {a : Int} (a0 : -9223372036854775808 ≤ a) (a1 : a ≤ 9223372036854775807) : Four a.natAbs :=
  Nat.lt_of_lt_of_le (m := 2^64) (by have : (2:Nat)^64 = 18446744073709551616 := by decide
                                     omega) (Nat.pow_le_pow_right (by decide) (by decide))
theorem two_prod {a b : Int} (a0 : -9223372036854775808 ≤ a) (a1 : a ≤ 9223372036854775807) (b0 : -9223372036854775808 ≤ b) (b1 : b ≤ 9223372036854775807) : Two190 (a.natAbs * b.natAbs) := by
  have h1 : a.natAbs ≤ 2^63 := by omega
  have h2 : b.natAbs ≤ 2^63 := by omega
  have h3 := Nat.mul_le_mul h1 h2
  have h4 : (2:Nat)^63 * 2^63 < 2^190 := by decide
  exact Nat.lt_of_le_of_lt h3 h4
theorem prod_le {a b : Int} (a0 : -9223372036854775808 ≤ a) (a1 : a ≤ 9223372036854775807) (b0 : -9223372036854775808 ≤ b) (b1 : b ≤ 9223372036854775807) : a.natAbs * b.natAbs ≤ 85070591730234615865843651857942052864 := by
  have h1 : a.natAbs ≤ 9223372036854775808 := by omega
  have h2 : b.natAbs ≤ 9223372036854775808 := by omega
  exact Nat.mul_le_mul h1 h2
theorem two_lit {n : Nat} (h : n ≤ 170141183460469231731687303715884105728) : Two190 n :=
  Nat.lt_of_le_of_lt h (Nat.lt_of_lt_of_le (m := 2^128) (by decide) (Nat.pow_le_pow_right (by decide) (by decide)))

def DivS (w : World) (b8 : Nat) (s : Bool) (m : Nat) (W : World) : Prop := blk W b8 (sgA s m) 59 ∧ Below w.heap.size w W ∧ b8 < W.heap.size

end Go.Proofs.Ytphpbdnmdhlnoaa.arithDivs
