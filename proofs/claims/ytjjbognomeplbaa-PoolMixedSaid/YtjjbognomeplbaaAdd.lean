/-
  arith.Add, told apart by whether the sum is an int.
-/
import Derived.Test.YtjjbognomeplbaaArith
namespace Go.Proofs.Ytjjbognomeplbaa
open Go.RowKit
theorem add_ok (a b : Int) (a0 : -9223372036854775808 ≤ a) (a1 : a ≤ 9223372036854775807) (b0 : -9223372036854775808 ≤ b) (b1 : b ≤ 9223372036854775807) (h : -9223372036854775808 ≤ a + b ∧ a + b ≤ 9223372036854775807) (w : World) :
    Calls Try.prog 83 #[.int .i64 a, .int .i64 b] w fun e w' => e = .returned (.tuple #[.int .i64 (a + b), .bool true]) ∧ w = w' := by
  have := a_add a b a0 a1 b0 b1 w
  rwa [(int_yes h).1, (int_yes h).2] at this
theorem add_no (a b : Int) (a0 : -9223372036854775808 ≤ a) (a1 : a ≤ 9223372036854775807) (b0 : -9223372036854775808 ≤ b) (b1 : b ≤ 9223372036854775807) (h : ¬ (-9223372036854775808 ≤ a + b ∧ a + b ≤ 9223372036854775807)) (w : World) :
    Calls Try.prog 83 #[.int .i64 a, .int .i64 b] w fun e w' => e = .returned (.tuple #[.int .i64 0, .bool false]) ∧ w = w' := by
  have := a_add a b a0 a1 b0 b1 w
  rwa [(int_no h).1, (int_no h).2] at this
end Go.Proofs.Ytjjbognomeplbaa
