/-
  The laws of chapter 1 that reach little: Div, Gcd, Up.
-/
import Derived.Test.YtlkemphhbamcfaaArith2
import Derived.Test.YtlkemphhbamcfaaRef01
import Derived.Deep.RegionWith
namespace Go.Proofs.Ytlkemphhbamcfaa
open Go.RowKit

set_option maxHeartbeats 400000 in
theorem a_up (a b : Int) (a0 : -9223372036854775808 ≤ a) (a1 : a ≤ 9223372036854775807) (b0 : -9223372036854775808 ≤ b) (b1 : b ≤ 9223372036854775807) (w : World) :
    Calls Try.prog 25 #[.int .i64 a, .int .i64 b] w fun e w' => e = .returned (.int .i64 (if a < 0 ∨ b < 0 then 0 else if a + b ≤ 9223372036854775807 then a + b else 9223372036854775807)) ∧ w = w' := by
  by_cases ha : a < 0
  · rw [if_pos (.inl ha)]
    go_enter Try.func25, Try.ntmps25
    go_wp2
    go_ret
    exact ⟨rfl, rfl⟩
  · by_cases hb : b < 0
    · rw [if_pos (.inr hb)]
      go_enter Try.func25, Try.ntmps25
      go_wp2
      go_ret
      exact ⟨rfl, rfl⟩
    · rw [if_neg (by omega)]
      have hc := a_add a b a0 a1 b0 b1 w
      by_cases hs : a + b ≤ 9223372036854775807
      · rw [if_pos hs]
        rw [(int_yes (v := a + b) (by omega)).1, (int_yes (v := a + b) (by omega)).2] at hc
        go_enter Try.func25, Try.ntmps25
        go_wp2_with (go_at_call 29; refine hc.mono ?_; rintro e w' ⟨rfl, rfl⟩)
        go_ret
        exact ⟨rfl, rfl⟩
      · rw [if_neg hs]
        rw [(int_no (v := a + b) (by omega)).1, (int_no (v := a + b) (by omega)).2] at hc
        go_enter Try.func25, Try.ntmps25
        go_wp2_with (go_at_call 29; refine hc.mono ?_; rintro e w' ⟨rfl, rfl⟩)
        go_ret
        exact ⟨rfl, rfl⟩

theorem c_add1 (w : World) : Calls Try.prog 29 #[.int .i64 2, .int .i64 3] w fun e w' => e = .returned (.tuple #[.int .i64 5, .bool true]) ∧ w = w' :=
  a_add 2 3 (by omega) (by omega) (by omega) (by omega) w
theorem c_add2 (w : World) : Calls Try.prog 29 #[.int .i64 4611686018427387904, .int .i64 4611686018427387904] w fun e w' => e = .returned (.tuple #[.int .i64 0, .bool false]) ∧ w = w' :=
  a_add 4611686018427387904 4611686018427387904 (by omega) (by omega) (by omega) (by omega) w
theorem c_div (w : World) : Calls Try.prog 18 #[.int .i64 (-7), .int .i64 3] w fun e w' => e = .returned (.tuple #[.int .i64 (-3), .int .i64 2, .bool true]) ∧ Below w.heap.size w w' :=
  a_div (-7) 3 (by omega) (by omega) (by omega) (by omega) w
theorem c_gcd (w : World) : Calls Try.prog 24 #[.int .i64 (-12), .int .i64 18] w fun e w' => e = .returned (.int .i64 6) ∧ Below w.heap.size w w' :=
  a_gcd (-12) 18 (by omega) (by omega) (by omega) (by omega) w

set_option maxHeartbeats 400000 in
theorem counts_any (w : World) : Calls Try.prog 19 #[] w fun e w' => e = .returned (.bool true) ∧ Below w.heap.size w w' := by
  go_enter Try.func19, Try.ntmps19
  go_wp2_with fail
  refine (c_add1 _).mono ?_
  rintro e w' ⟨rfl, rfl⟩
  go_wp2_with fail
  refine (c_add2 _).mono ?_
  rintro e w' ⟨rfl, rfl⟩
  go_wp2_with fail
  refine (c_div _).mono ?_
  rintro e w1 ⟨rfl, hb⟩
  go_wp2_with fail
  refine (c_gcd _).mono ?_
  rintro e w2 ⟨rfl, hb2⟩
  go_wp2_with fail
  go_ret
  exact ⟨rfl, hb.trans (hb2.mono hb.size)⟩

end Go.Proofs.Ytlkemphhbamcfaa
