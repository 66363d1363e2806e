/-
  The walks of gen.Draw and kurganref07.Draw: both answer the same number and the same seed.
-/
import Derived.Test.YtlkemphhbamcfaaRows
import Derived.Test.YtlkemphhbamcfaaLib
namespace Go.Proofs.Ytlkemphhbamcfaa
open Go.RowKit

/-- What a row goes on with; the number that is drawn. -/
def drawS (s : Int) : Int := IntKind.u64.wrap (IntKind.u64.wrap (s * 6364136223846793005) + 1442695040888963407)
def drawN (s m : Int) : Int := drawS s / 8589934592 % (m + 1)

theorem drawS_bd (s : Int) : 0 ≤ drawS s ∧ drawS s < 18446744073709551616 := by
  unfold drawS
  generalize IntKind.u64.wrap (s * 6364136223846793005) + 1442695040888963407 = x
  rw [IntKind.wrap_u64]; omega
theorem drawN_bd (s m : Int) (h : 0 ≤ m) : 0 ≤ drawN s m ∧ drawN s m ≤ m := by
  have h1 := drawS_bd s
  unfold drawN
  generalize drawS s = x at *
  have h2 := Int.emod_nonneg (x / 8589934592) (show m + 1 ≠ 0 by omega)
  have h3 := Int.emod_lt_of_pos (x / 8589934592) (show 0 < m + 1 by omega)
  omega

theorem ret_pair {a b c d : Value} (h : a = b) (g : c = d) : Ending.returned (.tuple #[a, c]) = .returned (.tuple #[b, d]) := by rw [h, g]

set_option maxHeartbeats 400000 in
theorem draw_in (s m : Int) (h0 : 0 ≤ m) (h1 : m ≤ 2147483647) (w : World) :
    Calls Try.prog 15 #[.int .u64 s, .int .i64 m] w fun e w' => e = .returned (.tuple #[.int .i64 (drawN s m), .int .u64 (drawS s)]) ∧ w = w' := by
  have hb := drawS_bd s
  unfold drawS at hb
  go_enter Try.func15, Try.ntmps15
  go_wp2
  go_ret2
  exact ⟨rfl, rfl⟩
set_option maxHeartbeats 400000 in
theorem draw_out (s m : Int) (h : m < 0 ∨ 2147483647 < m) (w : World) :
    Calls Try.prog 15 #[.int .u64 s, .int .i64 m] w fun e w' => e = .returned (.tuple #[.int .i64 0, .int .u64 s]) ∧ w = w' := by
  rcases h with h | h
  · go_enter Try.func15, Try.ntmps15
    go_wp2
    go_ret2
    exact ⟨rfl, rfl⟩
  · have h' : 0 ≤ m := by omega
    go_enter Try.func15, Try.ntmps15
    go_wp2
    go_ret2
    exact ⟨rfl, rfl⟩
set_option maxHeartbeats 400000 in
theorem rdraw_in (s m : Int) (h0 : 0 ≤ m) (h1 : m ≤ 2147483647) (w : World) :
    Calls Try.prog 16 #[.int .u64 s, .int .i64 m] w fun e w' => e = .returned (.tuple #[.int .i64 (drawN s m), .int .u64 (drawS s)]) ∧ w = w' := by
  have hb := drawS_bd s
  unfold drawS at hb
  go_enter Try.func16, Try.ntmps16
  go_wp2
  go_ret2
  exact ⟨rfl, rfl⟩
set_option maxHeartbeats 400000 in
theorem rdraw_out (s m : Int) (h : m < 0 ∨ 2147483647 < m) (w : World) :
    Calls Try.prog 16 #[.int .u64 s, .int .i64 m] w fun e w' => e = .returned (.tuple #[.int .i64 0, .int .u64 s]) ∧ w = w' := by
  rcases h with h | h
  · go_enter Try.func16, Try.ntmps16
    go_wp2
    go_ret2
    exact ⟨rfl, rfl⟩
  · have h' : 0 ≤ m := by omega
    go_enter Try.func16, Try.ntmps16
    go_wp2
    go_ret2
    exact ⟨rfl, rfl⟩

end Go.Proofs.Ytlkemphhbamcfaa
