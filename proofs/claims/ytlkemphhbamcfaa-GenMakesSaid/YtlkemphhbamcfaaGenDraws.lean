/-
  'kurganlaw07.GenDraws' returns true, whatever the seed and the limit. No condition.
-/
import Derived.Test.YtlkemphhbamcfaaDraw
import Derived.ProofKit
import Derived.OpenShut
namespace Go.Proofs.Ytlkemphhbamcfaa
open Go.RowKit

theorem drawS_zero : drawS 0 = 1442695040888963407 := by decide +kernel
theorem drawN_zero : drawN 0 9 = 1442695040888963407 / 8589934592 % 10 := by unfold drawN; rw [drawS_zero]; rfl

set_option maxHeartbeats 400000 in
theorem gens_any (w : World) : Calls Try.prog 17 #[] w fun e w' => e = .returned (.bool true) ∧ w = w' := by
  have h := draw_in 0 9 (by omega) (by omega) w
  rw [drawS_zero, drawN_zero] at h
  go_enter Try.func17, Try.ntmps17
  go_wp2_with fail
  refine h.mono ?_
  rintro e w' ⟨rfl, rfl⟩
  clear h
  go_wp2
  go_ret
  exact ⟨rfl, rfl⟩

namespace genDraws
set_option maxHeartbeats 400000 in
theorem walk_in (a0 : Int) (a1 : Int) (h0 : 0 ≤ a1) (h1 : a1 ≤ 2147483647) (w : World) :
    Calls Try.prog 3 #[.int .u64 a0, .int .i64 a1] w fun e w' => e = .returned (.bool true) ∧ w = w' := by
  have hb := drawN_bd a0 a1 h0
  have hm : max a1 0 = a1 := by omega
  have HM := hid hm
  clear hm
  go_enter Try.func3, Try.ntmps3
  go_wp2_with (first | (go_at_call 15; refine (draw_in a0 a1 h0 h1 _).mono ?_; rintro e w' ⟨rfl, rfl⟩) | (go_at_call 16; refine (rdraw_in a0 a1 h0 h1 _).mono ?_; rintro e w' ⟨rfl, rfl⟩) | (go_at_call 17; refine (gens_any _).mono ?_; rintro e w' ⟨rfl, rfl⟩))
  go_ret
  exact ⟨rfl, rfl⟩
set_option maxHeartbeats 400000 in
theorem walk_out (a0 : Int) (a1 : Int) (h : a1 < 0 ∨ 2147483647 < a1) (w : World) :
    Calls Try.prog 3 #[.int .u64 a0, .int .i64 a1] w fun e w' => e = .returned (.bool true) ∧ w = w' := by
  have h' : 0 ≤ max a1 0 := by omega
  go_enter Try.func3, Try.ntmps3
  go_wp2_with (first | (go_at_call 15; refine (draw_out a0 a1 h _).mono ?_; rintro e w' ⟨rfl, rfl⟩) | (go_at_call 16; refine (rdraw_out a0 a1 h _).mono ?_; rintro e w' ⟨rfl, rfl⟩) | (go_at_call 17; refine (gens_any _).mono ?_; rintro e w' ⟨rfl, rfl⟩))
  all_goals (go_ret; exact ⟨rfl, rfl⟩)
theorem walk (a0 : Int) (a1 : Int) (_ : (Lit.int .u64 a0).wf = true) (_ : (Lit.int .i64 a1).wf = true) (w : World) :
    Calls Try.prog 3 #[.int .u64 a0, .int .i64 a1] w fun e w' => e = .returned (.bool true) ∧ Below w.heap.size w w' := by
  by_cases h : 0 ≤ a1 ∧ a1 ≤ 2147483647
  · exact (walk_in a0 a1 h.1 h.2 w).mono fun e w' g => ⟨g.1, g.2 ▸ Below.refl _ _⟩
  · exact (walk_out a0 a1 (by omega) w).mono fun e w' g => ⟨g.1, g.2 ▸ Below.refl _ _⟩
end genDraws
end Go.Proofs.Ytlkemphhbamcfaa
