/-
  The walk of kurganlaw01.ArithUps.
-/
import Derived.Test.YtlkemphhbamcfaaArithLaws
import Derived.Test.YtlkemphhbamcfaaRef01c
namespace Go.Proofs.Ytlkemphhbamcfaa
open Go.RowKit

theorem two_abs {a : Int} (a0 : -9223372036854775808 ≤ a) (a1 : a ≤ 9223372036854775807) : Two190 a.natAbs :=
  Nat.lt_of_lt_of_le (m := 2^64) (by have : (2:Nat)^64 = 18446744073709551616 := by decide
                                     omega) (Nat.pow_le_pow_right (by decide) (by decide))

namespace arithUps
set_option maxHeartbeats 400000 in
theorem walk_no (a b : Int) (a0 : -9223372036854775808 ≤ a) (a1 : a ≤ 9223372036854775807) (b0 : -9223372036854775808 ≤ b) (b1 : b ≤ 9223372036854775807) (h : a < 0 ∨ b < 0) (w : World) :
    Calls Try.prog 6 #[.int .i64 a, .int .i64 b] w fun e w' => e = .returned (.bool true) ∧ Below w.heap.size w w' := by
  have hc := a_up a b a0 a1 b0 b1 w
  rw [if_pos h] at hc
  by_cases ha : a < 0
  all_goals
    go_enter Try.func6, Try.ntmps6
    go_wp2_with (first | (go_at_call 25; refine hc.mono ?_; rintro e w' ⟨rfl, rfl⟩) | (go_at_call 19; refine (counts_any _).mono ?_; rintro e w' ⟨rfl, hb⟩))
    go_ret
    exact ⟨rfl, by assumption⟩
set_option maxHeartbeats 400000 in
theorem walk_yes (a b : Int) (a1 : a ≤ 9223372036854775807) (b1 : b ≤ 9223372036854775807) (ha : 0 ≤ a) (hb : 0 ≤ b) (w : World) :
    Calls Try.prog 6 #[.int .i64 a, .int .i64 b] w fun e w' => e = .returned (.bool true) ∧ Below w.heap.size w w' := by
  have hc := a_up a b (by omega) a1 (by omega) b1 w
  rw [if_neg (by omega)] at hc
  have hm := two_abs (a := a) (by omega) a1
  have hn := two_abs (a := b) (by omega) b1
  by_cases hs : a + b ≤ 9223372036854775807
  · rw [if_pos hs] at hc
    have HI := hid (int_yes (v := a + b) (by omega))
    go_enter Try.func6, Try.ntmps6
    go_wp2_with (go_at_call 25; refine hc.mono ?_; rintro e w' ⟨rfl, rfl⟩)
    refine (num_any a (by omega) a1 _).mono ?_
    rintro e w1 ⟨rfl, hb1⟩
    go_wp2_with fail
    refine (num_any b (by omega) b1 _).mono ?_
    rintro e w2 ⟨rfl, hb2⟩
    go_wp2_with fail
    refine (add_any _ _ _ _ hm hn _).mono ?_
    rintro e w3 ⟨s, m, rfl, hv, hle, hb3⟩
    rw [val_num, val_num] at hv
    go_wp2_with fail
    refine (int_any s m (Nat.lt_of_le_of_lt hle (two_sum hm hn)) _).mono ?_
    rintro e w4 ⟨rfl, hb4⟩
    rw [hv, HI.out.1, HI.out.2]
    have hB : Below _ _ w4 := ((hb1.trans (hb2.mono hb1.size)).trans (hb3.mono (Nat.le_trans hb1.size hb2.size))).trans (hb4.mono (Nat.le_trans (Nat.le_trans hb1.size hb2.size) hb3.size))
    clear hv hle hb1 hb2 hb3 hb4
    have HB := hid hB
    clear hB
    go_wp2_with (go_at_call 19; refine (counts_any _).mono ?_; rintro e w' ⟨rfl, hb⟩)
    go_ret
    exact ⟨rfl, HB.out.trans ((by assumption : Below w4.heap.size w4 _).mono HB.out.size)⟩
  · rw [if_neg hs] at hc
    have HI := hid (int_no (v := a + b) (by omega))
    go_enter Try.func6, Try.ntmps6
    go_wp2_with (go_at_call 25; refine hc.mono ?_; rintro e w' ⟨rfl, rfl⟩)
    refine (num_any a (by omega) a1 _).mono ?_
    rintro e w1 ⟨rfl, hb1⟩
    go_wp2_with fail
    refine (num_any b (by omega) b1 _).mono ?_
    rintro e w2 ⟨rfl, hb2⟩
    go_wp2_with fail
    refine (add_any _ _ _ _ hm hn _).mono ?_
    rintro e w3 ⟨s, m, rfl, hv, hle, hb3⟩
    rw [val_num, val_num] at hv
    go_wp2_with fail
    refine (int_any s m (Nat.lt_of_le_of_lt hle (two_sum hm hn)) _).mono ?_
    rintro e w4 ⟨rfl, hb4⟩
    rw [hv, HI.out.1, HI.out.2]
    have hB : Below _ _ w4 := ((hb1.trans (hb2.mono hb1.size)).trans (hb3.mono (Nat.le_trans hb1.size hb2.size))).trans (hb4.mono (Nat.le_trans (Nat.le_trans hb1.size hb2.size) hb3.size))
    clear hv hle hb1 hb2 hb3 hb4
    have HB := hid hB
    clear hB
    go_wp2_with (go_at_call 19; refine (counts_any _).mono ?_; rintro e w' ⟨rfl, hb⟩)
    go_ret
    exact ⟨rfl, HB.out.trans ((by assumption : Below w4.heap.size w4 _).mono HB.out.size)⟩
theorem walk (a b : Int) (wa : (Lit.int .i64 a).wf = true) (wb : (Lit.int .i64 b).wf = true) (w : World) :
    Calls Try.prog 6 #[.int .i64 a, .int .i64 b] w fun e w' => e = .returned (.bool true) ∧ Below w.heap.size w w' := by
  obtain ⟨a0, a1⟩ := bd_i64 wa
  obtain ⟨b0, b1⟩ := bd_i64 wb
  by_cases h : a < 0 ∨ b < 0
  · exact walk_no a b a0 a1 b0 b1 h w
  · exact walk_yes a b a1 b1 (by omega) (by omega) w
end arithUps
end Go.Proofs.Ytlkemphhbamcfaa
