/-
  The walks of package arith: sums, differences, products, quotients of ints.
-/
import Derived.Test.YtlkemphhbamcfaaRows
import Derived.Test.YtlkemphhbamcfaaShelf
import Derived.Test.YtlkemphhbamcfaaInts
namespace Go.Proofs.Ytlkemphhbamcfaa
open Go.RowKit

theorem sum_wrap (a b : Int) : wrap64 (IntKind.u64.wrap (IntKind.u64.wrap a + IntKind.u64.wrap b)) = (a + b + 9223372036854775808) % 18446744073709551616 - 9223372036854775808 := by
  rw [← IntWalk.i64_left, IntKind.wrap_i64, IntKind.wrap_u64, IntKind.wrap_u64, IntKind.wrap_u64]; omega
theorem diff_wrap (a b : Int) : wrap64 (IntKind.u64.wrap (IntKind.u64.wrap a - IntKind.u64.wrap b)) = (a - b + 9223372036854775808) % 18446744073709551616 - 9223372036854775808 := by
  rw [← IntWalk.i64_left, IntKind.wrap_i64, IntKind.wrap_u64, IntKind.wrap_u64, IntKind.wrap_u64]; omega
theorem over_sum {a b S : Int} (a0 : -9223372036854775808 ≤ a) (a1 : a ≤ 9223372036854775807) (b0 : -9223372036854775808 ≤ b) (b1 : b ≤ 9223372036854775807)
    (hS : S = (a + b + 9223372036854775808) % 18446744073709551616 - 9223372036854775808) (h1 : a < 0 ↔ b < 0) (h2 : ¬ (S < 0 ↔ b < 0)) : intN (a + b) = 0 ∧ intB (a + b) = false :=
  int_no (by omega)
theorem fine_sum {a b S : Int} (a0 : -9223372036854775808 ≤ a) (a1 : a ≤ 9223372036854775807) (b0 : -9223372036854775808 ≤ b) (b1 : b ≤ 9223372036854775807)
    (hS : S = (a + b + 9223372036854775808) % 18446744073709551616 - 9223372036854775808) (h : ¬ (a < 0 ↔ b < 0) ∨ (S < 0 ↔ b < 0)) : intN (a + b) = S ∧ intB (a + b) = true := by
  have := int_yes (v := a + b) (by omega)
  exact ⟨by rw [this.1]; omega, this.2⟩
theorem over_diff {a b S : Int} (a0 : -9223372036854775808 ≤ a) (a1 : a ≤ 9223372036854775807) (b0 : -9223372036854775808 ≤ b) (b1 : b ≤ 9223372036854775807)
    (hS : S = (a - b + 9223372036854775808) % 18446744073709551616 - 9223372036854775808) (h1 : ¬ (a < 0 ↔ b < 0)) (h2 : ¬ (S < 0 ↔ a < 0)) : intN (a - b) = 0 ∧ intB (a - b) = false :=
  int_no (by omega)
theorem fine_diff {a b S : Int} (a0 : -9223372036854775808 ≤ a) (a1 : a ≤ 9223372036854775807) (b0 : -9223372036854775808 ≤ b) (b1 : b ≤ 9223372036854775807)
    (hS : S = (a - b + 9223372036854775808) % 18446744073709551616 - 9223372036854775808) (h : (a < 0 ↔ b < 0) ∨ (S < 0 ↔ a < 0)) : intN (a - b) = S ∧ intB (a - b) = true := by
  have := int_yes (v := a - b) (by omega)
  exact ⟨by rw [this.1]; omega, this.2⟩

set_option maxHeartbeats 400000 in
theorem a_add (a b : Int) (a0 : -9223372036854775808 ≤ a) (a1 : a ≤ 9223372036854775807) (b0 : -9223372036854775808 ≤ b) (b1 : b ≤ 9223372036854775807) (w : World) :
    Calls Try.prog 29 #[.int .i64 a, .int .i64 b] w fun e w' => e = .returned (.tuple #[.int .i64 (intN (a + b)), .bool (intB (a + b))]) ∧ w = w' := by
  have HS := hid (sum_wrap a b)
  go_enter Try.func29, Try.ntmps29
  go_wp2
  · rename_i h1 h2
    have := over_sum a0 a1 b0 b1 HS.out h1 (by intro h; simp [h] at h2)
    go_ret2
    exact ⟨ret_ib this.1.symm this.2.symm, rfl⟩
  · rename_i h1 h2
    have := fine_sum a0 a1 b0 b1 HS.out (by right; simpa using h2)
    go_ret2
    exact ⟨ret_ib this.1.symm this.2.symm, rfl⟩
  · rename_i h1
    have := fine_sum a0 a1 b0 b1 HS.out (.inl h1)
    go_ret2
    exact ⟨ret_ib this.1.symm this.2.symm, rfl⟩

set_option maxHeartbeats 400000 in
theorem a_sub (a b : Int) (a0 : -9223372036854775808 ≤ a) (a1 : a ≤ 9223372036854775807) (b0 : -9223372036854775808 ≤ b) (b1 : b ≤ 9223372036854775807) (w : World) :
    Calls Try.prog 30 #[.int .i64 a, .int .i64 b] w fun e w' => e = .returned (.tuple #[.int .i64 (intN (a - b)), .bool (intB (a - b))]) ∧ w = w' := by
  have HS := hid (diff_wrap a b)
  go_enter Try.func30, Try.ntmps30
  go_wp2
  · rename_i h1
    have := fine_diff a0 a1 b0 b1 HS.out (.inl h1)
    go_ret2
    exact ⟨ret_ib this.1.symm this.2.symm, rfl⟩
  · rename_i h1 h2
    have := over_diff a0 a1 b0 b1 HS.out h1 (by intro h; simp [h] at h2)
    go_ret2
    exact ⟨ret_ib this.1.symm this.2.symm, rfl⟩
  · rename_i h1 h2
    have := fine_diff a0 a1 b0 b1 HS.out (by
      rcases h2 with h2 | h2
      · exact absurd (by simpa using h2) h1
      · right; simpa using h2)
    go_ret2
    exact ⟨ret_ib this.1.symm this.2.symm, rfl⟩

set_option maxHeartbeats 400000 in
theorem a_neg (a : Int) (a0 : -9223372036854775808 ≤ a) (a1 : a ≤ 9223372036854775807) (w : World) :
    Calls Try.prog 32 #[.int .i64 a] w fun e w' => e = .returned (.tuple #[.int .i64 (intN (-a)), .bool (intB (-a))]) ∧ w = w' := by
  by_cases h : a = -9223372036854775808
  · subst h
    go_enter Try.func32, Try.ntmps32
    go_wp2
    go_ret2
    exact ⟨rfl, rfl⟩
  · have := int_yes (v := -a) (by omega)
    have HT := hid this
    clear this
    have h2 : -9223372036854775808 < a := by omega
    go_enter Try.func32, Try.ntmps32
    go_wp2
    go_ret2
    exact ⟨ret_ib HT.out.1.symm HT.out.2.symm, rfl⟩

set_option maxHeartbeats 400000 in
theorem a_size (a : Int) (a0 : -9223372036854775808 ≤ a) (a1 : a ≤ 9223372036854775807) (w : World) :
    Calls Try.prog 62 #[.int .i64 a] w fun e w' => e = .returned (.int .u64 (a.natAbs : Int)) ∧ w = w' := by
  rcases Int.lt_or_le a 0 with h | h
  · go_enter Try.func62, Try.ntmps62
    go_wp2
    go_ret
    refine ⟨?_, rfl⟩
    rw [show (a.natAbs : Int) = IntKind.u64.wrap (-IntKind.u64.wrap a) by rw [IntKind.wrap_u64, IntKind.wrap_u64]; omega]; rfl
  · go_enter Try.func62, Try.ntmps62
    go_wp2
    go_ret
    refine ⟨?_, rfl⟩
    rw [show (a.natAbs : Int) = a by omega]; rfl

set_option maxHeartbeats 400000 in
theorem a_div_no (a b : Int) (h : b ≤ 0) (w : World) :
    Calls Try.prog 18 #[.int .i64 a, .int .i64 b] w fun e w' => e = .returned (.tuple #[.int .i64 0, .int .i64 0, .bool false]) ∧ w = w' := by
  go_enter Try.func18, Try.ntmps18
  go_wp2
  go_ret3
  exact ⟨rfl, rfl⟩
theorem t_div {a b : Int} (h : 0 < b) : b * a.tdiv b + a.tmod b = a ∧ -b < a.tmod b ∧ a.tmod b < b ∧ (a ≤ 0 → a.tmod b ≤ 0) := by
  refine ⟨Int.mul_tdiv_add_tmod a b, ?_, Int.tmod_lt_of_pos a h, ?_⟩
  · rcases Int.lt_or_le a 0 with ha | ha
    · have := Int.tmod_lt_of_pos (-a) h
      rw [Int.neg_tmod] at this
      omega
    · have := Int.tmod_nonneg b ha; omega
  · intro ha
    have := Int.tmod_nonneg b (show 0 ≤ -a by omega)
    rw [Int.neg_tmod] at this
    omega
theorem div_neg {a b : Int} (h : 0 < b) (hr : a.tmod b < 0) : a / b = a.tdiv b - 1 ∧ a % b = a.tmod b + b := by
  obtain ⟨h1, h2, h3, h4⟩ := t_div (a := a) h
  refine (Int.ediv_emod_unique h).2 ⟨?_, by omega, by omega⟩
  rw [Int.mul_sub]; omega
theorem div_zero {a b : Int} (h : 0 < b) (hr : 0 ≤ a.tmod b) : a / b = a.tdiv b ∧ a % b = a.tmod b := by
  obtain ⟨h1, h2, h3, h4⟩ := t_div (a := a) h
  exact (Int.ediv_emod_unique h).2 ⟨by omega, by omega, by omega⟩
theorem div_bd {a b : Int} (h : 0 < b) (a0 : -9223372036854775808 ≤ a) (a1 : a ≤ 9223372036854775807) : -9223372036854775808 ≤ a / b ∧ a / b ≤ 9223372036854775807 := by
  have h1 := Int.emod_add_mul_ediv a b
  have h2 := Int.emod_nonneg a (show b ≠ 0 by omega)
  have h3 := Int.emod_lt_of_pos a h
  constructor
  · rcases Int.lt_or_le (a / b) 0 with g | g
    · have : b * (a / b) ≤ 1 * (a / b) := Int.mul_le_mul_of_nonpos_right (by omega) (by omega)
      by_cases hb : b = 1
      · subst hb; omega
      · have : b * (a / b) ≤ 2 * (a / b) := Int.mul_le_mul_of_nonpos_right (by omega) (by omega)
        by_cases hq : a / b = -1
        · omega
        · have h5 : (b - 2) * (a / b) ≤ (b - 2) * (-2) := Int.mul_le_mul_of_nonneg_left (by omega) (by omega)
          rw [Int.sub_mul] at h5
          omega
    · omega
  · rcases Int.lt_or_le 0 (a / b) with g | g
    · have : 1 * (a / b) ≤ b * (a / b) := Int.mul_le_mul_of_nonneg_right (by omega) (by omega)
      omega
    · omega
theorem ret_iib {a b c d : Int} {p : Bool} (h : a = b) (g : c = d) : Ending.returned (.tuple #[.int .i64 a, .int .i64 c, .bool p]) = .returned (.tuple #[.int .i64 b, .int .i64 d, .bool p]) := by rw [h, g]

set_option maxHeartbeats 400000 in
theorem a_div (a b : Int) (a0 : -9223372036854775808 ≤ a) (a1 : a ≤ 9223372036854775807) (h : 0 < b) (b1 : b ≤ 9223372036854775807) (w : World) :
    Calls Try.prog 18 #[.int .i64 a, .int .i64 b] w fun e w' => e = .returned (.tuple #[.int .i64 (a / b), .int .i64 (a % b), .bool true]) ∧ Below w.heap.size w w' := by
  have hbd := div_bd h a0 a1
  have HB := hid hbd
  clear hbd
  rcases Int.lt_or_le a 0 with h0 | h0
  · go_enter Try.func18, Try.ntmps18
    go_wp2
    go_quiet (fail)
    go_wp2
    · rename_i hr
      have := div_neg h hr
      have h2 := t_div (a := a) h
      have hbd := HB.out
      go_ret3
      refine ⟨ret_iib ?_ ?_, bdrewN (Below.refl _ _) _⟩
      · rw [IntWalk.wrap64_in _ ⟨by omega, by omega⟩]; omega
      · rw [IntWalk.wrap64_in _ ⟨by omega, by omega⟩]; omega
    · rename_i hr
      have := div_zero h hr
      go_ret3
      exact ⟨ret_iib this.1.symm this.2.symm, bdrewN (Below.refl _ _) _⟩
  · have hm := Int.emod_nonneg a (show b ≠ 0 by omega)
    go_enter Try.func18, Try.ntmps18
    go_wp2
    go_quiet (fail)
    go_wp2
    go_ret3
    exact ⟨rfl, bdrewN (Below.refl _ _) _⟩

end Go.Proofs.Ytlkemphhbamcfaa
