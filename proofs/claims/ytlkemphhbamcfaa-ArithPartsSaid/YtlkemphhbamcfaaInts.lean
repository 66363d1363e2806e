/-
  Whole numbers as ints: which of them an int is. No program is spoken of.
-/
import Derived.Test.YtlkemphhbamcfaaLib
namespace Go.Proofs.Ytlkemphhbamcfaa
open Go.RowKit

def intN (v : Int) : Int := if -9223372036854775808 ≤ v ∧ v ≤ 9223372036854775807 then v else 0
def intB (v : Int) : Bool := decide (-9223372036854775808 ≤ v ∧ v ≤ 9223372036854775807)
theorem int_no {v : Int} (h : ¬ (-9223372036854775808 ≤ v ∧ v ≤ 9223372036854775807)) : intN v = 0 ∧ intB v = false := ⟨by simp [intN, h], by simp only [intB, h, decide_false]⟩
theorem int_yes {v : Int} (h : -9223372036854775808 ≤ v ∧ v ≤ 9223372036854775807) : intN v = v ∧ intB v = true := ⟨by simp [intN, h], by simp only [intB, h, and_self, decide_true]⟩
theorem intN_bd (v : Int) : -9223372036854775808 ≤ intN v ∧ intN v ≤ 9223372036854775807 := by
  unfold intN; split <;> omega
/-- -1, 0, 1. -/
def cmpI (v : Int) : Int := if v = 0 then 0 else if v < 0 then -1 else 1
theorem bd_i64 {a : Int} (h : (Lit.int .i64 a).wf = true) : -9223372036854775808 ≤ a ∧ a ≤ 9223372036854775807 := by
  have h0 : IntKind.i64.min = -9223372036854775808 := rfl
  have h1 : IntKind.i64.max = 9223372036854775807 := rfl
  simp [Lit.wf, h0, h1] at h; omega
theorem bd_u64 {a : Int} (h : (Lit.int .u64 a).wf = true) : 0 ≤ a ∧ a ≤ 18446744073709551615 := by
  have h0 : IntKind.u64.min = 0 := rfl
  have h1 : IntKind.u64.max = 18446744073709551615 := rfl
  simp [Lit.wf, h0, h1] at h; omega
theorem bd_u32 {a : Int} (h : (Lit.int .u32 a).wf = true) : 0 ≤ a ∧ a ≤ 4294967295 := by
  have h0 : IntKind.u32.min = 0 := rfl
  have h1 : IntKind.u32.max = 4294967295 := rfl
  simp [Lit.wf, h0, h1] at h; omega
theorem ret_bool {a b : Bool} (h : a = b) : Ending.returned (.bool a) = .returned (.bool b) := by rw [h]
theorem ret_i64 {a b : Int} (h : a = b) : Ending.returned (.int .i64 a) = .returned (.int .i64 b) := by rw [h]
theorem ret_ib {a b : Int} {p q : Bool} (h : a = b) (g : p = q) : Ending.returned (.tuple #[.int .i64 a, .bool p]) = .returned (.tuple #[.int .i64 b, .bool q]) := by rw [h, g]

end Go.Proofs.Ytlkemphhbamcfaa
