/-
  Sums of ints: the numbers behind arith.Sum.
-/
import Derived.Test.YtlkemphhbamcfaaSg
import Derived.Test.YtlkemphhbamcfaaArith4
import Derived.Test.YtlkemphhbamcfaaEng6
namespace Go.Proofs.Ytlkemphhbamcfaa
open Go.RowKit

def AllI (l : List Int) : Prop := ∀ x ∈ l, -9223372036854775808 ≤ x ∧ x ≤ 9223372036854775807
theorem AllI.at {l : List Int} (h : AllI l) {i : Nat} (hi : i < l.length) : -9223372036854775808 ≤ l.getD i 0 ∧ l.getD i 0 ≤ 9223372036854775807 := h _ (getD_mem hi)
theorem AllI.take {l : List Int} (h : AllI l) (k : Nat) : AllI (l.take k) := fun x hx => h x (List.mem_of_mem_take hx)
theorem sum_take (l : List Int) (k : Nat) (h : k < l.length) : (l.take k).sum + l.getD k 0 = (l.take (k + 1)).sum := by
  rw [take_succ_getD l k h, List.sum_append]; simp
theorem sum_bd : ∀ (l : List Int), AllI l → -9223372036854775808 * (l.length : Int) ≤ l.sum ∧ l.sum ≤ 9223372036854775807 * (l.length : Int)
  | [], _ => by simp
  | x :: l, h => by
    have h1 := h x (by simp)
    have h2 := sum_bd l (fun y hy => h y (by simp [hy]))
    simp only [List.sum_cons, List.length_cons, Int.natCast_add, Int.natCast_one]
    omega
theorem sum_bd2 {l : List Int} (h : AllI l) (hl : l.length ≤ 1000) (k : Nat) : -9223372036854775808000 ≤ (l.take k).sum ∧ (l.take k).sum ≤ 9223372036854775808000 := by
  have h1 := sum_bd (l.take k) (h.take k)
  have h2 : (l.take k).length ≤ 1000 := by rw [List.length_take]; omega
  omega
theorem Lt.sum {v : Int} (h : -9223372036854775808000 ≤ v ∧ v ≤ 9223372036854775808000) : Lt 80 v := by
  unfold Lt
  have : (2:Nat)^80 = 1208925819614629174706176 := by decide
  omega
theorem wide_eq (v : Int) (h : -9223372036854775808000 ≤ v ∧ v ≤ 9223372036854775808000) :
    (wHi (IntKind.i64.wrap (wLo v)) == wHi v && wLo (IntKind.i64.wrap (wLo v)) == wLo v) = intB v := by
  rw [Bool.eq_iff_iff]
  simp only [Bool.and_eq_true, beq_iff_eq, intB, decide_eq_true_eq, IntKind.wrap_i64]
  unfold wHi wLo
  constructor
  · rintro ⟨h1, h2⟩; omega
  · intro h1; omega
theorem wide_int (v : Int) (h : intB v = true) : IntKind.i64.wrap (wLo v) = intN v := by
  have h1 : -9223372036854775808 ≤ v ∧ v ≤ 9223372036854775807 := by simpa [intB] using h
  rw [(int_yes h1).1, IntKind.wrap_i64]; unfold wLo; omega
theorem wide_no (v : Int) (h : intB v = false) : intN v = 0 := by
  have h1 : ¬ (-9223372036854775808 ≤ v ∧ v ≤ 9223372036854775807) := by simpa [intB] using h
  exact (int_no h1).1
theorem wrap_bd (x : Int) : -9223372036854775808 ≤ IntKind.i64.wrap x ∧ IntKind.i64.wrap x ≤ 9223372036854775807 := by rw [IntKind.wrap_i64]; omega
end Go.Proofs.Ytlkemphhbamcfaa
