/-
  The walks of package arith: numbers of 128 bits by two's complement (widen, plus), sums of lists.
-/
import Derived.Test.YtlkemphhbamcfaaArithLaws
import Derived.Test.YtlkemphhbamcfaaReg
import Derived.Laws.Externs
namespace Go.Proofs.Ytlkemphhbamcfaa
open Go.RowKit

/-- A whole number by two's complement, its high part and its low part. -/
def wHi (v : Int) : Int := v / 18446744073709551616 % 18446744073709551616
def wLo (v : Int) : Int := v % 18446744073709551616
def wdA (v : Int) : Array Value := #[.int .u64 (wHi v), .int .u64 (wLo v)]
theorem w_bd (v : Int) : 0 ≤ wHi v ∧ wHi v < 18446744073709551616 ∧ 0 ≤ wLo v ∧ wLo v < 18446744073709551616 := by unfold wHi wLo; omega
theorem w_add_lo (u v : Int) : (wLo u + wLo v + 0) % 18446744073709551616 = wLo (u + v) := by unfold wLo; omega
theorem w_add_hi (u v : Int) : (wHi u + wHi v + (wLo u + wLo v + 0) / 18446744073709551616) % 18446744073709551616 = wHi (u + v) := by unfold wLo wHi; omega
theorem w_carry (u v : Int) : 0 ≤ (wLo u + wLo v + 0) / 18446744073709551616 ∧ (wLo u + wLo v + 0) / 18446744073709551616 ≤ 1 := by unfold wLo; omega
theorem w_int (n : Int) (h0 : -9223372036854775808 ≤ n) (h1 : n ≤ 9223372036854775807) : wHi n = (if n < 0 then 18446744073709551615 else 0) ∧ wLo n = IntKind.u64.wrap n := by
  rw [IntKind.wrap_u64]; unfold wHi wLo; split <;> omega
theorem ret_agg {a b : Array Value} (h : a = b) : Ending.returned (.agg a) = .returned (.agg b) := by rw [h]

set_option maxHeartbeats 400000 in
theorem widen_any (a : Int) (a0 : -9223372036854775808 ≤ a) (a1 : a ≤ 9223372036854775807) (w : World) :
    Calls Try.prog 64 #[.int .i64 a] w fun e w' => e = .returned (.agg (wdA a)) ∧ Below w.heap.size w w' := by
  have hw := hid (w_int a a0 a1)
  rcases Int.lt_or_le a 0 with h | h
  · go_enter Try.func64, Try.ntmps64
    go_wp2
    refine bodyPost_ret (v := .agg (wdA a)) ?_ rfl ⟨rfl, (Below.refl _ _).alloc (Nat.le_refl _) _⟩
    unfold wdA
    rw [hw.out.1, hw.out.2, if_pos h]
    simp [results, Try.results64, go_sem]
  · go_enter Try.func64, Try.ntmps64
    go_wp2
    refine bodyPost_ret (v := .agg (wdA a)) ?_ rfl ⟨rfl, (Below.refl _ _).alloc (Nat.le_refl _) _⟩
    unfold wdA
    rw [hw.out.1, hw.out.2, if_neg (by omega)]
    simp [results, Try.results64, go_sem]
    try (rw [IntKind.wrap_u64]; omega)

theorem add64_run (x y c : Int) (hx : 0 ≤ x) (hy : 0 ≤ y) (hc0 : 0 ≤ c) (hc : c ≤ 1) (w : World) :
    (callFunc 78 #[.int .u64 x, .int .u64 y, .int .u64 c]).run Try.prog w =
      .ok (.value (.tuple #[.int .u64 ((x + y + c) % 18446744073709551616), .int .u64 ((x + y + c) / 18446744073709551616)])) w := by
  rw [run_callFunc_extern Try.func78 (by kernel_rfl) (by kernel_rfl) (by kernel_rfl) (e := add64Entry) (by kernel_rfl), run_add64 x y c hx hy hc0 hc]
  simp only [Result.andThen]

set_option maxHeartbeats 400000 in
theorem wplus_any (u v : Int) (w : World) :
    Calls Try.prog 63 #[.agg (wdA u), .agg (wdA v)] w fun e w' => e = .returned (.agg (wdA (u + v))) ∧ Below w.heap.size w w' := by
  have bu := w_bd u
  have bv := w_bd v
  have hc := w_carry u v
  have e1 : ∀ w, (callFunc 78 #[.int .u64 (wLo u), .int .u64 (wLo v), .int .u64 0]).run Try.prog w =
      .ok (.value (.tuple #[.int .u64 (wLo (u + v)), .int .u64 ((wLo u + wLo v + 0) / 18446744073709551616)])) w := fun w => by
    rw [add64_run _ _ _ bu.2.2.1 bv.2.2.1 (by omega) (by omega), w_add_lo]
  have e2 : ∀ w, (callFunc 78 #[.int .u64 (wHi u), .int .u64 (wHi v), .int .u64 ((wLo u + wLo v + 0) / 18446744073709551616)]).run Try.prog w =
      .ok (.value (.tuple #[.int .u64 (wHi (u + v)), .int .u64 ((wHi u + wHi v + (wLo u + wLo v + 0) / 18446744073709551616) / 18446744073709551616)])) w := fun w => by
    rw [add64_run _ _ _ bu.1 bv.1 hc.1 hc.2, w_add_hi]
  clear bu bv hc
  generalize (wLo u + wLo v + 0) / 18446744073709551616 = c at *
  generalize (wHi u + wHi v + c) / 18446744073709551616 = d at *
  unfold wdA
  go_enter Try.func63, Try.ntmps63
  go_wp2
  refine bodyPost_ret (v := .agg (wdA (u + v))) (by simp [results, Try.results63, go_sem, wdA]) rfl ⟨rfl, ?_⟩
  exact (((Below.refl _ _).alloc (Nat.le_refl _) _).alloc (by simp) _).alloc (by simp; omega) _

end Go.Proofs.Ytlkemphhbamcfaa
