/-
  kurganref01 by values: a number with a sign as the cells of a struct.
-/
import Derived.Test.YtlkemphhbamcfaaRef01c
import Derived.Test.YtlkemphhbamcfaaDivs
import Derived.Test.YtlkemphhbamcfaaEng5
import Derived.Test.YtlkemphhbamcfaaTy
namespace Go.Proofs.Ytlkemphhbamcfaa
open Go.RowKit

/-- The cells x hold the number v. -/
def Sg (v : Int) (x : Array Value) : Prop := ∃ s m, x = sgA s m ∧ val s m = v
theorem Sg.size {v : Int} {x : Array Value} (h : Sg v x) : x.size = 10 := by obtain ⟨s, m, rfl, -⟩ := h; rfl
theorem Sg.one {v : Int} {x : Array Value} (h : Sg v x) : allOne x.toList = true := by obtain ⟨s, m, rfl, -⟩ := h; rfl
theorem val_abs (s : Bool) (m : Nat) : (val s m).natAbs = m := by cases s <;> simp [val]
/-- A number of at most so many bits. -/
def Lt (k : Nat) (v : Int) : Prop := v.natAbs < 2 ^ k
theorem Lt.int {a : Int} (a0 : -9223372036854775808 ≤ a) (a1 : a ≤ 9223372036854775807) : Lt 64 a := by
  unfold Lt
  have : (2:Nat)^64 = 18446744073709551616 := by decide
  omega
theorem Lt.up {k j : Nat} {v : Int} (h : Lt k v) (hk : k ≤ j) : Lt j v := Nat.lt_of_lt_of_le h (Nat.pow_le_pow_right (by decide) hk)
theorem Lt.mul {k j : Nat} {u v : Int} (hu : Lt k u) (hv : Lt j v) : Lt (k + j) (u * v) := by
  unfold Lt at *
  rw [Int.natAbs_mul, Nat.pow_add]
  exact Nat.mul_lt_mul'' hu hv
theorem Lt.add {k : Nat} {u v : Int} (hu : Lt k u) (hv : Lt k v) : Lt (k + 1) (u + v) := by
  unfold Lt at *
  rw [Nat.pow_succ]
  have := Int.natAbs_add_le u v
  omega
theorem Lt.neg {k : Nat} {v : Int} (h : Lt k v) : Lt k (-v) := by unfold Lt at *; rwa [Int.natAbs_neg]

theorem num_v (a : Int) (a0 : -9223372036854775808 ≤ a) (a1 : a ≤ 9223372036854775807) (w : World) :
    Calls Try.prog 22 #[.int .i64 a] w fun e w' => ∃ x, e = .returned (.agg x) ∧ Sg a x ∧ Below w.heap.size w w' :=
  (num_any a a0 a1 w).mono fun _ _ ⟨h, hb⟩ => ⟨_, h, ⟨_, _, rfl, val_num a⟩, hb⟩
theorem neg_v {v : Int} {x : Array Value} (h : Sg v x) (w : World) :
    Calls Try.prog 33 #[.agg x] w fun e w' => ∃ y, e = .returned (.agg y) ∧ Sg (-v) y ∧ Below w.heap.size w w' := by
  obtain ⟨s, m, rfl, rfl⟩ := h
  exact (neg_any s m w).mono fun _ _ ⟨h, hb⟩ => ⟨_, h, ⟨_, _, rfl, val_not s m⟩, hb⟩
theorem mul_v {u v : Int} {x y : Array Value} (hx : Sg u x) (hy : Sg v y) (hu : Lt 124 u) (hv : Lt 124 v) (w : World) :
    Calls Try.prog 21 #[.agg x, .agg y] w fun e w' => ∃ z, e = .returned (.agg z) ∧ Sg (u * v) z ∧ Below w.heap.size w w' := by
  obtain ⟨s, m, rfl, rfl⟩ := hx
  obtain ⟨t, n, rfl, rfl⟩ := hy
  unfold Lt at hu hv
  rw [val_abs] at hu hv
  exact (mul_any s t m n hu hv w).mono fun _ _ ⟨h, hb⟩ => ⟨_, h, ⟨_, _, rfl, val_neq s t m n⟩, hb⟩
theorem add_v {u v : Int} {x y : Array Value} (hx : Sg u x) (hy : Sg v y) (hu : Lt 190 u) (hv : Lt 190 v) (w : World) :
    Calls Try.prog 20 #[.agg x, .agg y] w fun e w' => ∃ z, e = .returned (.agg z) ∧ Sg (u + v) z ∧ Below w.heap.size w w' := by
  obtain ⟨s, m, rfl, rfl⟩ := hx
  obtain ⟨t, n, rfl, rfl⟩ := hy
  unfold Lt at hu hv
  rw [val_abs] at hu hv
  exact (add_any s t m n hu hv w).mono fun _ _ ⟨s', m', h, hval, _, hb⟩ => ⟨_, h, ⟨_, _, rfl, hval⟩, hb⟩
theorem cmp_v {u v : Int} {x y : Array Value} (hx : Sg u x) (hy : Sg v y) (hu : Lt 190 u) (hv : Lt 190 v) (w : World) :
    Calls Try.prog 23 #[.agg x, .agg y] w fun e w' => e = .returned (.int .i64 (cmpI (u - v))) ∧ Below w.heap.size w w' := by
  obtain ⟨s, m, rfl, rfl⟩ := hx
  obtain ⟨t, n, rfl, rfl⟩ := hy
  unfold Lt at hu hv
  rw [val_abs] at hu hv
  exact cmp_any s t m n hu hv w
theorem int_v {v : Int} {x : Array Value} (hx : Sg v x) (hv : Lt 200 v) (w : World) :
    Calls Try.prog 26 #[.agg x] w fun e w' => e = .returned (.tuple #[.int .i64 (intN v), .bool (intB v)]) ∧ Below w.heap.size w w' := by
  obtain ⟨s, m, rfl, rfl⟩ := hx
  unfold Lt at hv
  rw [val_abs] at hv
  exact int_any s m hv w
theorem int_ok {v : Int} {x : Array Value} (hx : Sg v x) (hv : Lt 200 v) (h : -9223372036854775808 ≤ v ∧ v ≤ 9223372036854775807) (w : World) :
    Calls Try.prog 26 #[.agg x] w fun e w' => e = .returned (.tuple #[.int .i64 v, .bool true]) ∧ Below w.heap.size w w' := by
  have := int_v hx hv w
  rwa [(int_yes h).1, (int_yes h).2] at this
theorem int_out {v : Int} {x : Array Value} (hx : Sg v x) (hv : Lt 200 v) (h : ¬ (-9223372036854775808 ≤ v ∧ v ≤ 9223372036854775807)) (w : World) :
    Calls Try.prog 26 #[.agg x] w fun e w' => e = .returned (.tuple #[.int .i64 0, .bool false]) ∧ Below w.heap.size w w' := by
  have := int_v hx hv w
  rwa [(int_no h).1, (int_no h).2] at this
end Go.Proofs.Ytlkemphhbamcfaa
