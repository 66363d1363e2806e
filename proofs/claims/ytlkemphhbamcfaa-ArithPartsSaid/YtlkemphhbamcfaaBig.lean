/-
  Plain numbers: parts of 31 bits, and what sums, differences and products of such parts are. No program is spoken of.
-/
import Derived.Test.YtlkemphhbamcfaaLib
namespace Go.Proofs.Ytlkemphhbamcfaa
open Go.RowKit
theorem band_i64 (a b : Nat) (ha : a < 9223372036854775808) (hb : b < 9223372036854775808) : bits BinOp.and IntKind.i64 (a : Int) (b : Int) = ((a &&& b : Nat) : Int) := by
  have h1 : a &&& b ≤ a := Nat.and_le_left
  show IntKind.i64.wrap (((BitVec.ofInt 64 (a : Int)) &&& (BitVec.ofInt 64 (b : Int))).toNat : Int) = _
  rw [BitVec.ofInt_natCast, BitVec.ofInt_natCast, BitVec.toNat_and, BitVec.toNat_ofNat, BitVec.toNat_ofNat, Nat.mod_eq_of_lt (by omega), Nat.mod_eq_of_lt (by omega)]
  exact IntWalk.i64_in _ (by omega)
theorem bor_i64 (a b : Nat) (ha : a < 9223372036854775808) (hb : b < 9223372036854775808) : bits BinOp.or IntKind.i64 (a : Int) (b : Int) = ((a ||| b : Nat) : Int) := by
  have h1 : a ||| b < 2^63 := Nat.or_lt_two_pow (by omega) (by omega)
  show IntKind.i64.wrap (((BitVec.ofInt 64 (a : Int)) ||| (BitVec.ofInt 64 (b : Int))).toNat : Int) = _
  rw [BitVec.ofInt_natCast, BitVec.ofInt_natCast, BitVec.toNat_or, BitVec.toNat_ofNat, BitVec.toNat_ofNat, Nat.mod_eq_of_lt (by omega), Nat.mod_eq_of_lt (by omega)]
  exact IntWalk.i64_in _ (by omega)
theorem band_u64 (a b : Nat) (ha : a < 18446744073709551616) (hb : b < 18446744073709551616) : bits BinOp.and IntKind.u64 (a : Int) (b : Int) = ((a &&& b : Nat) : Int) := by
  have h1 : a &&& b ≤ a := Nat.and_le_left
  show IntKind.u64.wrap (((BitVec.ofInt 64 (a : Int)) &&& (BitVec.ofInt 64 (b : Int))).toNat : Int) = _
  rw [BitVec.ofInt_natCast, BitVec.ofInt_natCast, BitVec.toNat_and, BitVec.toNat_ofNat, BitVec.toNat_ofNat, Nat.mod_eq_of_lt (by omega), Nat.mod_eq_of_lt (by omega)]
  exact IntWalk.u64_in _ (by omega)
theorem bor_u64 (a b : Nat) (ha : a < 18446744073709551616) (hb : b < 18446744073709551616) : bits BinOp.or IntKind.u64 (a : Int) (b : Int) = ((a ||| b : Nat) : Int) := by
  have h1 : a ||| b < 2^64 := Nat.or_lt_two_pow (by omega) (by omega)
  show IntKind.u64.wrap (((BitVec.ofInt 64 (a : Int)) ||| (BitVec.ofInt 64 (b : Int))).toNat : Int) = _
  rw [BitVec.ofInt_natCast, BitVec.ofInt_natCast, BitVec.toNat_or, BitVec.toNat_ofNat, BitVec.toNat_ofNat, Nat.mod_eq_of_lt (by omega), Nat.mod_eq_of_lt (by omega)]
  exact IntWalk.u64_in _ (by omega)
/-- 'x & (2^31 - 1)'. -/
theorem band31_i64 (x : Int) (h0 : 0 ≤ x) (h1 : x < 9223372036854775808) : bits BinOp.and IntKind.i64 x 2147483647 = x % 2147483648 := by
  obtain ⟨n, rfl⟩ := Int.eq_ofNat_of_zero_le h0
  have := band_i64 n 2147483647 (by omega) (by omega)
  rw [show ((2147483647 : Nat) : Int) = 2147483647 from rfl] at this
  rw [this, show (2147483647 : Nat) = 2^31 - 1 from rfl, Nat.and_two_pow_sub_one_eq_mod]
  omega
theorem band31_u64 (x : Int) (h0 : 0 ≤ x) (h1 : x < 18446744073709551616) : bits BinOp.and IntKind.u64 x 2147483647 = x % 2147483648 := by
  obtain ⟨n, rfl⟩ := Int.eq_ofNat_of_zero_le h0
  have := band_u64 n 2147483647 (by omega) (by omega)
  rw [show ((2147483647 : Nat) : Int) = 2147483647 from rfl] at this
  rw [this, show (2147483647 : Nat) = 2^31 - 1 from rfl, Nat.and_two_pow_sub_one_eq_mod]
  omega
def dg (n i : Nat) : Nat := n / 2^(31*i) % 2147483648
def carry (m n k : Nat) : Nat := (m + n) / 2^(31*k) - m / 2^(31*k) - n / 2^(31*k)
theorem pow31 (k : Nat) : 2^(31*(k+1)) = 2^(31*k) * 2147483648 := by rw [Nat.mul_add, Nat.pow_add]
theorem div31 (n k : Nat) : n / 2^(31*(k+1)) = n / 2^(31*k) / 2147483648 := by rw [pow31, Nat.div_div_eq_div_mul]
theorem dg_lt (n i : Nat) : dg n i < 2147483648 := Nat.mod_lt _ (by decide)
theorem add_div_le (m n q : Nat) (hq : 0 < q) : m / q + n / q ≤ (m + n) / q ∧ (m + n) / q ≤ m / q + n / q + 1 := by
  rw [Nat.add_div hq]; split <;> omega
theorem carry_zero (m n : Nat) : carry m n 0 = 0 := by simp [carry]
theorem carry_le (m n k : Nat) : carry m n k ≤ 1 := by
  have := add_div_le m n (2^(31*k)) (Nat.two_pow_pos _); unfold carry; omega
theorem plus_step (m n k : Nat) : dg m k + dg n k + carry m n k = dg (m + n) k + 2147483648 * carry m n (k+1) := by
  have h0 := add_div_le m n (2^(31*k)) (Nat.two_pow_pos _)
  have h1 := add_div_le m n (2^(31*(k+1))) (Nat.two_pow_pos _)
  unfold carry dg
  rw [div31, div31, div31] at *
  generalize m / 2^(31*k) = x at *
  generalize n / 2^(31*k) = y at *
  generalize (m+n) / 2^(31*k) = z at *
  omega
/-- Minus -/
def borrow (m n k : Nat) : Nat := m / 2^(31*k) - n / 2^(31*k) - (m - n) / 2^(31*k)
theorem sub_div_le (m n q : Nat) (hq : 0 < q) (h : n ≤ m) : n / q + (m - n) / q ≤ m / q ∧ m / q ≤ n / q + (m - n) / q + 1 := by
  have := add_div_le n (m - n) q hq
  rwa [show n + (m - n) = m from by omega] at this
theorem borrow_zero (m n : Nat) : borrow m n 0 = 0 := by simp [borrow]
theorem borrow_le (m n k : Nat) (h : n ≤ m) : borrow m n k ≤ 1 := by
  have := sub_div_le m n (2^(31*k)) (Nat.two_pow_pos _) h; unfold borrow; omega
theorem minus_step (m n k : Nat) (h : n ≤ m) : dg m k + 2147483648 * borrow m n (k+1) = dg (m - n) k + dg n k + borrow m n k := by
  have h0 := sub_div_le m n (2^(31*k)) (Nat.two_pow_pos _) h
  have h1 := sub_div_le m n (2^(31*(k+1))) (Nat.two_pow_pos _) h
  unfold borrow dg
  rw [div31, div31, div31] at *
  generalize m / 2^(31*k) = x at *
  generalize n / 2^(31*k) = y at *
  generalize (m-n) / 2^(31*k) = z at *
  omega
/-- Less -/
theorem less_step (m n i : Nat) (h : m / 2^(31*(i+1)) = n / 2^(31*(i+1))) (hne : dg m i ≠ dg n i) : (m < n ↔ dg m i < dg n i) := by
  have h0 : m / 2^(31*i) < n / 2^(31*i) ↔ dg m i < dg n i := by
    unfold dg at *; rw [div31, div31] at h; omega
  rw [← h0]
  have hne' : m / 2^(31*i) ≠ n / 2^(31*i) := fun e => hne (by unfold dg; rw [e])
  constructor
  · intro hlt
    have := Nat.div_le_div_right (c := 2^(31*i)) (Nat.le_of_lt hlt)
    omega
  · intro hlt
    rcases Nat.lt_or_ge m n with g | g
    · exact g
    · have := Nat.div_le_div_right (c := 2^(31*i)) g; omega
theorem eq_step (m n i : Nat) (h : m / 2^(31*(i+1)) = n / 2^(31*(i+1))) (he : dg m i = dg n i) : m / 2^(31*i) = n / 2^(31*i) := by
  unfold dg at he; rw [div31, div31] at h; omega
theorem top_of (m k : Nat) (hk : 200 ≤ k) (h : m < 2^200) : m / 2^k = 0 :=
  Nat.div_eq_of_lt (Nat.lt_of_lt_of_le h (Nat.pow_le_pow_right (by decide) hk))
theorem top_zero (m : Nat) (h : m < 2^200) (k : Nat) (hk : k = 9) : m / 2^(31*k) = 0 := top_of m _ (by omega) h
/-- two of the same parts are the same -/
theorem dg_ext (m n : Nat) (hm : m < 2^200) (hn : n < 2^200) (h : ∀ i, i < 9 → dg m i = dg n i) : m = n := by
  have key : ∀ j k, j + k = 9 → m / 2^(31*k) = n / 2^(31*k) := by
    intro j
    induction j with
    | zero => intro k hk; rw [top_zero m hm k (by omega), top_zero n hn k (by omega)]
    | succ j ih => intro k hk; exact eq_step m n _ (ih (k+1) (by omega)) (h _ (by omega))
  simpa using key 9 0 (by omega)
/-- Times: row i, step k. P: what the rows ahead make; x: the part of the first; n: the second, below 2^(31*4) -/
def tim (P x n i k : Nat) : Nat := P + x * 2^(31*i) * (n % 2^(31*k))
def tover (P x n i k : Nat) : Nat := tim P x n i k / 2^(31*(i+k)) - P / 2^(31*(i+k))
theorem tim_zero (P x n i : Nat) : tim P x n i 0 = P := by simp [tim, Nat.mod_one]
theorem tover_zero (P x n i : Nat) : tover P x n i 0 = 0 := by simp [tover, tim_zero]
theorem mod31 (n k : Nat) : n % 2^(31*(k+1)) = n % 2^(31*k) + 2^(31*k) * dg n k := by
  unfold dg; rw [pow31, Nat.mod_mul]
theorem tim_succ (P x n i k : Nat) : tim P x n i (k+1) = tim P x n i k + x * dg n k * 2^(31*(i+k)) := by
  unfold tim; rw [mod31, Nat.mul_add, Nat.mul_add 31 i k, Nat.pow_add]
  rw [← Nat.add_assoc]; congr 1
  simp only [Nat.mul_assoc, Nat.mul_left_comm, Nat.mul_comm]
theorem tim_ge (P x n i k : Nat) : P ≤ tim P x n i k := Nat.le_add_right _ _
theorem dg_add_high (a b j k : Nat) (h : j < k) : dg (a + b * 2^(31*k)) j = dg a j := by
  unfold dg
  have : b * 2^(31*k) = 2^(31*j) * (2147483648 * (b * 2^(31*(k-j-1)))) := by
    rw [show 31*k = 31*j + 31 + 31*(k-j-1) from by omega, Nat.pow_add, Nat.pow_add, show (2:Nat)^31 = 2147483648 from rfl]
    simp only [Nat.mul_assoc, Nat.mul_left_comm, Nat.mul_comm]
  rw [this, Nat.add_mul_div_left _ _ (Nat.two_pow_pos _), Nat.add_mul_mod_self_left]
theorem tim_low (P x n i k j : Nat) (h : j < i + k) : dg (tim P x n i (k+1)) j = dg (tim P x n i k) j := by
  rw [tim_succ]; exact dg_add_high _ _ _ _ h
theorem tim_div (P x n i k : Nat) : tim P x n i (k+1) / 2^(31*(i+k)) = tim P x n i k / 2^(31*(i+k)) + x * dg n k := by
  rw [tim_succ, Nat.add_mul_div_right _ _ (Nat.two_pow_pos _)]
theorem times_step (P x n i k : Nat) : dg P (i+k) + x * dg n k + tover P x n i k = dg (tim P x n i (k+1)) (i+k) + 2147483648 * tover P x n i (k+1) := by
  have hd := tim_div P x n i k
  have h0 := Nat.div_le_div_right (c := 2^(31*(i+k))) (tim_ge P x n i k)
  have h1 := Nat.div_le_div_right (c := 2^(31*(i+(k+1)))) (tim_ge P x n i (k+1))
  unfold tover
  rw [show i + (k+1) = (i+k)+1 from rfl, div31, div31] at *
  generalize x * dg n k = y at *
  unfold dg
  rw [hd] at h1 ⊢
  generalize tim P x n i k / 2^(31*(i+k)) = T at *
  generalize P / 2^(31*(i+k)) = p at *
  omega
theorem tim_four (P x n i : Nat) (hn : n < 2^(31*4)) : tim P x n i 4 = P + x * n * 2^(31*i) := by
  unfold tim; rw [Nat.mod_eq_of_lt hn]; congr 1; exact Nat.mul_right_comm _ _ _
/-- what the rows ahead make: the low parts of the first, times the second -/
def low (m i : Nat) : Nat := m % 2^(31*i)
theorem low_zero (m : Nat) : low m 0 = 0 := by simp [low, Nat.mod_one]
theorem low_succ (m n i : Nat) : low m (i+1) * n = low m i * n + dg m i * n * 2^(31*i) := by
  unfold low; rw [mod31, Nat.add_mul]; congr 1; rw [Nat.mul_comm (2^(31*i)), Nat.mul_right_comm]
theorem low_lt (m n i : Nat) (hn : n < 2^(31*4)) : low m i * n < 2^(31*(i+4)) := by
  rw [show 31*(i+4) = 31*i + 31*4 from by omega, Nat.pow_add]
  have h1 : low m i < 2^(31*i) := Nat.mod_lt _ (Nat.two_pow_pos _)
  exact Nat.mul_lt_mul_of_lt_of_le h1 (Nat.le_of_lt hn) (Nat.two_pow_pos _)
theorem dg_high (a j k : Nat) (h : a < 2^(31*k)) (hj : k ≤ j) : dg a j = 0 := by
  unfold dg; rw [Nat.div_eq_of_lt (Nat.lt_of_lt_of_le h (Nat.pow_le_pow_right (by decide) (by omega)))]
theorem tover_four (P x n i : Nat) (hP : P < 2^(31*(i+4))) (hT : tim P x n i 4 < 2^(31*(i+1+4))) : tover P x n i 4 = dg (tim P x n i 4) (i+4) := by
  unfold tover dg
  rw [Nat.div_eq_of_lt hP, Nat.sub_zero, Nat.mod_eq_of_lt]
  rw [show i+1+4 = (i+4)+1 from by omega, pow31] at hT
  exact Nat.div_lt_of_lt_mul hT
theorem tover_le (P x n i k : Nat) (hx : x < 2147483648) : tover P x n i k ≤ 2147483648 := by
  induction k with
  | zero => rw [tover_zero]; omega
  | succ k ih =>
    have h := times_step P x n i k
    have h1 := dg_lt P (i+k)
    have h2 : x * dg n k ≤ 2147483647 * 2147483647 := Nat.mul_le_mul (by omega) (by have := dg_lt n k; omega)
    omega
end Go.Proofs.Ytlkemphhbamcfaa
