/-
  The words of math/bits.Div64: what its shifts, masks and wrapped sums come to. It holds of every program; nothing is assumed.
-/
import Derived.Test.YtlkemphhbamcfaaDiv1
import Derived.Test.YtlkemphhbamcfaaEng8
import Derived.Lib.BitFns
import Derived.Lib.ItoaNum
import Derived.Laws.Bits64b
namespace Go.Proofs.Ytlkemphhbamcfaa
open Go.RowKit
theorem u64w {x : Int} (h0 : 0 ≤ x) (h1 : x < 18446744073709551616) : IntKind.u64.wrap x = x := IntWalk.u64_in x ⟨h0, by omega⟩
/-- The divisor pushed to the left till its first bit is set. -/
theorem norm_of {y : Int} (h0 : 0 < y) (h1 : y ≤ 18446744073709551615) : ∃ (s : Nat) (P C : Int), 64 - (Lib.bitLen y.toNat : Int) = s ∧ s ≤ 63 ∧ (2 : Int) ^ s = P ∧ (2 : Int) ^ (64 - s) = C ∧ P * C = 18446744073709551616 ∧ 0 < P ∧ 0 < C ∧ 9223372036854775808 ≤ y * P ∧ y * P < 18446744073709551616 := by
  obtain ⟨a, b, c⟩ := Lib.bitLenAux_bounds 64 y.toNat (by omega) (by omega)
  have hb : Lib.bitLen y.toNat ≤ 64 := Lib.bitLen_le _ 64 (by omega) (by omega)
  have hL : Lib.bitLenAux 64 y.toNat = Lib.bitLen y.toNat := rfl
  rw [hL] at a b c
  generalize Lib.bitLen y.toNat = n at *
  have e1 : (2 : Nat) ^ (n - 1) * 2 ^ (64 - n) = 9223372036854775808 := by rw [← Nat.pow_add, show n - 1 + (64 - n) = 63 by omega]
  have e2 : (2 : Nat) ^ n * 2 ^ (64 - n) = 18446744073709551616 := by rw [← Nat.pow_add, show n + (64 - n) = 64 by omega]
  have p0 : 0 < (2 : Nat) ^ (64 - n) := Nat.pow_pos (by omega)
  have b2 : 9223372036854775808 ≤ y.toNat * 2 ^ (64 - n) := by rw [← e1]; exact Nat.mul_le_mul_right _ b
  have c2 : y.toNat * 2 ^ (64 - n) < 18446744073709551616 := by rw [← e2]; exact Nat.mul_lt_mul_of_pos_right c p0
  have ey : ((y.toNat * 2 ^ (64 - n) : Nat) : Int) = y * 2 ^ (64 - n) := by rw [Int.natCast_mul, Int.toNat_of_nonneg (by omega)]; simp
  refine ⟨64 - n, 2 ^ (64 - n), 2 ^ (64 - (64 - n)), by omega, by omega, rfl, rfl, ?_, ?_, ?_, ?_, ?_⟩
  · rw [← Int.pow_add, show 64 - n + (64 - (64 - n)) = 64 by omega]; rfl
  · exact Int.pow_pos (by omega)
  · exact Int.pow_pos (by omega)
  · omega
  · omega
theorem shl_ex {m P : Int} {s : Nat} (hs : s ≤ 63) (hP : (2 : Int) ^ s = P) : m * 2 ^ min ((s : Int)).toNat IntKind.u64.bits = m * P := by
  rw [show min ((s : Int)).toNat IntKind.u64.bits = s by show min (s : Int).toNat 64 = s; omega, hP]
theorem shr_ex {m C : Int} {s : Nat} (hs : s ≤ 63) (hC : (2 : Int) ^ (64 - s) = C) (h0 : 0 < C) : m.fdiv (2 ^ min ((64 - s : Nat) : Int).toNat IntKind.u64.bits) = m / C := by
  rw [show min ((64 - s : Nat) : Int).toNat IntKind.u64.bits = 64 - s by show min ((64 - s : Nat) : Int).toNat 64 = 64 - s; omega, hC, Int.fdiv_eq_ediv_of_nonneg _ (by omega)]
theorem shr32 (m : Int) : m.fdiv (2 ^ min (32 : Int).toNat IntKind.u64.bits) = m / 4294967296 := by
  rw [show min (32 : Int).toNat IntKind.u64.bits = 32 from rfl, Int.fdiv_eq_ediv_of_nonneg _ (by decide)]; rfl
theorem mask32 {m : Int} (h0 : 0 ≤ m) (h1 : m < 18446744073709551616) : bits .and .u64 m 4294967295 = m % 4294967296 := by
  have h := bits_and_u64_nat m.toNat 4294967295 (by omega) (by omega)
  rw [show (4294967295 : Nat) = 2 ^ 32 - 1 from rfl, Nat.and_two_pow_sub_one_eq_mod, Int.toNat_of_nonneg h0] at h
  have h2 : ((m.toNat % 2 ^ 32 : Nat) : Int) = m % 4294967296 := by omega
  exact h.trans h2
theorem or_ex {h P b : Int} {s : Nat} (hs : s ≤ 63) (hP : (2 : Int) ^ s = P) (h0 : 0 ≤ h) (b0 : 0 ≤ b) (bP : b < P) (hl : h * P < 18446744073709551616) : bits .or .u64 (h * P) b = h * P + b := by
  have hPn : P = ((2 ^ s : Nat) : Int) := by rw [← hP]; simp
  have hb64 : P ≤ 9223372036854775808 := by
    rw [hPn]
    have : (2 : Nat) ^ s ≤ 2 ^ 63 := Nat.pow_le_pow_right (by omega) hs
    omega
  have e : (((h.toNat <<< s : Nat)) : Int) = h * P := by rw [Nat.shiftLeft_eq, Int.natCast_mul, Int.toNat_of_nonneg h0, hPn]
  have g := bits_or_u64_nat (h.toNat <<< s) b.toNat (by omega) (by omega)
  rw [e, Int.toNat_of_nonneg b0, ← Nat.shiftLeft_add_eq_or_of_lt (by omega)] at g
  rw [g, Int.natCast_add, e, Int.toNat_of_nonneg b0]
/-- The pushed dividend, in its two words. -/
theorem pushed {hi lo y P C U : Int} (h : 0 ≤ hi ∧ hi < y) (hl : 0 ≤ lo ∧ lo < 18446744073709551616) (PC : P * C = 18446744073709551616) (P0 : 0 < P) (C0 : 0 < C) (hy : y * P < 18446744073709551616) (hU : U = hi * P + lo / C) :
    0 ≤ hi * P ∧ hi * P + P ≤ y * P ∧ 0 ≤ lo / C ∧ lo / C < P ∧ 0 ≤ U ∧ U < y * P ∧ U * 18446744073709551616 + lo * P % 18446744073709551616 = (hi * 18446744073709551616 + lo) * P := by
  have h1 : 0 ≤ hi * P := Int.mul_nonneg h.1 (by omega)
  have h2 : (hi + 1) * P ≤ y * P := Int.mul_le_mul_of_nonneg_right (by omega) (by omega)
  rw [Int.add_mul, Int.one_mul] at h2
  have h3 : 0 ≤ lo / C := Int.ediv_nonneg hl.1 (by omega)
  have h4 : lo / C < P := Int.ediv_lt_of_lt_mul C0 (by omega)
  have e1 := Int.mul_ediv_add_emod lo C
  have m0 : 0 ≤ lo % C := Int.emod_nonneg _ (by omega)
  have m1 : lo % C < C := Int.emod_lt_of_pos _ C0
  have e2 : lo * P = lo / C * 18446744073709551616 + lo % C * P := by
    rw [← PC]
    conv => lhs; rw [← e1]
    rw [Int.add_mul, Int.mul_comm C, Int.mul_assoc, Int.mul_comm C P]
  have m2 : lo % C * P < 18446744073709551616 := by
    rw [← PC, Int.mul_comm P C]; exact Int.mul_lt_mul_of_pos_right m1 P0
  have m3 : 0 ≤ lo % C * P := Int.mul_nonneg m0 (by omega)
  refine ⟨h1, h2, h3, h4, by omega, by omega, ?_⟩
  have e3 : lo * P % 18446744073709551616 = lo % C * P := by rw [e2]; omega
  have e4 : (hi * 18446744073709551616 + lo) * P = hi * P * 18446744073709551616 + lo * P := by
    rw [Int.add_mul, Int.mul_assoc, Int.mul_comm 18446744073709551616 P, ← Int.mul_assoc]
  rw [e3, e4, hU, e2]
  omega
theorem hr_wrap {U v y1 y0 Y : Int} (h : Half U v y1 y0) (hY : Y = y1 * 4294967296 + y0) : IntKind.u64.wrap (IntKind.u64.wrap (IntKind.u64.wrap (U * 4294967296) + v) - IntKind.u64.wrap (hq U v y1 y0 * Y)) = hr U v y1 y0 := by
  have hb := h.hrb
  have b1 := h.y1b
  have b0 := h.y0b
  have e : hr U v y1 y0 = U * 4294967296 + v - hq U v y1 y0 * Y := by rw [hY]; rfl
  generalize hq U v y1 y0 * Y = Z at *
  simp only [IntKind.wrap_u64]
  omega
theorem quo_end {hi lo y P U L : Int} {v1 v0 y1 y0 : Int} (h : Half U v1 y1 y0) (g : Half (hr U v1 y1 y0) v0 y1 y0) (hP : 0 < P) (hY : y * P = y1 * 4294967296 + y0) (hL : L = v1 * 4294967296 + v0) (he : U * 18446744073709551616 + L = (hi * 18446744073709551616 + lo) * P) :
    hq U v1 y1 y0 * 4294967296 + hq (hr U v1 y1 y0) v0 y1 y0 = (hi * 18446744073709551616 + lo) / y := by
  rw [two_halves h g, ← hL, ← hY, he, Int.mul_ediv_mul_of_pos_left _ _ hP]
theorem Try2.mul0 {U v y1 y0 q r : Int} (h : Half U v y1 y0) (t : Try2 U v y1 y0 q r) (hq_ : q < 4294967296) : 0 ≤ q ∧ 0 ≤ q * y0 ∧ q * y0 < 18446744073709551616 := by
  have b0 := h.y0b
  have q0 : 0 ≤ q := Int.le_trans h.hq0 t.q0
  have h1 : q * y0 ≤ q * 4294967296 := Int.mul_le_mul_of_nonneg_left (by omega) q0
  exact ⟨q0, Int.mul_nonneg q0 b0.1, by omega⟩
theorem quo_in {U y1 : Int} (h0 : 0 ≤ U) (h1 : U < 18446744073709551616) (h2 : 0 < y1) : 0 ≤ U / y1 ∧ U / y1 < 18446744073709551616 ∧ 0 ≤ U / y1 * y1 ∧ U / y1 * y1 ≤ U ∧ IntKind.u64.wrap (U.tdiv y1) = U / y1 := by
  have a : 0 ≤ U / y1 := Int.ediv_nonneg h0 (by omega)
  have b : U / y1 ≤ U := Int.ediv_le_self _ h0
  have c := Int.mul_ediv_self_le (x := U) (k := y1) (by omega)
  rw [Int.mul_comm] at c
  exact ⟨a, by omega, Int.mul_nonneg a (by omega), c, by rw [Int.tdiv_eq_ediv_of_nonneg h0]; exact u64w a (by omega)⟩
end Go.Proofs.Ytlkemphhbamcfaa
