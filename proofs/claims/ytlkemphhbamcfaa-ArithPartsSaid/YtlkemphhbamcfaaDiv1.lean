/-
  A word of two halves divided by one half at a time (as math/bits.Div64 does it), in plain Lean. Nothing is assumed.
-/
import Derived.ProofKit
namespace Go.Proofs.Ytlkemphhbamcfaa
/-- What half a division is about: U the high part, v the next half, y1 and y0 the divisor's halves. -/
structure Half (U v y1 y0 : Int) : Prop where
  U0 : 0 ≤ U
  Ult : U < y1 * 4294967296 + y0
  v0 : 0 ≤ v ∧ v < 4294967296
  y1b : 2147483648 ≤ y1 ∧ y1 < 4294967296
  y0b : 0 ≤ y0 ∧ y0 < 4294967296
def hq (U v y1 y0 : Int) : Int := (U * 4294967296 + v) / (y1 * 4294967296 + y0)
section
variable {U v y1 y0 q r : Int}
theorem Half.Y0 (h : Half U v y1 y0) : 0 < y1 * 4294967296 + y0 := by have := h.y1b; have := h.y0b; omega
theorem Half.hq0 (h : Half U v y1 y0) : 0 ≤ hq U v y1 y0 := Int.ediv_nonneg (by have := h.U0; have := h.v0; omega) (Int.le_of_lt h.Y0)
theorem Half.mul (h : Half U v y1 y0) : hq U v y1 y0 * y1 * 4294967296 + hq U v y1 y0 * y0 ≤ U * 4294967296 + v ∧ U * 4294967296 + v < hq U v y1 y0 * y1 * 4294967296 + hq U v y1 y0 * y0 + (y1 * 4294967296 + y0) := by
  have h1 := Int.mul_ediv_self_le (x := U * 4294967296 + v) (k := y1 * 4294967296 + y0) (by have := h.Y0; omega)
  have h2 := Int.lt_mul_ediv_self_add (x := U * 4294967296 + v) (k := y1 * 4294967296 + y0) h.Y0
  have e : (y1 * 4294967296 + y0) * hq U v y1 y0 = hq U v y1 y0 * y1 * 4294967296 + hq U v y1 y0 * y0 := by
    rw [Int.mul_comm, Int.mul_add, Int.mul_assoc]
  unfold hq at e ⊢
  rw [e] at h1 h2
  exact ⟨h1, h2⟩
theorem Half.ltB (h : Half U v y1 y0) : hq U v y1 y0 < 4294967296 := by
  have := h.v0
  have := h.Ult
  exact Int.ediv_lt_of_lt_mul h.Y0 (by omega)
/-- The numeral that is tried is not too small (so far). -/
structure Try2 (U v y1 y0 q r : Int) : Prop where
  eq : q * y1 + r = U
  q0 : hq U v y1 y0 ≤ q
  qB : q ≤ 4294967297
  r0 : 0 ≤ r ∧ r < 4294967296
theorem Half.first (h : Half U v y1 y0) : Try2 U v y1 y0 (U / y1) (U - U / y1 * y1) := by
  have b1 := h.y1b
  have b0 := h.y0b
  have bv := h.v0
  have bU := h.Ult
  have h1 := Int.mul_ediv_self_le (x := U) (k := y1) (by omega)
  have h2 := Int.lt_mul_ediv_self_add (x := U) (k := y1) (by omega)
  rw [Int.mul_comm] at h1 h2
  have hm := h.mul
  have hq0 := h.hq0
  refine ⟨by omega, ?_, ?_, by omega⟩
  · refine Classical.byContradiction fun hn => ?_
    have h3 : (U / y1 + 1) * y1 ≤ hq U v y1 y0 * y1 := Int.mul_le_mul_of_nonneg_right (by omega) (by omega)
    rw [Int.add_mul, Int.one_mul] at h3
    have h4 : 0 ≤ hq U v y1 y0 * y0 := Int.mul_nonneg hq0 b0.1
    omega
  · refine Classical.byContradiction fun hn => ?_
    have h3 : 4294967298 * y1 ≤ U / y1 * y1 := Int.mul_le_mul_of_nonneg_right (by omega) (by omega)
    omega
theorem Half.less (h : Half U v y1 y0) (t : q * y1 + r = U) (hq_ : hq U v y1 y0 ≤ q) (hc : 4294967296 ≤ q ∨ 4294967296 * r + v < q * y0) : hq U v y1 y0 ≤ q - 1 := by
  have hB := h.ltB
  rcases hc with hc | hc
  · omega
  · have hm := h.mul
    refine Classical.byContradiction fun hn => ?_
    have e : hq U v y1 y0 = q := by omega
    rw [e] at hm
    omega
theorem Half.done (h : Half U v y1 y0) (t : q * y1 + r = U) (hq_ : hq U v y1 y0 ≤ q) (hc : q * y0 ≤ 4294967296 * r + v) : q = hq U v y1 y0 := by
  have : q ≤ hq U v y1 y0 := by
    refine Int.le_ediv_of_mul_le h.Y0 ?_
    rw [Int.mul_add, ← Int.mul_assoc]
    omega
  omega
theorem Half.broke (h : Half U v y1 y0) (hqB : q ≤ 4294967296) (hr : 4294967296 ≤ r) : q * y0 ≤ 4294967296 * r + v := by
  have b0 := h.y0b
  have bv := h.v0
  have h1 : q * y0 ≤ 4294967296 * y0 := Int.mul_le_mul_of_nonneg_right hqB b0.1
  omega
/-- What is left over. -/
def hr (U v y1 y0 : Int) : Int := U * 4294967296 + v - hq U v y1 y0 * (y1 * 4294967296 + y0)
theorem Half.hrb (h : Half U v y1 y0) : 0 ≤ hr U v y1 y0 ∧ hr U v y1 y0 < y1 * 4294967296 + y0 := by
  have hm := h.mul
  unfold hr
  rw [Int.mul_add, ← Int.mul_assoc]
  omega
end
/-- Both halves one behind the other. -/
theorem two_halves {U v1 v0 y1 y0 : Int} (h : Half U v1 y1 y0) (g : Half (hr U v1 y1 y0) v0 y1 y0) :
    hq U v1 y1 y0 * 4294967296 + hq (hr U v1 y1 y0) v0 y1 y0 = (U * 18446744073709551616 + (v1 * 4294967296 + v0)) / (y1 * 4294967296 + y0) := by
  have e1 : hr (hr U v1 y1 y0) v0 y1 y0 = hr U v1 y1 y0 * 4294967296 + v0 - hq (hr U v1 y1 y0) v0 y1 y0 * (y1 * 4294967296 + y0) := rfl
  have e2 : hr U v1 y1 y0 = U * 4294967296 + v1 - hq U v1 y1 y0 * (y1 * 4294967296 + y0) := rfl
  have b := g.hrb
  have hY := h.Y0
  generalize hr (hr U v1 y1 y0) v0 y1 y0 = R at *
  generalize hq (hr U v1 y1 y0) v0 y1 y0 = q0 at *
  generalize hr U v1 y1 y0 = V at *
  generalize hq U v1 y1 y0 = q1 at *
  generalize y1 * 4294967296 + y0 = Y at *
  have e3 : U * 18446744073709551616 + (v1 * 4294967296 + v0) = R + (q1 * 4294967296 + q0) * Y := by
    rw [Int.add_mul, Int.mul_assoc, Int.mul_comm 4294967296 Y, ← Int.mul_assoc]
    omega
  rw [e3, Int.add_mul_ediv_right _ _ (by omega), Int.ediv_eq_zero_of_lt b.1 b.2]
  omega
end Go.Proofs.Ytlkemphhbamcfaa
