/-
  The walks of package arith: products, sums of lists, crosswise products.
-/
import Derived.Test.YtphpbdnmdhlnoaaArith
import Derived.Deep.RegionHeld
import Derived.Deep.DeepCutAuto
import Derived.Laws.StructEq
import Derived.KernelRfl
namespace Go.Proofs.Ytphpbdnmdhlnoaa
open Go.RowKit

/-- What 'signed' answers. -/
def sgnN (m : Bool) (u : Int) : Int := if m then -u else u
theorem abs_mul (a b : Int) : (a.natAbs * b.natAbs : Nat) = (a * b).natAbs := (Int.natAbs_mul a b).symm
theorem mul_sign {a b : Int} : sgnN ((decide (a < 0) != decide (b < 0)) && ((a * b).natAbs : Int) != 0) ((a * b).natAbs : Int) = a * b := by
  unfold sgnN
  rcases Int.lt_trichotomy a 0 with ha | ha | ha <;> rcases Int.lt_trichotomy b 0 with hb | hb | hb
  all_goals first
    | (subst ha; simp)
    | (subst hb; simp)
    | skip
  · have := Int.mul_pos_of_neg_of_neg ha hb
    simp [ha, hb]; omega
  · have := Int.mul_neg_of_neg_of_pos ha hb
    have h2 : ¬ b < 0 := by omega
    have h3 : a * b ≠ 0 := by omega
    simp only [ha, h2, decide_true, decide_false]
    rw [show ((true != false) && ((a * b).natAbs : Int) != 0) = true by simp; omega]
    simp; omega
  · have := Int.mul_neg_of_pos_of_neg ha hb
    have h2 : ¬ a < 0 := by omega
    have h3 : a * b ≠ 0 := by omega
    simp only [hb, h2, decide_true, decide_false]
    rw [show ((false != true) && ((a * b).natAbs : Int) != 0) = true by simp; omega]
    simp; omega
  · have := Int.mul_pos ha hb
    have h2 : ¬ a < 0 := by omega
    have h4 : ¬ b < 0 := by omega
    simp [h2, h4]; omega

/-- Go's greatest divisor of both, by Euclid's rule. -/
theorem gcd_step (x y g : Nat) (h : Nat.gcd x y = g) : Nat.gcd y (x % y) = g := by
  rw [← h, Nat.gcd_comm x y, Nat.gcd_rec y x, Nat.gcd_comm]
end Go.Proofs.Ytphpbdnmdhlnoaa
