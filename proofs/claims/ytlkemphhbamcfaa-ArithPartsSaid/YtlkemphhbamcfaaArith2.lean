/-
  The walks of package arith: products, sums of lists, crosswise products.
-/
import Derived.Test.YtlkemphhbamcfaaArith
import Derived.Deep.RegionHeld
import Derived.Deep.DeepCutAuto
import Derived.Laws.StructEq
import Derived.KernelRfl
namespace Go.Proofs.Ytlkemphhbamcfaa
open Go.RowKit

/-- What 'signed' answers. -/
def sgnN (m : Bool) (u : Int) : Int := if m then -u else u
set_option maxHeartbeats 400000 in
theorem a_signed (m : Bool) (u : Int) (h0 : 0 ≤ u) (h1 : u ≤ 18446744073709551615) (w : World) :
    Calls Try.prog 66 #[.bool m, .int .u64 u] w fun e w' => e = .returned (.tuple #[.int .i64 (intN (sgnN m u)), .bool (intB (sgnN m u))]) ∧ w = w' := by
  unfold sgnN
  rcases m with _ | _
  · rcases Int.lt_or_le u 9223372036854775808 with h | h
    · have HT := hid (int_yes (v := u) (by omega))
      go_enter Try.func66, Try.ntmps66
      go_wp2
      go_ret2
      exact ⟨ret_ib HT.out.1.symm HT.out.2.symm, rfl⟩
    · have HT := hid (int_no (v := u) (by omega))
      go_enter Try.func66, Try.ntmps66
      go_wp2
      go_ret2
      exact ⟨ret_ib HT.out.1.symm HT.out.2.symm, rfl⟩
  · rcases Int.lt_or_le 9223372036854775808 u with h | h
    · have HT := hid (int_no (v := -u) (by omega))
      go_enter Try.func66, Try.ntmps66
      go_wp2
      go_ret2
      exact ⟨ret_ib HT.out.1.symm HT.out.2.symm, rfl⟩
    · have HT := hid (int_yes (v := -u) (by omega))
      have hw : wrap64 (IntKind.u64.wrap (-u)) = -u := by rw [← IntWalk.i64_left, IntKind.wrap_i64, IntKind.wrap_u64]; omega
      have HW := hid hw
      clear hw
      go_enter Try.func66, Try.ntmps66
      go_wp2
      go_ret2
      refine ⟨ret_ib ?_ HT.out.2.symm, rfl⟩
      rw [HW.out, HT.out.1]

theorem abs_mul (a b : Int) : (a.natAbs * b.natAbs : Nat) = (a * b).natAbs := (Int.natAbs_mul a b).symm
theorem mul_sign {a b : Int} : sgnN ((decide (a < 0) != decide (b < 0)) && ((a * b).natAbs : Int) != 0) ((a * b).natAbs : Int) = a * b := by
  unfold sgnN
  rcases Int.lt_trichotomy a 0 with ha | ha | ha <;> rcases Int.lt_trichotomy b 0 with hb | hb | hb
  all_goals first
    | (subst ha; simp)
    | (subst hb; simp)
    | skip
  · have := Int.mul_pos_of_neg_of_neg ha hb
    simp [ha, hb]; omega
  · have := Int.mul_neg_of_neg_of_pos ha hb
    have h2 : ¬ b < 0 := by omega
    have h3 : a * b ≠ 0 := by omega
    simp only [ha, h2, decide_true, decide_false]
    rw [show ((true != false) && ((a * b).natAbs : Int) != 0) = true by simp; omega]
    simp; omega
  · have := Int.mul_neg_of_pos_of_neg ha hb
    have h2 : ¬ a < 0 := by omega
    have h3 : a * b ≠ 0 := by omega
    simp only [hb, h2, decide_true, decide_false]
    rw [show ((false != true) && ((a * b).natAbs : Int) != 0) = true by simp; omega]
    simp; omega
  · have := Int.mul_pos ha hb
    have h2 : ¬ a < 0 := by omega
    have h4 : ¬ b < 0 := by omega
    simp [h2, h4]; omega

set_option maxHeartbeats 400000 in
theorem a_mul (a b : Int) (a0 : -9223372036854775808 ≤ a) (a1 : a ≤ 9223372036854775807) (b0 : -9223372036854775808 ≤ b) (b1 : b ≤ 9223372036854775807) (w : World) :
    Calls Try.prog 31 #[.int .i64 a, .int .i64 b] w fun e w' => e = .returned (.tuple #[.int .i64 (intN (a * b)), .bool (intB (a * b))]) ∧ w = w' := by
  have hm := Try.bits_Mul64 a.natAbs b.natAbs (by omega) (by omega) w
  rw [abs_mul] at hm
  have HS := hid (mul_sign (a := a) (b := b))
  generalize hp : (a * b).natAbs = p at *
  have HP := hid hp
  clear hp
  rcases Nat.lt_or_ge p 18446744073709551616 with h | h
  · have e1 : p / 18446744073709551616 = 0 := Nat.div_eq_of_lt h
    have e2 : p % 18446744073709551616 = p := Nat.mod_eq_of_lt h
    rw [e1, e2] at hm
    clear e1 e2
    go_enter Try.func31, Try.ntmps31
    go_wp2_with (first | (go_at_call_of 62 (Value.int IntKind.i64 a); refine (a_size a a0 a1 _).mono ?_; rintro e w' ⟨rfl, rfl⟩) | (go_at_call_of 62 (Value.int IntKind.i64 b); refine (a_size b b0 b1 _).mono ?_; rintro e w' ⟨rfl, rfl⟩) | (go_at_call 65; refine hm.mono ?_; rintro e w' ⟨rfl, rfl⟩) | (go_at_call 66; refine (a_signed _ (p : Int) (by omega) (by omega) _).mono ?_; rintro e w' ⟨rfl, rfl⟩))
    · rename_i hs
      have h2 := HS.out
      have hx : (decide (a < 0) != decide (b < 0)) = false := by simp [hs]
      rw [hx, Bool.false_and] at h2
      go_ret2
      exact ⟨ret_ib (by rw [h2]) (by rw [h2]), rfl⟩
    · rename_i hs
      have h2 := HS.out
      have hx : (decide (a < 0) != decide (b < 0)) = (!decide (a < 0) == decide (b < 0)) := by cases decide (a < 0) <;> cases decide (b < 0) <;> rfl
      rw [hx] at h2
      go_ret2
      exact ⟨ret_ib (by rw [h2]) (by rw [h2]), rfl⟩
  · have hn := HP.out
    have HN := hid (int_no (v := a * b) (by omega))
    have ht : (((p / 18446744073709551616 : Nat) : Int) != 0) = true := by
      have : 0 < p / 18446744073709551616 := Nat.div_pos h (by decide)
      simp; omega
    clear hn
    generalize p / 18446744073709551616 = q at *
    generalize p % 18446744073709551616 = r at *
    go_enter Try.func31, Try.ntmps31
    go_wp2_with (first | (go_at_call_of 62 (Value.int IntKind.i64 a); refine (a_size a a0 a1 _).mono ?_; rintro e w' ⟨rfl, rfl⟩) | (go_at_call_of 62 (Value.int IntKind.i64 b); refine (a_size b b0 b1 _).mono ?_; rintro e w' ⟨rfl, rfl⟩) | (go_at_call 65; refine hm.mono ?_; rintro e w' ⟨rfl, rfl⟩))
    go_ret2
    exact ⟨ret_ib HN.out.1.symm HN.out.2.symm, rfl⟩

/-- Go's greatest divisor of both, by Euclid's rule. -/
theorem gcd_step (x y g : Nat) (h : Nat.gcd x y = g) : Nat.gcd y (x % y) = g := by
  rw [← h, Nat.gcd_comm x y, Nat.gcd_rec y x, Nat.gcd_comm]
set_option maxHeartbeats 400000 in
theorem a_gcd (a b : Int) (a0 : -9223372036854775808 ≤ a) (a1 : a ≤ 9223372036854775807) (b0 : -9223372036854775808 ≤ b) (b1 : b ≤ 9223372036854775807) (w : World) :
    Calls Try.prog 24 #[.int .i64 a, .int .i64 b] w fun e w' => e = .returned (.int .i64 (intN (Int.gcd a b : Int))) ∧ Below w.heap.size w w' := by
  have hg : Nat.gcd a.natAbs b.natAbs = Int.gcd a b := rfl
  have ha : a.natAbs ≤ 9223372036854775808 := by omega
  have hb : b.natAbs ≤ 9223372036854775808 := by omega
  have HG := hid hg; have HA := hid ha; have HB := hid hb
  clear hg ha hb
  go_enter Try.func24, Try.ntmps24
  go_wp2_with (first | (go_at_call_of 62 (Value.int IntKind.i64 a); refine (a_size a a0 a1 _).mono ?_; rintro e w' ⟨rfl, rfl⟩) | (go_at_call_of 62 (Value.int IntKind.i64 b); refine (a_size b b0 b1 _).mono ?_; rintro e w' ⟨rfl, rfl⟩))
  go_loopw [5, 6] (fun u v W => ∃ x y : Nat, u = .int .u64 x ∧ v = .int .u64 y ∧ Nat.gcd x y = Int.gcd a b ∧ x ≤ 9223372036854775808 ∧ y ≤ 9223372036854775808 ∧ Below w.heap.size w W)
    (fun _ v _ => (intOf v).toNat)
  case atStart => exact ⟨a.natAbs, b.natAbs, rfl, rfl, HG.out, HA.out, HB.out, Below.refl _ _⟩
  case round =>
    obtain ⟨x, y, rfl, rfl, hxy, hx, hy, hw⟩ := hrel
    have HX := hid hxy; have HW := hid hw
    clear hxy hw
    rcases Nat.eq_zero_or_pos y with h0 | h0
    · subst h0
      rcases Nat.lt_or_ge x 9223372036854775808 with h | h
      · go_wp2
        go_ret
        have := HX.out
        rw [Nat.gcd_zero_right] at this
        refine ⟨ret_i64 ?_, HW.out⟩
        rw [← this, (int_yes (v := (x : Int)) (by omega)).1]
      · go_wp2
        go_ret
        have := HX.out
        rw [Nat.gcd_zero_right] at this
        refine ⟨ret_i64 ?_, HW.out⟩
        rw [← this, (int_no (v := (x : Int)) (by omega)).1]
    · have ht : ((y : Int) != 0) = true := by simp; omega
      go_wp2
      go_quiet (fail)
      go_wp2
      go_roundw
      case rel =>
        have hlt := Nat.mod_lt x h0
        exact ⟨y, x % y, rfl, by rw [Int.natCast_emod], gcd_step x y _ HX.out, hy, by omega, bdrewN HW.out _⟩
      case measure =>
        have hlt := Nat.mod_lt x h0
        simp [intOf]
        rw [← Int.natCast_emod]; omega

end Go.Proofs.Ytlkemphhbamcfaa
