/-
  The walks of package arith: product, order, Cross.
-/
import Derived.Test.YtphpbdnmdhlnoaaArith3
import Derived.Laws.StructEq
namespace Go.Proofs.Ytphpbdnmdhlnoaa
open Go.RowKit

theorem abs_bd {a b : Int} (a0 : -9223372036854775808 ≤ a) (a1 : a ≤ 9223372036854775807) (b0 : -9223372036854775808 ≤ b) (b1 : b ≤ 9223372036854775807) : (a * b).natAbs ≤ 85070591730234615865843651857942052864 := by
  rw [Int.natAbs_mul]
  have h1 : a.natAbs ≤ 9223372036854775808 := by omega
  have h2 : b.natAbs ≤ 9223372036854775808 := by omega
  exact Nat.mul_le_mul h1 h2
theorem w_size (p : Nat) (h : p ≤ 85070591730234615865843651857942052864) : wHi (p : Int) = ((p / 18446744073709551616 : Nat) : Int) ∧ wLo (p : Int) = ((p % 18446744073709551616 : Nat) : Int) := by
  unfold wHi wLo; omega
theorem cmp_pos {v : Int} (h : 0 < v) : cmpI v = 1 := by unfold cmpI; rw [if_neg (by omega), if_neg (by omega)]
theorem cmp_neg {v : Int} (h : v < 0) : cmpI v = -1 := by unfold cmpI; rw [if_neg (by omega), if_pos h]
theorem cmp_zero : cmpI 0 = 0 := rfl

/-- What 'product' answers of a product: its sign, its size. -/
def prodV (v : Int) : Value := .tuple #[.int .i64 (cmpI v), .agg (wdA (v.natAbs : Int))]

set_option maxHeartbeats 400000 in
theorem prod_any (a b : Int) (a0 : -9223372036854775808 ≤ a) (a1 : a ≤ 9223372036854775807) (b0 : -9223372036854775808 ≤ b) (b1 : b ≤ 9223372036854775807) (w : World) :
    Calls Try.prog 37 #[.int .i64 a, .int .i64 b] w fun e w' => e = .returned (prodV (a * b)) ∧ Below w.heap.size w w' := by
  have hp := abs_bd a0 a1 b0 b1
  have hm := fun w => Try.bits_Mul64 a.natAbs b.natAbs (by omega) (by omega) w
  have hmul : a.natAbs * b.natAbs = (a * b).natAbs := abs_mul a b
  rw [hmul] at hm
  have hw := hid (w_size _ hp)
  clear hp hmul
  have hcase : (a = 0 ∨ b = 0) ∨ ((a < 0 ↔ b < 0) ∧ a ≠ 0 ∧ b ≠ 0) ∨ (¬ (a < 0 ↔ b < 0) ∧ a ≠ 0 ∧ b ≠ 0) := by omega
  rcases hcase with h | h | h
  · have hz : a * b = 0 := by rcases h with h | h <;> simp [h]
    rw [hz] at hw ⊢
    clear hz
    by_cases ha : a = 0
    · have t1 : (a == 0) = true := by simp [ha]
      clear ha h
      go_enter Try.func37, Try.ntmps37
      go_wp2_with (first | (go_at_call_of 43 (Value.int IntKind.i64 a); refine (a_size a a0 a1 _).mono ?_; rintro e w' ⟨rfl, rfl⟩) | (go_at_call_of 43 (Value.int IntKind.i64 b); refine (a_size b b0 b1 _).mono ?_; rintro e w' ⟨rfl, rfl⟩) | (go_at_call 42; refine (hm _).mono ?_; rintro e w' ⟨rfl, hww⟩; subst hww))
      refine bodyPost_ret (v := prodV 0) (by simp [results, Try.results37, go_sem, prodV, wdA, cmpI, wHi, wLo]) rfl ⟨rfl, ?_⟩
      exact (Below.refl _ _).alloc (Nat.le_refl _) _
    · have t1 : (a == 0) = false := by simp [ha]
      have t2 : (b == 0) = true := by simp; omega
      clear ha h
      go_enter Try.func37, Try.ntmps37
      go_wp2_with (first | (go_at_call_of 43 (Value.int IntKind.i64 a); refine (a_size a a0 a1 _).mono ?_; rintro e w' ⟨rfl, rfl⟩) | (go_at_call_of 43 (Value.int IntKind.i64 b); refine (a_size b b0 b1 _).mono ?_; rintro e w' ⟨rfl, rfl⟩) | (go_at_call 42; refine (hm _).mono ?_; rintro e w' ⟨rfl, hww⟩; subst hww))
      refine bodyPost_ret (v := prodV 0) (by simp [results, Try.results37, go_sem, prodV, wdA, cmpI, wHi, wLo]) rfl ⟨rfl, ?_⟩
      exact (Below.refl _ _).alloc (Nat.le_refl _) _
  · have t1 : (a == 0) = false := by simp; omega
    have t2 : (b == 0) = false := by simp; omega
    have t3 : (decide (a < 0) != decide (b < 0)) = false := by simp [h.1]
    have hs : cmpI (a * b) = 1 := by
      rcases Int.lt_or_le a 0 with g | g
      · exact cmp_pos (Int.mul_pos_of_neg_of_neg g (h.1.1 g))
      · exact cmp_pos (Int.mul_pos (by omega) (by omega))
    have HS := hid hs
    have hiff := h.1
    clear hs h
    go_enter Try.func37, Try.ntmps37
    go_wp2_with (first | (go_at_call_of 43 (Value.int IntKind.i64 a); refine (a_size a a0 a1 _).mono ?_; rintro e w' ⟨rfl, rfl⟩) | (go_at_call_of 43 (Value.int IntKind.i64 b); refine (a_size b b0 b1 _).mono ?_; rintro e w' ⟨rfl, rfl⟩) | (go_at_call 42; refine (hm _).mono ?_; rintro e w' ⟨rfl, hww⟩; subst hww))
    refine bodyPost_ret (v := prodV (a * b)) (by simp [results, Try.results37, go_sem, prodV, wdA, hw.out.1, hw.out.2, HS.out]) rfl ⟨rfl, ?_⟩
    exact (Below.refl _ _).alloc (Nat.le_refl _) _
  · have t1 : (a == 0) = false := by simp; omega
    have t2 : (b == 0) = false := by simp; omega
    have hs : cmpI (a * b) = -1 := by
      rcases Int.lt_or_le a 0 with g | g
      · exact cmp_neg (Int.mul_neg_of_neg_of_pos g (by omega))
      · exact cmp_neg (Int.mul_neg_of_pos_of_neg (by omega) (by omega))
    have t3 : (!decide (a < 0) == decide (b < 0)) = true := by
      have := h.1
      by_cases g : a < 0 <;> by_cases g2 : b < 0 <;> simp [g, g2] at this ⊢
    have HS := hid hs
    have hiff := h.1
    clear hs h
    go_enter Try.func37, Try.ntmps37
    go_wp2_with (first | (go_at_call_of 43 (Value.int IntKind.i64 a); refine (a_size a a0 a1 _).mono ?_; rintro e w' ⟨rfl, rfl⟩) | (go_at_call_of 43 (Value.int IntKind.i64 b); refine (a_size b b0 b1 _).mono ?_; rintro e w' ⟨rfl, rfl⟩) | (go_at_call 42; refine (hm _).mono ?_; rintro e w' ⟨rfl, hww⟩; subst hww))
    refine bodyPost_ret (v := prodV (a * b)) (by simp [results, Try.results37, go_sem, prodV, wdA, hw.out.1, hw.out.2, HS.out]) rfl ⟨rfl, ?_⟩
    exact (Below.refl _ _).alloc (Nat.le_refl _) _

/-- '==' of two numbers of 128 bits. -/
theorem eq_wide (a b c d : Int) (w : World) : (Op.equalIn 10000 51 (.agg #[.int .u64 a, .int .u64 b]) (.agg #[.int .u64 c, .int .u64 d])).run Try.prog w = .ok (a == c && b == d) w := by
  have u3 := Try.underlying49
  have q3 := Try.isAgg49
  have z3 := Try.sizeOf49
  have hS : Try.prog.underlying 51 = some (.struct (Try.prog.fieldsOf 51)) := by kernel_rfl
  have hp : Try.prog.stoodInHeld 51 = false := by kernel_rfl
  rw [show (10000 : Nat) = 9999 + 1 from rfl, run_equalIn_agg w 9999 51 _ _ hS hp]
  simp only [Program.fieldsOf, Try.underlying51]
  go_simp
  by_cases h1 : a = c <;> by_cases h2 : b = d <;> simp [h1, h2]

set_option maxHeartbeats 800000 in
theorem order_any (p q : Nat) (hp : p ≤ 85070591730234615865843651857942052864) (hq : q ≤ 85070591730234615865843651857942052864) (w : World) :
    Calls Try.prog 38 #[.agg (wdA (p : Int)), .agg (wdA (q : Int))] w fun e w' => e = .returned (.int .i64 (cmpI ((p : Int) - q))) ∧ Below w.heap.size w w' := by
  have ep := w_size p hp
  have eq := w_size q hq
  unfold wdA
  rw [ep.1, ep.2, eq.1, eq.2]
  clear ep eq
  have hpe := Nat.div_add_mod p 18446744073709551616
  have hqe := Nat.div_add_mod q 18446744073709551616
  have hpm := Nat.mod_lt p (show 18446744073709551616 > 0 by decide)
  have hqm := Nat.mod_lt q (show 18446744073709551616 > 0 by decide)
  clear hp hq
  generalize p / 18446744073709551616 = ph at *
  generalize p % 18446744073709551616 = pl at *
  generalize q / 18446744073709551616 = qh at *
  generalize q % 18446744073709551616 = ql at *
  have HP := hid hpe
  have HQ := hid hqe
  have HPM := hid hpm
  have HQM := hid hqm
  clear hpe hqe hpm hqm
  have he := fun w => eq_wide (ph : Int) (pl : Int) (qh : Int) (ql : Int) w
  by_cases h1 : ph = qh ∧ pl = ql
  · have hx : ((ph : Int) == (qh : Int) && (pl : Int) == (ql : Int)) = true := by simp; omega
    rw [hx] at he
    have H1 := hid h1
    clear hx h1
    go_enter Try.func38, Try.ntmps38
    go_wp2
    go_ret
    have g1 := H1.out; have g2 := HP.out; have g3 := HQ.out
    refine ⟨ret_i64 ?_, ((Below.refl _ _).alloc (Nat.le_refl _) _).alloc (by simp) _⟩
    rw [show (p : Int) - q = 0 by rw [g1.1, g1.2] at g2; omega]; rfl
  · have hx : ((ph : Int) == (qh : Int) && (pl : Int) == (ql : Int)) = false := by
      rw [Bool.eq_false_iff]; intro g; apply h1; simp at g; omega
    rw [hx] at he
    clear hx
    rcases Nat.lt_trichotomy ph qh with h | h | h
    · have H := hid h
      have hlt : (ph : Int) < qh := by omega
      clear h h1
      go_enter Try.func38, Try.ntmps38
      go_wp2
      go_ret
      have g1 := H.out; have g2 := HP.out; have g3 := HQ.out; have g4 := HPM.out; have g5 := HQM.out
      exact ⟨ret_i64 (cmp_neg (by omega)).symm, ((Below.refl _ _).alloc (Nat.le_refl _) _).alloc (by simp) _⟩
    · have H := hid h
      have hb1 : ¬ (ph : Int) < qh := by omega
      have hb2 : ((ph : Int) == qh) = true := by simp; omega
      rcases Nat.lt_or_ge pl ql with h3 | h3
      · have H3 := hid h3
        have hlt : (pl : Int) < ql := by omega
        clear h h1 h3
        go_enter Try.func38, Try.ntmps38
        go_wp2
        go_ret
        have g1 := H.out; have g2 := HP.out; have g3 := HQ.out; have g4 := H3.out
        exact ⟨ret_i64 (cmp_neg (by rw [g1] at g2; omega)).symm, ((Below.refl _ _).alloc (Nat.le_refl _) _).alloc (by simp) _⟩
      · have H3 := hid (show ql < pl by omega)
        have hlt : ¬ (pl : Int) < ql := by omega
        clear h h1 h3
        go_enter Try.func38, Try.ntmps38
        go_wp2
        go_ret
        have g1 := H.out; have g2 := HP.out; have g3 := HQ.out; have g4 := H3.out
        exact ⟨ret_i64 (cmp_pos (by rw [g1] at g2; omega)).symm, ((Below.refl _ _).alloc (Nat.le_refl _) _).alloc (by simp) _⟩
    · have H := hid h
      have hlt : ¬ (ph : Int) < qh := by omega
      have hb2 : ((ph : Int) == qh) = false := by simp; omega
      clear h h1
      go_enter Try.func38, Try.ntmps38
      go_wp2
      go_ret
      have g1 := H.out; have g2 := HP.out; have g3 := HQ.out; have g4 := HPM.out; have g5 := HQM.out
      exact ⟨ret_i64 (cmp_pos (by omega)).symm, ((Below.refl _ _).alloc (Nat.le_refl _) _).alloc (by simp) _⟩

theorem cmp_bd (v : Int) : -1 ≤ cmpI v ∧ cmpI v ≤ 1 := by unfold cmpI; split <;> (try split) <;> omega
theorem cmp_opp (v : Int) : cmpI (-v) = - cmpI v := by unfold cmpI; split <;> (try split) <;> (try split) <;> omega

/-- Cross at two products whose signs are s and t. -/
def CrossAt (x y : Int) (w : World) (e : Ending) (w' : World) : Prop := e = .returned (.int .i64 (cmpI (x - y))) ∧ Below w.heap.size w w'
theorem prod_sign (a b s : Int) (a0 : -9223372036854775808 ≤ a) (a1 : a ≤ 9223372036854775807) (b0 : -9223372036854775808 ≤ b) (b1 : b ≤ 9223372036854775807) (hs : cmpI (a * b) = s) (w : World) :
    Calls Try.prog 37 #[.int .i64 a, .int .i64 b] w fun e w' => e = .returned (.tuple #[.int .i64 s, .agg (wdA ((a * b).natAbs : Int))]) ∧ Below w.heap.size w w' := by
  have := prod_any a b a0 a1 b0 b1 w
  unfold prodV at this
  rw [hs] at this
  exact this

set_option maxHeartbeats 800000 in
theorem cross_lt (a b c d s t : Int) (a0 : -9223372036854775808 ≤ a) (a1 : a ≤ 9223372036854775807) (b0 : -9223372036854775808 ≤ b) (b1 : b ≤ 9223372036854775807)
    (c0 : -9223372036854775808 ≤ c) (c1 : c ≤ 9223372036854775807) (d0 : -9223372036854775808 ≤ d) (d1 : d ≤ 9223372036854775807)
    (hs : cmpI (a * b) = s) (ht : cmpI (c * d) = t) (h : s < t ∨ t < s) (w : World) :
    Calls Try.prog 29 #[.int .i64 a, .int .i64 b, .int .i64 c, .int .i64 d] w (CrossAt (a * b) (c * d) w) := by
  have h1 := prod_sign a b s a0 a1 b0 b1 hs
  have h2 := prod_sign c d t c0 c1 d0 d1 ht
  have hres : cmpI (a * b - c * d) = if s < t then -1 else 1 := by
    unfold cmpI at hs ht ⊢
    generalize a * b = x at *
    generalize c * d = y at *
    split at hs <;> (try split at hs) <;> split at ht <;> (try split at ht) <;> subst hs <;> subst ht <;> simp at h ⊢ <;> (try split) <;> (try split) <;> omega
  have HR := hid hres
  have bs := cmp_bd (a * b)
  have bt := cmp_bd (c * d)
  rw [hs] at bs
  rw [ht] at bt
  have H1 := hid h1
  have H2 := hid h2
  clear h1 h2 hres hs ht
  rcases h with h | h
  all_goals
    go_enter Try.func29, Try.ntmps29
    go_wp2_with fail
    refine (H1.out _).mono ?_
    rintro e w1 ⟨rfl, hb1⟩
    unfold wdA
    obtain ⟨hc1, hf1⟩ := bcell hb1
    have HB1 := hid hb1
    clear hb1
    go_wp2_with fail
    refine (H2.out _).mono ?_
    rintro e w2 ⟨rfl, hb2⟩
    unfold wdA
    have HB2 := hid hb2
    clear hb2
    go_wp2_with fail
    go_ret
    refine ⟨ret_i64 ?_, ?_⟩
    · rw [HR.out]; first | rw [if_pos h] | rw [if_neg (by omega)]
    · have z1 := HB1.out.size
      have z2 := HB2.out.size
      simp at z2
      exact (((HB1.out.alloc z1 _).trans (HB2.out.mono (by simp; omega))).alloc (by omega) _)

theorem same_sign {x y s : Int} (hx : cmpI x = s) (hy : cmpI y = s) : cmpI (x - y) = s * cmpI ((x.natAbs : Int) - y.natAbs) := by
  rcases Int.lt_trichotomy x 0 with h | h | h
  · rw [cmp_neg h] at hx
    subst hx
    have : y < 0 := by
      rcases Int.lt_trichotomy y 0 with g | g | g
      · exact g
      · subst g; simp [cmpI] at hy
      · rw [cmp_pos g] at hy; omega
    rw [show x - y = -((x.natAbs : Int) - y.natAbs) by omega, cmp_opp]; omega
  · subst h
    rw [cmp_zero] at hx
    subst hx
    have : y = 0 := by
      rcases Int.lt_trichotomy y 0 with g | g | g
      · rw [cmp_neg g] at hy; omega
      · exact g
      · rw [cmp_pos g] at hy; omega
    subst this; rfl
  · rw [cmp_pos h] at hx
    subst hx
    have : 0 < y := by
      rcases Int.lt_trichotomy y 0 with g | g | g
      · rw [cmp_neg g] at hy; omega
      · subst g; simp [cmpI] at hy
      · exact g
    rw [show x - y = ((x.natAbs : Int) - y.natAbs) by omega]; omega

set_option maxHeartbeats 800000 in
theorem cross_eq (a b c d s : Int) (a0 : -9223372036854775808 ≤ a) (a1 : a ≤ 9223372036854775807) (b0 : -9223372036854775808 ≤ b) (b1 : b ≤ 9223372036854775807)
    (c0 : -9223372036854775808 ≤ c) (c1 : c ≤ 9223372036854775807) (d0 : -9223372036854775808 ≤ d) (d1 : d ≤ 9223372036854775807)
    (hs : cmpI (a * b) = s) (ht : cmpI (c * d) = s) (w : World) :
    Calls Try.prog 29 #[.int .i64 a, .int .i64 b, .int .i64 c, .int .i64 d] w (CrossAt (a * b) (c * d) w) := by
  have h1 := prod_sign a b s a0 a1 b0 b1 hs
  have h2 := prod_sign c d s c0 c1 d0 d1 ht
  have hres := same_sign hs ht
  have h3 := order_any (a * b).natAbs (c * d).natAbs (abs_bd a0 a1 b0 b1) (abs_bd c0 c1 d0 d1)
  have hr := cmp_bd (((a * b).natAbs : Int) - (c * d).natAbs)
  have bs := cmp_bd (a * b)
  rw [hs] at bs
  have HR := hid hres
  have H1 := hid h1
  have H2 := hid h2
  have H3 := hid h3
  clear h1 h2 hres hs ht h3
  have hs3 : s = -1 ∨ s = 0 ∨ s = 1 := by omega
  generalize cmpI (((a * b).natAbs : Int) - (c * d).natAbs) = r at *
  rcases hs3 with rfl | rfl | rfl
  all_goals
    go_enter Try.func29, Try.ntmps29
    go_wp2_with fail
    refine (H1.out _).mono ?_
    rintro e w1 ⟨rfl, hb1⟩
    unfold wdA
    obtain ⟨hc1, hf1⟩ := bcell hb1
    have z1 := hb1.size
    have HB1 := hid hb1
    clear hb1
    go_wp2_with fail
    refine (H2.out _).mono ?_
    rintro e w2 ⟨rfl, hb2⟩
    unfold wdA
    obtain ⟨hc2, hf2⟩ := bcell hb2
    have z2 := hb2.size
    simp at z2
    have z3 : w1.heap.size < w2.heap.size := by omega
    have HB2 := hid hb2
    clear hb2
    go_wp2_with fail
    refine (H3.out _).mono ?_
    rintro e w3 ⟨rfl, hb3⟩
    have HB3 := hid hb3
    clear hb3
    go_wp2_with fail
    go_ret
    refine ⟨ret_i64 (by rw [HR.out]; omega), ?_⟩
    have hB2 := ((HB1.out.alloc z1 _).trans (HB2.out.mono (by simp; omega))).alloc (by omega) (.cells #[.int .u64 (wHi ((c * d).natAbs : Int)), .int .u64 (wLo ((c * d).natAbs : Int))] 51)
    exact hB2.trans (HB3.out.mono (by simp; omega))

theorem cross_any (a b c d : Int) (a0 : -9223372036854775808 ≤ a) (a1 : a ≤ 9223372036854775807) (b0 : -9223372036854775808 ≤ b) (b1 : b ≤ 9223372036854775807)
    (c0 : -9223372036854775808 ≤ c) (c1 : c ≤ 9223372036854775807) (d0 : -9223372036854775808 ≤ d) (d1 : d ≤ 9223372036854775807) (w : World) :
    Calls Try.prog 29 #[.int .i64 a, .int .i64 b, .int .i64 c, .int .i64 d] w (CrossAt (a * b) (c * d) w) := by
  by_cases h : cmpI (a * b) = cmpI (c * d)
  · exact cross_eq a b c d _ a0 a1 b0 b1 c0 c1 d0 d1 rfl h.symm w
  · exact cross_lt a b c d _ _ a0 a1 b0 b1 c0 c1 d0 d1 rfl rfl (by omega) w

end Go.Proofs.Ytphpbdnmdhlnoaa
