/-
  The walks of kurganref01.Int and kurganref01.Mul.
-/
import Derived.Test.YtlkemphhbamcfaaRef01s1
import Derived.Test.YtlkemphhbamcfaaRef01s2
import Derived.Test.YtlkemphhbamcfaaRef01s3
import Derived.Test.YtlkemphhbamcfaaRef01s4
import Derived.Laws.StructEq
import Derived.KernelRfl
namespace Go.Proofs.Ytlkemphhbamcfaa
open Go.RowKit
attribute [local go_sem ↓] Go.wp_at_zero Go.wp_at_succ

theorem ite_ok (a b : Int) (p : Bool) (w : World) : (if a = b then Result.ok p w else Result.ok false w) = Result.ok (a == b && p) w := by
  by_cases h : a = b <;> simp [h]
theorem eq_nine (a0 a1 a2 a3 a4 a5 a6 a7 a8 b0 b1 b2 b3 b4 b5 b6 b7 b8 : Int) (w : World) :
   (Op.equalIn 10000 30 (.agg #[.int .i64 a0, .int .i64 a1, .int .i64 a2, .int .i64 a3, .int .i64 a4, .int .i64 a5, .int .i64 a6, .int .i64 a7, .int .i64 a8]) (.agg #[.int .i64 b0, .int .i64 b1, .int .i64 b2, .int .i64 b3, .int .i64 b4, .int .i64 b5, .int .i64 b6, .int .i64 b7, .int .i64 b8])).run Try.prog w =
     .ok (a0 == b0 && (a1 == b1 && (a2 == b2 && (a3 == b3 && (a4 == b4 && (a5 == b5 && (a6 == b6 && (a7 == b7 && a8 == b8)))))))) w := by
  have u3 := Try.underlying3
  have q3 := Try.isAgg3
  have z3 := Try.sizeOf3
  rw [show (10000 : Nat) = 9999 + 1 from rfl, Op.equalIn]
  simp only [Sem.run_bind, run_underlying Try.underlying30, Result.andThen_ok]
  simp only [Std.Legacy.Range.forIn_eq_forIn_range', Std.Legacy.Range.size, Nat.sub_zero, Nat.add_sub_cancel, Nat.div_one, List.range'_succ, List.range'_zero, List.forIn_cons, List.forIn_nil]
  go_simp
  simp only [ite_ok, Bool.and_true]
/-- Two sizes by their parts: told by one truth. -/
theorem eq_sizes (m n : Nat) (hm : Two200 m) (hn : Two200 n) (w : World) :
   (Op.equalIn 10000 30 (.agg #[.int .i64 (dg m 0), .int .i64 (dg m 1), .int .i64 (dg m 2), .int .i64 (dg m 3), .int .i64 (dg m 4), .int .i64 (dg m 5), .int .i64 (dg m 6), .int .i64 (dg m 7), .int .i64 (dg m 8)])
     (.agg #[.int .i64 (dg n 0), .int .i64 (dg n 1), .int .i64 (dg n 2), .int .i64 (dg n 3), .int .i64 (dg n 4), .int .i64 (dg n 5), .int .i64 (dg n 6), .int .i64 (dg n 7), .int .i64 (dg n 8)])).run Try.prog w = .ok (decide (m = n)) w := by
  rw [eq_nine]
  congr 1
  by_cases h : m = n
  · subst h; simp
  · simp only [h, decide_false]
    have : ¬ ∀ i, i < 9 → dg m i = dg n i := fun g => h (dg_ext m n hm hn g)
    rw [Bool.eq_false_iff]
    intro g
    simp only [Bool.and_eq_true, beq_iff_eq, Int.natCast_inj] at g
    apply this
    intro i hi
    obtain ⟨g0, g1, g2, g3, g4, g5, g6, g7, g8⟩ := g
    match i, hi with
    | 0, _ => exact g0
    | 1, _ => exact g1
    | 2, _ => exact g2
    | 3, _ => exact g3
    | 4, _ => exact g4
    | 5, _ => exact g5
    | 6, _ => exact g6
    | 7, _ => exact g7
    | 8, _ => exact g8
theorem dg_zero (i : Nat) : dg 0 i = 0 := by simp [dg]
theorem eq_zero_size (m : Nat) (hm : Two200 m) (w : World) :
   (Op.equalIn 10000 30 (.agg #[.int .i64 (dg m 0), .int .i64 (dg m 1), .int .i64 (dg m 2), .int .i64 (dg m 3), .int .i64 (dg m 4), .int .i64 (dg m 5), .int .i64 (dg m 6), .int .i64 (dg m 7), .int .i64 (dg m 8)])
     (.agg #[.int .i64 0, .int .i64 0, .int .i64 0, .int .i64 0, .int .i64 0, .int .i64 0, .int .i64 0, .int .i64 0, .int .i64 0])).run Try.prog w = .ok (decide (m = 0)) w := by
  have := eq_sizes m 0 hm (Nat.two_pow_pos _) w
  simpa only [dg_zero, Int.natCast_zero] using this
theorem dg_top (i : Nat) : dg 9223372036854775808 i = if i = 2 then 2 else 0 := by
  match i with
  | 0 => rfl
  | 1 => rfl
  | 2 => rfl
  | i + 3 => rw [dg_of_size _ _ (Nat.le_refl _) (by omega)]; simp
theorem eq_top_size (m : Nat) (hm : Two200 m) (w : World) :
   (Op.equalIn 10000 30 (.agg #[.int .i64 (dg m 0), .int .i64 (dg m 1), .int .i64 (dg m 2), .int .i64 (dg m 3), .int .i64 (dg m 4), .int .i64 (dg m 5), .int .i64 (dg m 6), .int .i64 (dg m 7), .int .i64 (dg m 8)])
     (.agg #[.int .i64 0, .int .i64 0, .int .i64 2, .int .i64 0, .int .i64 0, .int .i64 0, .int .i64 0, .int .i64 0, .int .i64 0])).run Try.prog w = .ok (decide (m = 9223372036854775808)) w := by
  have := eq_sizes m 9223372036854775808 hm (by unfold Two200; exact Nat.lt_of_lt_of_le (m := 2^64) (by decide) (Nat.pow_le_pow_right (by decide) (by decide))) w
  rw [dg_top 0, dg_top 1, dg_top 2, dg_top 3, dg_top 4, dg_top 5, dg_top 6, dg_top 7, dg_top 8] at this
  exact this

theorem eq_zero_false (m : Nat) (hm : Two200 m) (h : m ≠ 0) (w : World) :
   (Op.equalIn 10000 30 (.agg #[.int .i64 (dg m 0), .int .i64 (dg m 1), .int .i64 (dg m 2), .int .i64 (dg m 3), .int .i64 (dg m 4), .int .i64 (dg m 5), .int .i64 (dg m 6), .int .i64 (dg m 7), .int .i64 (dg m 8)]) (.agg #[.int .i64 0, .int .i64 0, .int .i64 0, .int .i64 0, .int .i64 0, .int .i64 0, .int .i64 0, .int .i64 0, .int .i64 0])).run Try.prog w = .ok false w := by
  rw [eq_zero_size m hm w]; congr 1; simp [h]
theorem eq_zero_true (m : Nat) (hm : Two200 m) (h : m = 0) (w : World) :
   (Op.equalIn 10000 30 (.agg #[.int .i64 (dg m 0), .int .i64 (dg m 1), .int .i64 (dg m 2), .int .i64 (dg m 3), .int .i64 (dg m 4), .int .i64 (dg m 5), .int .i64 (dg m 6), .int .i64 (dg m 7), .int .i64 (dg m 8)]) (.agg #[.int .i64 0, .int .i64 0, .int .i64 0, .int .i64 0, .int .i64 0, .int .i64 0, .int .i64 0, .int .i64 0, .int .i64 0])).run Try.prog w = .ok true w := by
  rw [eq_zero_size m hm w]; congr 1; simp [h]
theorem eq_top_false (m : Nat) (hm : Two200 m) (h : m ≠ 9223372036854775808) (w : World) :
   (Op.equalIn 10000 30 (.agg #[.int .i64 (dg m 0), .int .i64 (dg m 1), .int .i64 (dg m 2), .int .i64 (dg m 3), .int .i64 (dg m 4), .int .i64 (dg m 5), .int .i64 (dg m 6), .int .i64 (dg m 7), .int .i64 (dg m 8)]) (.agg #[.int .i64 0, .int .i64 0, .int .i64 2, .int .i64 0, .int .i64 0, .int .i64 0, .int .i64 0, .int .i64 0, .int .i64 0])).run Try.prog w = .ok false w := by
  rw [eq_top_size m hm w]; congr 1; simp [h]
theorem eq_top_true (m : Nat) (hm : Two200 m) (h : m = 9223372036854775808) (w : World) :
   (Op.equalIn 10000 30 (.agg #[.int .i64 (dg m 0), .int .i64 (dg m 1), .int .i64 (dg m 2), .int .i64 (dg m 3), .int .i64 (dg m 4), .int .i64 (dg m 5), .int .i64 (dg m 6), .int .i64 (dg m 7), .int .i64 (dg m 8)]) (.agg #[.int .i64 0, .int .i64 0, .int .i64 2, .int .i64 0, .int .i64 0, .int .i64 0, .int .i64 0, .int .i64 0, .int .i64 0])).run Try.prog w = .ok true w := by
  rw [eq_top_size m hm w]; congr 1; simp [h]

theorem top_two : Two200 9223372036854775808 := by unfold Two200; exact Nat.lt_of_lt_of_le (m := 2^64) (by decide) (Nat.pow_le_pow_right (by decide) (by decide))
theorem less_top (m : Nat) (hm : Two200 m) (w : World) :
    Calls Try.prog 58 #[.agg #[.int .i64 0, .int .i64 0, .int .i64 2, .int .i64 0, .int .i64 0, .int .i64 0, .int .i64 0, .int .i64 0, .int .i64 0], .agg #[.int .i64 (dg m 0), .int .i64 (dg m 1), .int .i64 (dg m 2), .int .i64 (dg m 3), .int .i64 (dg m 4), .int .i64 (dg m 5), .int .i64 (dg m 6), .int .i64 (dg m 7), .int .i64 (dg m 8)]] w
      fun e w' => e = .returned (.bool (decide (9223372036854775808 < m))) ∧ Below w.heap.size w w' := by
  have := less_any 9223372036854775808 m top_two hm w
  unfold bigA at this
  rw [dg_top 0, dg_top 1, dg_top 2, dg_top 3, dg_top 4, dg_top 5, dg_top 6, dg_top 7, dg_top 8] at this
  exact this

set_option maxHeartbeats 800000 in
theorem int_zero (s : Bool) (w : World)  :
    Calls Try.prog 26 #[.agg (sgA s 0)] w fun e w' => e = .returned (.tuple #[.int .i64 0, .bool true]) ∧ Below w.heap.size w w' := by
  have e0 := eq_zero_true 0 (Nat.two_pow_pos _) rfl
  unfold sgA
  go_enter Try.func26, Try.ntmps26
  go_wp2_with fail
  go_ret2
  exact ⟨rfl, ((Below.refl _ _).alloc (Nat.le_refl _) _).alloc (by simp) _⟩

theorem or_add (a b k : Nat) (h : a < 2^k) : a ||| b * 2^k = a + b * 2^k := by
  have := Nat.shiftLeft_add_eq_or_of_lt h b
  rw [Nat.shiftLeft_eq] at this
  rw [Nat.or_comm, ← this, Nat.add_comm]
theorem size_parts (m : Nat) (h : m ≤ 9223372036854775808) : m = dg m 0 + dg m 1 * 2147483648 + dg m 2 * 4611686018427387904 ∧ dg m 2 ≤ 2 := by
  have e0 : dg m 0 = m % 2147483648 := by simp [dg]
  have e1 : dg m 1 = m / 2147483648 % 2147483648 := rfl
  have e2 : dg m 2 = m / 4611686018427387904 % 2147483648 := rfl
  omega
theorem join_size (m : Nat) (h : m ≤ 9223372036854775808) :
    bits BinOp.or IntKind.u64 (bits BinOp.or IntKind.u64 (dg m 0 : Int) ((dg m 1 : Int) * 2147483648)) (IntKind.u64.wrap ((dg m 2 : Int) * 4611686018427387904)) = m := by
  obtain ⟨hm, h2⟩ := size_parts m h
  have h0 := dg_lt m 0
  have h1 := dg_lt m 1
  rw [IntWalk.u64_in _ ⟨by omega, by omega⟩]
  rw [show (dg m 1 : Int) * 2147483648 = ((dg m 1 * 2147483648 : Nat) : Int) by omega, bor_u64 _ _ (by omega) (by omega)]
  rw [show (2147483648 : Nat) = 2^31 from rfl, or_add _ _ 31 (by omega)]
  rw [show (dg m 2 : Int) * 4611686018427387904 = ((dg m 2 * 4611686018427387904 : Nat) : Int) by omega, bor_u64 _ _ (by omega) (by omega)]
  rw [show (4611686018427387904 : Nat) = 2^62 from rfl, or_add _ _ 62 (by omega)]
  congr 1
  omega

theorem int_rest {w : World} {s : Bool} {m : Nat} {w1 : World} {o : Obj} (hb : Below ((w.alloc (.cells (sgA s m) 32)).alloc o).heap.size ((w.alloc (.cells (sgA s m) 32)).alloc o) w1) :
    (∀ i, w1.cell? ⟨w.heap.size, i, none⟩ = (#[.bool s, .int .i64 (dg m 0), .int .i64 (dg m 1), .int .i64 (dg m 2), .int .i64 (dg m 3), .int .i64 (dg m 4), .int .i64 (dg m 5), .int .i64 (dg m 6), .int .i64 (dg m 7), .int .i64 (dg m 8)] : Array Value)[i]?) ∧ Below w.heap.size w w1 := by
  have h0 : blk ((w.alloc (.cells (sgA s m) 32)).alloc o) w.heap.size (sgA s m) 32 := (blk.new _ _ _).alloc _
  exact ⟨fun i => (h0.below hb (by simp; omega)).cell i, (((Below.refl _ _).alloc (Nat.le_refl _) _).alloc (by simp) _).trans (hb.mono (by simp; omega))⟩

set_option maxHeartbeats 800000 in
theorem int_big (s : Bool) (m : Nat) (hm : Two200 m) (hb : 9223372036854775808 < m) (w : World)  :
    Calls Try.prog 26 #[.agg (sgA s m)] w fun e w' => e = .returned (.tuple #[.int .i64 0, .bool false]) ∧ Below w.heap.size w w' := by
  have e0 := eq_zero_false m hm (by omega)
  have hd : decide (9223372036854775808 < m) = true := by simp; omega
  unfold sgA
  go_enter Try.func26, Try.ntmps26
  go_wp2_with fail
  refine (less_top m hm _).mono ?_
  rintro e w1 ⟨rfl, hb1⟩
  rw [hd]
  obtain ⟨c0, hB⟩ := int_rest (s := s) (m := m) hb1
  have HB := hid hB
  clear hB hb1 e0 hd hb
  go_wp2_with fail
  go_ret2
  exact ⟨rfl, HB.out⟩

set_option maxHeartbeats 800000 in
theorem int_pos (m : Nat) (h0 : 0 < m) (h1 : m < 9223372036854775808) (w : World)  :
    Calls Try.prog 26 #[.agg (sgA false m)] w fun e w' => e = .returned (.tuple #[.int .i64 (m : Int), .bool true]) ∧ Below w.heap.size w w' := by
  have hm : Two200 m := Nat.lt_trans h1 top_two
  have e0 := eq_zero_false m hm (by omega)
  have e1 := eq_top_false m hm (by omega)
  have hd : decide (9223372036854775808 < m) = false := by simp; omega
  have hle : m ≤ 9223372036854775808 := by omega
  have HJ := hid (join_size m hle)
  have HL := hid h1
  clear h1
  have d0 := dg_lt m 0
  have d1 := dg_lt m 1
  have d2 := dg_lt m 2
  unfold sgA
  go_enter Try.func26, Try.ntmps26
  go_wp2_with fail
  refine (less_top m hm _).mono ?_
  rintro e w1 ⟨rfl, hb1⟩
  rw [hd]
  obtain ⟨c0, hB⟩ := int_rest (s := false) (m := m) hb1
  have c1 : ∀ i, w1.cell? ⟨w.heap.size + 1, i, none⟩ = (#[.int .i64 0, .int .i64 0, .int .i64 2, .int .i64 0, .int .i64 0, .int .i64 0, .int .i64 0, .int .i64 0, .int .i64 0] : Array Value)[i]? := fun i =>
    (((blk.at_ (w := w.alloc (.cells (sgA false m) 32)) (n := w.heap.size + 1) (t := 30) (by simp) rfl).below hb1 (by simp)).cell i)
  have HB := hid hB
  clear hB hb1 e0 hd h0 hle
  go_wp2_with fail
  go_ret2
  refine ⟨?_, HB.out⟩
  try rw [HJ.out]
  have := HL.out
  rw [IntWalk.wrap64_in _ ⟨by omega, by omega⟩]
  rfl

set_option maxHeartbeats 800000 in
theorem int_neg (m : Nat) (h0 : 0 < m) (h1 : m < 9223372036854775808) (w : World)  :
    Calls Try.prog 26 #[.agg (sgA true m)] w fun e w' => e = .returned (.tuple #[.int .i64 (-(m : Int)), .bool true]) ∧ Below w.heap.size w w' := by
  have hm : Two200 m := Nat.lt_trans h1 top_two
  have e0 := eq_zero_false m hm (by omega)
  have e1 := eq_top_false m hm (by omega)
  have hd : decide (9223372036854775808 < m) = false := by simp; omega
  have hle : m ≤ 9223372036854775808 := by omega
  have HJ := hid (join_size m hle)
  have HL := hid h1
  clear h1
  have d0 := dg_lt m 0
  have d1 := dg_lt m 1
  have d2 := dg_lt m 2
  unfold sgA
  go_enter Try.func26, Try.ntmps26
  go_wp2_with fail
  refine (less_top m hm _).mono ?_
  rintro e w1 ⟨rfl, hb1⟩
  rw [hd]
  obtain ⟨c0, hB⟩ := int_rest (s := true) (m := m) hb1
  have c1 : ∀ i, w1.cell? ⟨w.heap.size + 1, i, none⟩ = (#[.int .i64 0, .int .i64 0, .int .i64 2, .int .i64 0, .int .i64 0, .int .i64 0, .int .i64 0, .int .i64 0, .int .i64 0] : Array Value)[i]? := fun i =>
    (((blk.at_ (w := w.alloc (.cells (sgA true m) 32)) (n := w.heap.size + 1) (t := 30) (by simp) rfl).below hb1 (by simp)).cell i)
  have HB := hid hB
  clear hB hb1 e0 hd h0 hle
  go_wp2_with fail
  go_ret2
  refine ⟨?_, HB.out⟩
  try rw [HJ.out]
  have := HL.out
  rw [show wrap64 (IntKind.u64.wrap (-(m : Int))) = -(m : Int) by rw [← IntWalk.i64_left, IntKind.wrap_i64, IntKind.wrap_u64]; omega]
  rfl

set_option maxHeartbeats 800000 in
theorem int_least (m : Nat) (h0 : 0 < m) (h1 : m = 9223372036854775808) (w : World)  :
    Calls Try.prog 26 #[.agg (sgA true m)] w fun e w' => e = .returned (.tuple #[.int .i64 (-9223372036854775808), .bool true]) ∧ Below w.heap.size w w' := by
  have hm : Two200 m := h1 ▸ top_two
  have e0 := eq_zero_false m hm (by omega)
  have e1 := eq_top_true m hm h1
  have hd : decide (9223372036854775808 < m) = false := by simp; omega
  have hle : m ≤ 9223372036854775808 := by omega
  have HJ := hid (join_size m hle)
  have HL := hid h1
  clear h1
  have d0 := dg_lt m 0
  have d1 := dg_lt m 1
  have d2 := dg_lt m 2
  unfold sgA
  go_enter Try.func26, Try.ntmps26
  go_wp2_with fail
  refine (less_top m hm _).mono ?_
  rintro e w1 ⟨rfl, hb1⟩
  rw [hd]
  obtain ⟨c0, hB⟩ := int_rest (s := true) (m := m) hb1
  have c1 : ∀ i, w1.cell? ⟨w.heap.size + 1, i, none⟩ = (#[.int .i64 0, .int .i64 0, .int .i64 2, .int .i64 0, .int .i64 0, .int .i64 0, .int .i64 0, .int .i64 0, .int .i64 0] : Array Value)[i]? := fun i =>
    (((blk.at_ (w := w.alloc (.cells (sgA true m) 32)) (n := w.heap.size + 1) (t := 30) (by simp) rfl).below hb1 (by simp)).cell i)
  have HB := hid hB
  clear hB hb1 e0 hd h0 hle
  go_wp2_with fail
  go_ret2
  refine ⟨?_, HB.out⟩
  try rw [HJ.out]
  have := HL.out
  rw [show wrap64 (IntKind.u64.wrap (-(m : Int))) = -9223372036854775808 by rw [← IntWalk.i64_left, IntKind.wrap_i64, IntKind.wrap_u64]; omega]
  rfl

set_option maxHeartbeats 800000 in
theorem int_most (m : Nat) (h0 : 0 < m) (h1 : m = 9223372036854775808) (w : World)  :
    Calls Try.prog 26 #[.agg (sgA false m)] w fun e w' => e = .returned (.tuple #[.int .i64 0, .bool false]) ∧ Below w.heap.size w w' := by
  have hm : Two200 m := h1 ▸ top_two
  have e0 := eq_zero_false m hm (by omega)
  have e1 := eq_top_true m hm h1
  have hd : decide (9223372036854775808 < m) = false := by simp; omega
  have hle : m ≤ 9223372036854775808 := by omega
  have HJ := hid (join_size m hle)
  have HL := hid h1
  clear h1
  have d0 := dg_lt m 0
  have d1 := dg_lt m 1
  have d2 := dg_lt m 2
  unfold sgA
  go_enter Try.func26, Try.ntmps26
  go_wp2_with fail
  refine (less_top m hm _).mono ?_
  rintro e w1 ⟨rfl, hb1⟩
  rw [hd]
  obtain ⟨c0, hB⟩ := int_rest (s := false) (m := m) hb1
  have c1 : ∀ i, w1.cell? ⟨w.heap.size + 1, i, none⟩ = (#[.int .i64 0, .int .i64 0, .int .i64 2, .int .i64 0, .int .i64 0, .int .i64 0, .int .i64 0, .int .i64 0, .int .i64 0] : Array Value)[i]? := fun i =>
    (((blk.at_ (w := w.alloc (.cells (sgA false m) 32)) (n := w.heap.size + 1) (t := 30) (by simp) rfl).below hb1 (by simp)).cell i)
  have HB := hid hB
  clear hB hb1 e0 hd h0 hle
  go_wp2_with fail
  go_ret2
  exact ⟨rfl, HB.out⟩

end Go.Proofs.Ytlkemphhbamcfaa
