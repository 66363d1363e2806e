/-
  The walk of kurganlaw01.ArithDivs.
-/
import Derived.Test.YtlkemphhbamcfaaUps
import Derived.Test.YtlkemphhbamcfaaReg
namespace Go.Proofs.Ytlkemphhbamcfaa.arithDivs
open Go.RowKit

set_option maxHeartbeats 400000 in
theorem walk_no (a b : Int) (h : b ≤ 0) (w : World) :
    Calls Try.prog 4 #[.int .i64 a, .int .i64 b] w fun e w' => e = .returned (.bool true) ∧ Below w.heap.size w w' := by
  go_enter Try.func4, Try.ntmps4
  go_wp2_with (first | (go_at_call 18; refine (a_div_no a b h _).mono ?_; rintro e w' ⟨rfl, rfl⟩) | (go_at_call 19; refine (counts_any _).mono ?_; rintro e w' ⟨rfl, hb⟩))
  go_ret
  exact ⟨rfl, by assumption⟩

theorem fits {q b r a : Int} (h : b * q + r = a) : q * b + r - a = 0 := by rw [Int.mul_comm q b]; omega
theorem four_abs {a : Int} (a0 : -9223372036854775808 ≤ a) (a1 : a ≤ 9223372036854775807) : Four a.natAbs :=
  Nat.lt_of_lt_of_le (m := 2^64) (by have : (2:Nat)^64 = 18446744073709551616 := by decide
                                     omega) (Nat.pow_le_pow_right (by decide) (by decide))
theorem two_prod {a b : Int} (a0 : -9223372036854775808 ≤ a) (a1 : a ≤ 9223372036854775807) (b0 : -9223372036854775808 ≤ b) (b1 : b ≤ 9223372036854775807) : Two190 (a.natAbs * b.natAbs) := by
  have h1 : a.natAbs ≤ 2^63 := by omega
  have h2 : b.natAbs ≤ 2^63 := by omega
  have h3 := Nat.mul_le_mul h1 h2
  have h4 : (2:Nat)^63 * 2^63 < 2^190 := by decide
  exact Nat.lt_of_le_of_lt h3 h4
theorem prod_le {a b : Int} (a0 : -9223372036854775808 ≤ a) (a1 : a ≤ 9223372036854775807) (b0 : -9223372036854775808 ≤ b) (b1 : b ≤ 9223372036854775807) : a.natAbs * b.natAbs ≤ 85070591730234615865843651857942052864 := by
  have h1 : a.natAbs ≤ 9223372036854775808 := by omega
  have h2 : b.natAbs ≤ 9223372036854775808 := by omega
  exact Nat.mul_le_mul h1 h2
theorem two_lit {n : Nat} (h : n ≤ 170141183460469231731687303715884105728) : Two190 n :=
  Nat.lt_of_le_of_lt h (Nat.lt_of_lt_of_le (m := 2^128) (by decide) (Nat.pow_le_pow_right (by decide) (by decide)))

def DivS (w : World) (b8 : Nat) (s : Bool) (m : Nat) (W : World) : Prop := blk W b8 (sgA s m) 32 ∧ Below w.heap.size w W ∧ b8 < W.heap.size

set_option maxRecDepth 100000 in
set_option maxHeartbeats 800000 in
theorem walk_yes (a b : Int) (a0 : -9223372036854775808 ≤ a) (a1 : a ≤ 9223372036854775807) (h : 0 < b) (b1 : b ≤ 9223372036854775807) (w : World) :
    Calls Try.prog 4 #[.int .i64 a, .int .i64 b] w fun e w' => e = .returned (.bool true) ∧ Below w.heap.size w w' := by
  have hc := a_div a b a0 a1 h b1 w
  have hq := div_bd h a0 a1
  have hr0 := Int.emod_nonneg a (show b ≠ 0 by omega)
  have hr1 := Int.emod_lt_of_pos a h
  have hm := Int.mul_ediv_add_emod a b
  generalize a / b = q at *
  generalize a % b = r at *
  have hx := fits hm
  have HX := hid hx
  clear hm hx
  have f1 := four_abs hq.1 hq.2
  have f2 := four_abs (a := b) (by omega) b1
  have f3 := prod_le hq.1 hq.2 (b := b) (by omega) b1
  have f4 : r.natAbs ≤ 9223372036854775808 := by omega
  go_enter Try.func4, Try.ntmps4
  go_wp2_with fail
  refine hc.mono ?_
  clear hc
  rintro e w1 ⟨rfl, hb1⟩
  go_wp2_with fail
  refine (counts_any _).mono ?_
  rintro e w2 ⟨rfl, hb2⟩
  go_wp2_with fail
  refine (num_any q hq.1 hq.2 _).mono ?_
  rintro e w3 ⟨rfl, hb3⟩
  go_wp2_with fail
  refine (num_any b (by omega) b1 _).mono ?_
  rintro e w4 ⟨rfl, hb4⟩
  go_wp2_with fail
  refine (mul_any _ _ _ _ f1 f2 _).mono ?_
  rintro e w5 ⟨rfl, hb5⟩
  go_wp2_with fail
  refine (num_any r (by omega) (by omega) _).mono ?_
  rintro e w6 ⟨rfl, hb6⟩
  go_wp2_with fail
  refine (add_any _ _ _ _ (two_lit (by omega)) (two_lit (by omega)) _).mono ?_
  rintro e w7 ⟨s, m, rfl, hv, hle, hb7⟩
  rw [val_neq, val_num, val_num, val_num] at hv
  have s2 := hb1.size
  have s3 := hb2.size
  have s4 := hb3.size
  have s5 := hb4.size
  have s6 := hb5.size
  have s7 := hb6.size
  have hB : Below w.heap.size w w7 := (((((hb1.trans (hb2.mono (by omega))).trans (hb3.mono (by omega))).trans (hb4.mono (by omega))).trans (hb5.mono (by omega))).trans (hb6.mono (by omega))).trans (hb7.mono (by omega))
  have hle2 : m ≤ 170141183460469231731687303715884105728 := by omega
  clear hb1 hb2 hb3 hb4 hb5 hb6 hb7 s2 s3 s4 s5 s6 s7 hle f1 f2 f3 f4
  have HV := hid hv
  have HL := hid hle2
  have HB := hid hB
  clear hv hle2 hB
  unfold sgA
  go_wp2_with fail
  have hS : DivS w w7.heap.size s m (w7.alloc (.cells (sgA s m) 32)).drew := ⟨blk.new _ _ _, (HB.out.alloc HB.out.size _).drew, by simp⟩
  refine wp_region_held_drew (S := fun w' => DivS w w7.heap.size s m w') (by kernel_rfl) hS (fun hHeld => ?_)
  clear hS
  refine wpAnyH_take (i := 0) (v := ?_) (gz _ _) (by kernel_rfl) (by kernel_rfl) (by kernel_rfl) (fun _ _ _ h => h) (Or.inl ⟨by rfl, ?_⟩) hHeld ?_
  rotate_left
  · rintro w' _; go_simp; with_reducible rfl
  try simp only [Act.put, List.setIfInBounds_toArray, List.set_cons_zero, List.set_cons_succ]
  refine wpAnyH_take (i := 1) (v := ?_) (gs (gz _ _)) (by kernel_rfl) (by kernel_rfl) (by kernel_rfl) (fun _ _ _ h => h) (Or.inl ⟨by rfl, ?_⟩) hHeld ?_
  rotate_left
  · rintro w' _; go_simp; with_reducible rfl
  try simp only [Act.put, List.setIfInBounds_toArray, List.set_cons_zero, List.set_cons_succ]
  refine wpAnyH_take (i := 2) (v := ?_) (gs (gs (gz _ _))) (by kernel_rfl) (by kernel_rfl) (by kernel_rfl) (fun _ _ _ h => h) (Or.inl ⟨by rfl, ?_⟩) hHeld ?_
  rotate_left
  · rintro w' _; go_simp; with_reducible rfl
  try simp only [Act.put, List.setIfInBounds_toArray, List.set_cons_zero, List.set_cons_succ]
  refine wpAnyH_take (i := 3) (v := ?_) (gs (gs (gs (gz _ _)))) (by kernel_rfl) (by kernel_rfl) (by kernel_rfl) (fun _ _ _ h => h) (Or.inl ⟨by rfl, ?_⟩) hHeld ?_
  rotate_left
  · rintro w' _; go_simp; with_reducible rfl
  try simp only [Act.put, List.setIfInBounds_toArray, List.set_cons_zero, List.set_cons_succ]
  refine wpAnyH_take (i := 4) (v := ?_) (gs (gs (gs (gs (gz _ _))))) (by kernel_rfl) (by kernel_rfl) (by kernel_rfl) (fun _ _ _ h => h) (Or.inl ⟨by rfl, ?_⟩) hHeld ?_
  rotate_left
  · rintro w' _; go_simp; with_reducible rfl
  try simp only [Act.put, List.setIfInBounds_toArray, List.set_cons_zero, List.set_cons_succ]
  refine wpAnyH_take (i := 5) (v := ?_) (gs (gs (gs (gs (gs (gz _ _)))))) (by kernel_rfl) (by kernel_rfl) (by kernel_rfl) (fun _ _ _ h => h) (Or.inl ⟨by rfl, ?_⟩) hHeld ?_
  rotate_left
  · rintro w' _; go_simp; with_reducible rfl
  try simp only [Act.put, List.setIfInBounds_toArray, List.set_cons_zero, List.set_cons_succ]
  refine wpAnyH_take (i := 6) (v := ?_) (gs (gs (gs (gs (gs (gs (gz _ _))))))) (by kernel_rfl) (by kernel_rfl) (by kernel_rfl) (fun _ _ _ h => h) (Or.inl ⟨by rfl, ?_⟩) hHeld ?_
  rotate_left
  · rintro w' _; go_simp; with_reducible rfl
  try simp only [Act.put, List.setIfInBounds_toArray, List.set_cons_zero, List.set_cons_succ]
  refine wpAnyH_take (i := 7) (v := ?_) (gs (gs (gs (gs (gs (gs (gs (gz _ _)))))))) (by kernel_rfl) (by kernel_rfl) (by kernel_rfl) (fun _ _ _ h => h) (Or.inl ⟨by rfl, ?_⟩) hHeld ?_
  rotate_left
  · rintro w' _; go_simp; with_reducible rfl
  try simp only [Act.put, List.setIfInBounds_toArray, List.set_cons_zero, List.set_cons_succ]
  refine wpAnyH_take (i := 8) (v := ?_) (gs (gs (gs (gs (gs (gs (gs (gs (gz _ _))))))))) (by kernel_rfl) (by kernel_rfl) (by kernel_rfl) (fun _ _ _ h => h) (Or.inl ⟨by rfl, ?_⟩) hHeld ?_
  rotate_left
  · rintro w' _; go_simp; with_reducible rfl
  try simp only [Act.put, List.setIfInBounds_toArray, List.set_cons_zero, List.set_cons_succ]
  refine wpAnyH_take (i := 9) (v := ?_) (gs (gs (gs (gs (gs (gs (gs (gs (gs (gz _ _)))))))))) (by kernel_rfl) (by kernel_rfl) (by kernel_rfl) (fun _ _ _ h => h) (Or.inl ⟨by rfl, ?_⟩) hHeld ?_
  rotate_left
  · rintro w' _; go_simp; with_reducible rfl
  try simp only [Act.put, List.setIfInBounds_toArray, List.set_cons_zero, List.set_cons_succ]
  refine wpAnyH_take (i := 10) (v := ?_) (gs (gs (gs (gs (gs (gs (gs (gs (gs (gs (gz _ _))))))))))) (by kernel_rfl) (by kernel_rfl) (by kernel_rfl) (fun _ _ _ h => h) (Or.inl ⟨by rfl, ?_⟩) hHeld ?_
  rotate_left
  · rintro w' _; go_simp; with_reducible rfl
  try simp only [Act.put, List.setIfInBounds_toArray, List.set_cons_zero, List.set_cons_succ]
  refine wpAnyH_take (i := 11) (v := ?_) (gs (gs (gs (gs (gs (gs (gs (gs (gs (gs (gs (gz _ _)))))))))))) (by kernel_rfl) (by kernel_rfl) (by kernel_rfl) (fun _ _ _ h => h) (Or.inl ⟨by rfl, ?_⟩) hHeld ?_
  rotate_left
  · rintro w' hS; have c := hS.1.cell; unfold sgA at c; go_simp; with_reducible rfl
  try simp only [Act.put, List.setIfInBounds_toArray, List.set_cons_zero, List.set_cons_succ]
  refine wpAnyH_take (i := 12) (v := ?_) (gs (gs (gs (gs (gs (gs (gs (gs (gs (gs (gs (gs (gz _ _))))))))))))) (by kernel_rfl) (by kernel_rfl) (by kernel_rfl) (fun _ _ _ h => h) (Or.inl ⟨by rfl, ?_⟩) hHeld ?_
  rotate_left
  · rintro w' _; go_simp; with_reducible rfl
  try simp only [Act.put, List.setIfInBounds_toArray, List.set_cons_zero, List.set_cons_succ]
  refine wpAnyH_ready (rs := [13]) (by kernel_rfl) (by simp) (AllReadyH.cons (gs (gs (gs (gs (gs (gs (gs (gs (gs (gs (gs (gs (gs (gz _ _)))))))))))))) (fun K hK => ?_) AllReadyH.nil)
  go_simp
  refine (num_any a a0 a1 _).mono ?_
  rintro e w8 ⟨rfl, hb⟩
  have hN : DivS w w7.heap.size s m w8 := ⟨hHeld.1.below hb hHeld.2.2, hHeld.2.1.trans (hb.mono hHeld.2.1.size), by have := hb.size; have := hHeld.2.2; omega⟩
  refine hK.out _ _ hN (fun _ => ?_)
  clear hK K hHeld hb
  have hHeld := hN
  clear hN
  try simp only [Act.put, List.setIfInBounds_toArray, List.set_cons_zero, List.set_cons_succ]
  refine wpAnyH_ready (rs := [14]) (by kernel_rfl) (by simp) (AllReadyH.cons (gs (gs (gs (gs (gs (gs (gs (gs (gs (gs (gs (gs (gs (gs (gz _ _))))))))))))))) (fun K hK => ?_) AllReadyH.nil)
  go_simp
  refine (cmp_any s _ m _ (two_lit HL.out) (two_abs a0 a1) _).mono ?_
  rintro e w9 ⟨rfl, hb⟩
  have hN : DivS w w7.heap.size s m w9 := ⟨hHeld.1.below hb hHeld.2.2, hHeld.2.1.trans (hb.mono hHeld.2.1.size), by have := hb.size; have := hHeld.2.2; omega⟩
  refine hK.out _ _ hN (fun _ => ?_)
  rw [val_num, show val s m - a = 0 by rw [HV.out]; exact HX.out, show cmpI 0 = 0 from rfl]
  clear hK K hHeld hb
  have hHeld := hN
  clear hN
  try simp only [Act.put, List.setIfInBounds_toArray, List.set_cons_zero, List.set_cons_succ]
  refine wpAnyH_take (i := 15) (v := ?_) (gs (gs (gs (gs (gs (gs (gs (gs (gs (gs (gs (gs (gs (gs (gs (gz _ _)))))))))))))))) (by kernel_rfl) (by kernel_rfl) (by kernel_rfl) (fun _ _ _ h => h) (Or.inl ⟨by rfl, ?_⟩) hHeld ?_
  rotate_left
  · rintro w' _; go_simp; with_reducible rfl
  try simp only [Act.put, List.setIfInBounds_toArray, List.set_cons_zero, List.set_cons_succ]
  refine wpAnyH_take (i := 16) (v := ?_) (gs (gs (gs (gs (gs (gs (gs (gs (gs (gs (gs (gs (gs (gs (gs (gs (gz _ _))))))))))))))))) (by kernel_rfl) (by kernel_rfl) (by kernel_rfl) (fun _ _ _ h => h) (Or.inl ⟨by rfl, ?_⟩) hHeld ?_
  rotate_left
  · rintro w' _; go_simp; with_reducible rfl
  try simp only [Act.put, List.setIfInBounds_toArray, List.set_cons_zero, List.set_cons_succ]
  refine wpAnyH_take (i := 17) (v := ?_) (gs (gs (gs (gs (gs (gs (gs (gs (gs (gs (gs (gs (gs (gs (gs (gs (gs (gz _ _)))))))))))))))))) (by kernel_rfl) (by kernel_rfl) (by kernel_rfl) (fun _ _ _ h => h) (Or.inl ⟨by rfl, ?_⟩) hHeld ?_
  rotate_left
  · rintro w' _; go_simp; with_reducible rfl
  try simp only [Act.put, List.setIfInBounds_toArray, List.set_cons_zero, List.set_cons_succ]
  refine wpAnyH_done (by kernel_rfl) ?_ _
  go_wp2
  go_ret
  exact ⟨rfl, hHeld.2.1⟩

theorem walk (a b : Int) (wa : (Lit.int .i64 a).wf = true) (wb : (Lit.int .i64 b).wf = true) (w : World) :
    Calls Try.prog 4 #[.int .i64 a, .int .i64 b] w fun e w' => e = .returned (.bool true) ∧ Below w.heap.size w w' := by
  obtain ⟨a0, a1⟩ := bd_i64 wa
  obtain ⟨b0, b1⟩ := bd_i64 wb
  rcases Int.lt_or_le 0 b with h | h
  · exact walk_yes a b a0 a1 h b1 w
  · exact walk_no a b h w

end Go.Proofs.Ytlkemphhbamcfaa.arithDivs
