/-
  The walk of kurganlaw01.ArithCross.
-/
import Derived.Test.YtlkemphhbamcfaaDivs
import Derived.Test.YtlkemphhbamcfaaArith4
namespace Go.Proofs.Ytlkemphhbamcfaa.arithCross
open Go.RowKit arithDivs

def S (w : World) (c d : Int) (W : World) : Prop := blk W w.heap.size #[.int .i64 c, .int .i64 d] 47 ∧ Below w.heap.size w W ∧ w.heap.size < W.heap.size
theorem S.step {w W W' : World} {c d : Int} (h : S w c d W) (hb : Below W.heap.size W W') : S w c d W' :=
  ⟨h.1.below hb h.2.2, h.2.1.trans (hb.mono h.2.1.size), by have := hb.size; have := h.2.2; omega⟩

def C (a b c d x : Int) : Prop := ∀ w : World, Calls Try.prog 34 #[.int .i64 a, .int .i64 b, .int .i64 c, .int .i64 d] w fun e w' => e = .returned (.int .i64 x) ∧ Below w.heap.size w w'

set_option maxRecDepth 100000 in
set_option maxHeartbeats 800000 in
theorem walk1 (a b c d x : Int) (a0 : -9223372036854775808 ≤ a) (a1 : a ≤ 9223372036854775807) (b0 : -9223372036854775808 ≤ b) (b1 : b ≤ 9223372036854775807)
    (c0 : -9223372036854775808 ≤ c) (c1 : c ≤ 9223372036854775807) (d0 : -9223372036854775808 ≤ d) (d1 : d ≤ 9223372036854775807)
    (hx : cmpI (a * b - c * d) = x) (hC : C a b c d x) (hD : C c d a b (-x)) (_hwx : IntKind.i64.wrap (0 - x) = -x) (hwy : IntKind.i64.wrap (-x) = -x) (w : World) :
    Calls Try.prog 9 #[.int .i64 a, .int .i64 b, .agg #[.int .i64 c, .int .i64 d]] w fun e w' => e = .returned (.bool true) ∧ Below w.heap.size w w' := by
  have HC := hid hC
  have HD := hid hD
  have HX := hid hx
  clear hC hD hx
  go_enter Try.func9, Try.ntmps9
  go_wp2_with fail
  refine (HC.out _).mono ?_
  rintro e w1 ⟨rfl, hb⟩
  have hS : S w c d w1 := S.step ⟨blk.new _ _ _, (Below.refl _ _).alloc (Nat.le_refl _) _, by simp⟩ hb
  have HS := hid hS
  clear hb hS
  go_wp2_with fail
  refine wp_region_held_drew (S := S w c d) (by kernel_rfl) ⟨HS.out.1.drew, HS.out.2.1.drew, HS.out.2.2⟩ (fun hHeld => ?_)
  clear HS
  refine wpAnyH_ready (rs := [0]) (by kernel_rfl) (by simp) (AllReadyH.cons (gz _ _) (fun K hK => ?_) AllReadyH.nil)
  go_simp
  refine (counts_any _).mono ?_
  rintro e w2 ⟨rfl, hb⟩
  have hN := hHeld.step hb
  refine hK.out _ _ hN (fun _ => ?_)
  clear hK K hHeld hb
  have hHeld := hN
  clear hN
  try simp only [Act.put, List.setIfInBounds_toArray, List.set_cons_zero, List.set_cons_succ]
  refine wpAnyH_take (i := 1) (v := ?_) (gs (gz _ _)) (by kernel_rfl) (by kernel_rfl) (by kernel_rfl) (fun _ _ _ h => h) (Or.inl ⟨by rfl, ?_⟩) hHeld ?_
  rotate_left
  · rintro w' _; go_simp; with_reducible rfl
  try simp only [Act.put, List.setIfInBounds_toArray, List.set_cons_zero, List.set_cons_succ]
  refine wpAnyH_take (i := 2) (v := ?_) (gs (gs (gz _ _))) (by kernel_rfl) (by kernel_rfl) (by kernel_rfl) (fun _ _ _ h => h) (Or.inl ⟨by rfl, ?_⟩) hHeld ?_
  rotate_left
  · rintro w' _; go_simp; with_reducible rfl
  try simp only [Act.put, List.setIfInBounds_toArray, List.set_cons_zero, List.set_cons_succ]
  refine wpAnyH_take (i := 3) (v := ?_) (gs (gs (gs (gz _ _)))) (by kernel_rfl) (by kernel_rfl) (by kernel_rfl) (fun _ _ _ h => h) (Or.inl ⟨by rfl, ?_⟩) hHeld ?_
  rotate_left
  · rintro w' _; go_simp; with_reducible rfl
  try simp only [Act.put, List.setIfInBounds_toArray, List.set_cons_zero, List.set_cons_succ]
  refine wpAnyH_take (i := 5) (v := ?_) (gs (gs (gs (gs (gs (gz _ _)))))) (by kernel_rfl) (by kernel_rfl) (by kernel_rfl) (fun _ _ _ h => h) (Or.inl ⟨by rfl, ?_⟩) hHeld ?_
  rotate_left
  · rintro w' _; go_simp; with_reducible rfl
  try simp only [Act.put, List.setIfInBounds_toArray, List.set_cons_zero, List.set_cons_succ]
  refine wpAnyH_take (i := 8) (v := ?_) (gs (gs (gs (gs (gs (gs (gs (gs (gz _ _))))))))) (by kernel_rfl) (by kernel_rfl) (by kernel_rfl) (fun _ _ _ h => h) (Or.inl ⟨by rfl, ?_⟩) hHeld ?_
  rotate_left
  · rintro w' _; go_simp; with_reducible rfl
  try simp only [Act.put, List.setIfInBounds_toArray, List.set_cons_zero, List.set_cons_succ]
  refine wpAnyH_take (i := 9) (v := ?_) (gs (gs (gs (gs (gs (gs (gs (gs (gs (gz _ _)))))))))) (by kernel_rfl) (by kernel_rfl) (by kernel_rfl) (fun _ _ _ h => h) (Or.inl ⟨by rfl, ?_⟩) hHeld ?_
  rotate_left
  · rintro w' hS; have c0 := hS.1.cell 0; have c1 := hS.1.cell 1; go_simp; with_reducible rfl
  try simp only [Act.put, List.setIfInBounds_toArray, List.set_cons_zero, List.set_cons_succ]
  refine wpAnyH_take (i := 11) (v := ?_) (gs (gs (gs (gs (gs (gs (gs (gs (gs (gs (gs (gz _ _)))))))))))) (by kernel_rfl) (by kernel_rfl) (by kernel_rfl) (fun _ _ _ h => h) (Or.inl ⟨by rfl, ?_⟩) hHeld ?_
  rotate_left
  · rintro w' _; go_simp; with_reducible rfl
  try simp only [Act.put, List.setIfInBounds_toArray, List.set_cons_zero, List.set_cons_succ]
  refine wpAnyH_take (i := 12) (v := ?_) (gs (gs (gs (gs (gs (gs (gs (gs (gs (gs (gs (gs (gz _ _))))))))))))) (by kernel_rfl) (by kernel_rfl) (by kernel_rfl) (fun _ _ _ h => h) (Or.inl ⟨by rfl, ?_⟩) hHeld ?_
  rotate_left
  · rintro w' hS; have c0 := hS.1.cell 0; have c1 := hS.1.cell 1; go_simp; with_reducible rfl
  try simp only [Act.put, List.setIfInBounds_toArray, List.set_cons_zero, List.set_cons_succ]
  refine wpAnyH_ready (rs := [4]) (by kernel_rfl) (by simp) (AllReadyH.cons (gs (gs (gs (gs (gz _ _))))) (fun K hK => ?_) AllReadyH.nil)
  go_simp
  refine (num_any a a0 a1 _).mono ?_
  rintro e w2 ⟨rfl, hb⟩
  have hN := hHeld.step hb
  refine hK.out _ _ hN (fun _ => ?_)
  clear hK K hHeld hb
  have hHeld := hN
  clear hN
  try simp only [Act.put, List.setIfInBounds_toArray, List.set_cons_zero, List.set_cons_succ]
  refine wpAnyH_ready (rs := [6]) (by kernel_rfl) (by simp) (AllReadyH.cons (gs (gs (gs (gs (gs (gs (gz _ _))))))) (fun K hK => ?_) AllReadyH.nil)
  go_simp
  refine (num_any b b0 b1 _).mono ?_
  rintro e w2 ⟨rfl, hb⟩
  have hN := hHeld.step hb
  refine hK.out _ _ hN (fun _ => ?_)
  clear hK K hHeld hb
  have hHeld := hN
  clear hN
  try simp only [Act.put, List.setIfInBounds_toArray, List.set_cons_zero, List.set_cons_succ]
  refine wpAnyH_ready (rs := [7]) (by kernel_rfl) (by simp) (AllReadyH.cons (gs (gs (gs (gs (gs (gs (gs (gz _ _)))))))) (fun K hK => ?_) AllReadyH.nil)
  go_simp
  refine (mul_any _ _ _ _ (four_abs a0 a1) (four_abs b0 b1) _).mono ?_
  rintro e w2 ⟨rfl, hb⟩
  have hN := hHeld.step hb
  refine hK.out _ _ hN (fun _ => ?_)
  clear hK K hHeld hb
  have hHeld := hN
  clear hN
  try simp only [Act.put, List.setIfInBounds_toArray, List.set_cons_zero, List.set_cons_succ]
  refine wpAnyH_ready (rs := [10]) (by kernel_rfl) (by simp) (AllReadyH.cons (gs (gs (gs (gs (gs (gs (gs (gs (gs (gs (gz _ _))))))))))) (fun K hK => ?_) AllReadyH.nil)
  go_simp
  refine (num_any c c0 c1 _).mono ?_
  rintro e w2 ⟨rfl, hb⟩
  have hN := hHeld.step hb
  refine hK.out _ _ hN (fun _ => ?_)
  clear hK K hHeld hb
  have hHeld := hN
  clear hN
  try simp only [Act.put, List.setIfInBounds_toArray, List.set_cons_zero, List.set_cons_succ]
  refine wpAnyH_ready (rs := [13]) (by kernel_rfl) (by simp) (AllReadyH.cons (gs (gs (gs (gs (gs (gs (gs (gs (gs (gs (gs (gs (gs (gz _ _)))))))))))))) (fun K hK => ?_) AllReadyH.nil)
  go_simp
  refine (num_any d d0 d1 _).mono ?_
  rintro e w2 ⟨rfl, hb⟩
  have hN := hHeld.step hb
  refine hK.out _ _ hN (fun _ => ?_)
  clear hK K hHeld hb
  have hHeld := hN
  clear hN
  try simp only [Act.put, List.setIfInBounds_toArray, List.set_cons_zero, List.set_cons_succ]
  refine wpAnyH_ready (rs := [14]) (by kernel_rfl) (by simp) (AllReadyH.cons (gs (gs (gs (gs (gs (gs (gs (gs (gs (gs (gs (gs (gs (gs (gz _ _))))))))))))))) (fun K hK => ?_) AllReadyH.nil)
  go_simp
  refine (mul_any _ _ _ _ (four_abs c0 c1) (four_abs d0 d1) _).mono ?_
  rintro e w2 ⟨rfl, hb⟩
  have hN := hHeld.step hb
  refine hK.out _ _ hN (fun _ => ?_)
  clear hK K hHeld hb
  have hHeld := hN
  clear hN
  try simp only [Act.put, List.setIfInBounds_toArray, List.set_cons_zero, List.set_cons_succ]
  refine wpAnyH_ready (rs := [15]) (by kernel_rfl) (by simp) (AllReadyH.cons (gs (gs (gs (gs (gs (gs (gs (gs (gs (gs (gs (gs (gs (gs (gs (gz _ _)))))))))))))))) (fun K hK => ?_) AllReadyH.nil)
  go_simp
  refine (cmp_any _ _ _ _ (two_prod a0 a1 b0 b1) (two_prod c0 c1 d0 d1) _).mono ?_
  rintro e w2 ⟨rfl, hb⟩
  have hN := hHeld.step hb
  refine hK.out _ _ hN (fun _ => ?_)
  clear hK K hHeld hb
  have hHeld := hN
  clear hN
  rw [val_neq, val_neq, val_num, val_num, val_num, val_num, HX.out]
  try simp only [Act.put, List.setIfInBounds_toArray, List.set_cons_zero, List.set_cons_succ]
  refine wpAnyH_take (i := 16) (v := ?_) (gs (gs (gs (gs (gs (gs (gs (gs (gs (gs (gs (gs (gs (gs (gs (gs (gz _ _))))))))))))))))) (by kernel_rfl) (by kernel_rfl) (by kernel_rfl) (fun _ _ _ h => h) (Or.inl ⟨by rfl, ?_⟩) hHeld ?_
  rotate_left
  · rintro w' _; go_simp; with_reducible rfl
  try simp only [Act.put, List.setIfInBounds_toArray, List.set_cons_zero, List.set_cons_succ]
  refine wpAnyH_take (i := 17) (v := ?_) (gs (gs (gs (gs (gs (gs (gs (gs (gs (gs (gs (gs (gs (gs (gs (gs (gs (gz _ _)))))))))))))))))) (by kernel_rfl) (by kernel_rfl) (by kernel_rfl) (fun _ _ _ h => h) (Or.inl ⟨by rfl, ?_⟩) hHeld ?_
  rotate_left
  · rintro w' _; go_simp; with_reducible rfl
  try simp only [Act.put, List.setIfInBounds_toArray, List.set_cons_zero, List.set_cons_succ]
  refine wpAnyH_take (i := 18) (v := ?_) (gs (gs (gs (gs (gs (gs (gs (gs (gs (gs (gs (gs (gs (gs (gs (gs (gs (gs (gz _ _))))))))))))))))))) (by kernel_rfl) (by kernel_rfl) (by kernel_rfl) (fun _ _ _ h => h) (Or.inl ⟨by rfl, ?_⟩) hHeld ?_
  rotate_left
  · rintro w' _; go_simp; with_reducible rfl
  try simp only [Act.put, List.setIfInBounds_toArray, List.set_cons_zero, List.set_cons_succ]
  refine wpAnyH_take (i := 19) (v := ?_) (gs (gs (gs (gs (gs (gs (gs (gs (gs (gs (gs (gs (gs (gs (gs (gs (gs (gs (gs (gz _ _)))))))))))))))))))) (by kernel_rfl) (by kernel_rfl) (by kernel_rfl) (fun _ _ _ h => h) (Or.inl ⟨by rfl, ?_⟩) hHeld ?_
  rotate_left
  · rintro w' _; go_simp; with_reducible rfl
  try simp only [Act.put, List.setIfInBounds_toArray, List.set_cons_zero, List.set_cons_succ]
  refine wpAnyH_take (i := 20) (v := ?_) (gs (gs (gs (gs (gs (gs (gs (gs (gs (gs (gs (gs (gs (gs (gs (gs (gs (gs (gs (gs (gz _ _))))))))))))))))))))) (by kernel_rfl) (by kernel_rfl) (by kernel_rfl) (fun _ _ _ h => h) (Or.inl ⟨by rfl, ?_⟩) hHeld ?_
  rotate_left
  · rintro w' hS; have c0 := hS.1.cell 0; have c1 := hS.1.cell 1; go_simp; with_reducible rfl
  try simp only [Act.put, List.setIfInBounds_toArray, List.set_cons_zero, List.set_cons_succ]
  refine wpAnyH_take (i := 21) (v := ?_) (gs (gs (gs (gs (gs (gs (gs (gs (gs (gs (gs (gs (gs (gs (gs (gs (gs (gs (gs (gs (gs (gz _ _)))))))))))))))))))))) (by kernel_rfl) (by kernel_rfl) (by kernel_rfl) (fun _ _ _ h => h) (Or.inl ⟨by rfl, ?_⟩) hHeld ?_
  rotate_left
  · rintro w' _; go_simp; with_reducible rfl
  try simp only [Act.put, List.setIfInBounds_toArray, List.set_cons_zero, List.set_cons_succ]
  refine wpAnyH_take (i := 22) (v := ?_) (gs (gs (gs (gs (gs (gs (gs (gs (gs (gs (gs (gs (gs (gs (gs (gs (gs (gs (gs (gs (gs (gs (gz _ _))))))))))))))))))))))) (by kernel_rfl) (by kernel_rfl) (by kernel_rfl) (fun _ _ _ h => h) (Or.inl ⟨by rfl, ?_⟩) hHeld ?_
  rotate_left
  · rintro w' hS; have c0 := hS.1.cell 0; have c1 := hS.1.cell 1; go_simp; with_reducible rfl
  try simp only [Act.put, List.setIfInBounds_toArray, List.set_cons_zero, List.set_cons_succ]
  refine wpAnyH_take (i := 23) (v := ?_) (gs (gs (gs (gs (gs (gs (gs (gs (gs (gs (gs (gs (gs (gs (gs (gs (gs (gs (gs (gs (gs (gs (gs (gz _ _)))))))))))))))))))))))) (by kernel_rfl) (by kernel_rfl) (by kernel_rfl) (fun _ _ _ h => h) (Or.inl ⟨by rfl, ?_⟩) hHeld ?_
  rotate_left
  · rintro w' _; go_simp; with_reducible rfl
  try simp only [Act.put, List.setIfInBounds_toArray, List.set_cons_zero, List.set_cons_succ]
  refine wpAnyH_take (i := 24) (v := ?_) (gs (gs (gs (gs (gs (gs (gs (gs (gs (gs (gs (gs (gs (gs (gs (gs (gs (gs (gs (gs (gs (gs (gs (gs (gz _ _))))))))))))))))))))))))) (by kernel_rfl) (by kernel_rfl) (by kernel_rfl) (fun _ _ _ h => h) (Or.inl ⟨by rfl, ?_⟩) hHeld ?_
  rotate_left
  · rintro w' _; go_simp; with_reducible rfl
  try simp only [Act.put, List.setIfInBounds_toArray, List.set_cons_zero, List.set_cons_succ]
  refine wpAnyH_take (i := 26) (v := ?_) (gs (gs (gs (gs (gs (gs (gs (gs (gs (gs (gs (gs (gs (gs (gs (gs (gs (gs (gs (gs (gs (gs (gs (gs (gs (gs (gz _ _))))))))))))))))))))))))))) (by kernel_rfl) (by kernel_rfl) (by kernel_rfl) (fun _ _ _ h => h) (Or.inl ⟨by rfl, ?_⟩) hHeld ?_
  rotate_left
  · rintro w' _; go_simp; with_reducible rfl
  try simp only [Act.put, List.setIfInBounds_toArray, List.set_cons_zero, List.set_cons_succ]
  refine wpAnyH_take (i := 27) (v := ?_) (gs (gs (gs (gs (gs (gs (gs (gs (gs (gs (gs (gs (gs (gs (gs (gs (gs (gs (gs (gs (gs (gs (gs (gs (gs (gs (gs (gz _ _)))))))))))))))))))))))))))) (by kernel_rfl) (by kernel_rfl) (by kernel_rfl) (fun _ _ _ h => h) (Or.inl ⟨by rfl, ?_⟩) hHeld ?_
  rotate_left
  · rintro w' _; go_simp; with_reducible rfl
  try simp only [Act.put, List.setIfInBounds_toArray, List.set_cons_zero, List.set_cons_succ]
  refine wpAnyH_ready (rs := [25]) (by kernel_rfl) (by simp) (AllReadyH.cons (gs (gs (gs (gs (gs (gs (gs (gs (gs (gs (gs (gs (gs (gs (gs (gs (gs (gs (gs (gs (gs (gs (gs (gs (gs (gz _ _)))))))))))))))))))))))))) (fun K hK => ?_) AllReadyH.nil)
  go_simp
  refine (HD.out _).mono ?_
  rintro e w2 ⟨rfl, hb⟩
  have hN := hHeld.step hb
  refine hK.out _ _ hN (fun _ => ?_)
  clear hK K hHeld hb
  have hHeld := hN
  clear hN
  try simp only [Act.put, List.setIfInBounds_toArray, List.set_cons_zero, List.set_cons_succ]
  refine wpAnyH_take (i := 28) (v := ?_) (gs (gs (gs (gs (gs (gs (gs (gs (gs (gs (gs (gs (gs (gs (gs (gs (gs (gs (gs (gs (gs (gs (gs (gs (gs (gs (gs (gs (gz _ _))))))))))))))))))))))))))))) (by kernel_rfl) (by kernel_rfl) (by kernel_rfl) (fun _ _ _ h => h) (Or.inl ⟨by rfl, ?_⟩) hHeld ?_
  rotate_left
  · rintro w' _; go_simp; with_reducible rfl
  try simp only [Act.put, List.setIfInBounds_toArray, List.set_cons_zero, List.set_cons_succ]
  refine wpAnyH_take (i := 29) (v := ?_) (gs (gs (gs (gs (gs (gs (gs (gs (gs (gs (gs (gs (gs (gs (gs (gs (gs (gs (gs (gs (gs (gs (gs (gs (gs (gs (gs (gs (gs (gz _ _)))))))))))))))))))))))))))))) (by kernel_rfl) (by kernel_rfl) (by kernel_rfl) (fun _ _ _ h => h) (Or.inl ⟨by rfl, ?_⟩) hHeld ?_
  rotate_left
  · rintro w' _; go_simp; with_reducible rfl
  try simp only [Act.put, List.setIfInBounds_toArray, List.set_cons_zero, List.set_cons_succ]
  refine wpAnyH_take (i := 30) (v := ?_) (gs (gs (gs (gs (gs (gs (gs (gs (gs (gs (gs (gs (gs (gs (gs (gs (gs (gs (gs (gs (gs (gs (gs (gs (gs (gs (gs (gs (gs (gs (gz _ _))))))))))))))))))))))))))))))) (by kernel_rfl) (by kernel_rfl) (by kernel_rfl) (fun _ _ _ h => h) (Or.inl ⟨by rfl, ?_⟩) hHeld ?_
  rotate_left
  · rintro w' _; go_simp; with_reducible rfl
  try simp only [Act.put, List.setIfInBounds_toArray, List.set_cons_zero, List.set_cons_succ]
  refine wpAnyH_done (by kernel_rfl) ?_ _
  go_wp2
  go_ret
  exact ⟨rfl, hHeld.2.1⟩

theorem cmp_back (x y : Int) : cmpI (y - x) = -(cmpI (x - y)) := by unfold cmpI; split <;> split <;> (try split) <;> (try split) <;> omega
theorem cmp_bd (x : Int) : -1 ≤ cmpI x ∧ cmpI x ≤ 1 := by unfold cmpI; split <;> (try split) <;> omega

theorem walk (a b c d : Int) (a0 : -9223372036854775808 ≤ a) (a1 : a ≤ 9223372036854775807) (b0 : -9223372036854775808 ≤ b) (b1 : b ≤ 9223372036854775807)
    (c0 : -9223372036854775808 ≤ c) (c1 : c ≤ 9223372036854775807) (d0 : -9223372036854775808 ≤ d) (d1 : d ≤ 9223372036854775807) (w : World) :
    Calls Try.prog 9 #[.int .i64 a, .int .i64 b, .agg #[.int .i64 c, .int .i64 d]] w fun e w' => e = .returned (.bool true) ∧ Below w.heap.size w w' := by
  have hx := cmp_bd (a * b - c * d)
  refine walk1 a b c d (cmpI (a * b - c * d)) a0 a1 b0 b1 c0 c1 d0 d1 rfl (fun w => cross_any a b c d a0 a1 b0 b1 c0 c1 d0 d1 w) (fun w => ?_) ?_ (IntWalk.i64_in _ ⟨by omega, by omega⟩) w
  · have h := cross_any c d a b c0 c1 d0 d1 a0 a1 b0 b1 w
    unfold CrossAt at h
    rwa [cmp_back (a * b) (c * d)] at h
  · rw [Int.zero_sub]; exact IntWalk.i64_in _ ⟨by omega, by omega⟩

theorem walk_l (a b : Int) (l : List Int) (wa : (Lit.int .i64 a).wf = true) (wb : (Lit.int .i64 b).wf = true) (hl : l.length = 2) (wl : ∀ x ∈ l, (Lit.int .i64 x).wf = true) (w : World) :
    Calls Try.prog 9 #[.int .i64 a, .int .i64 b, .agg (l.map (Value.int .i64)).toArray] w fun e w' => e = .returned (.bool true) ∧ Below w.heap.size w w' := by
  match l, hl, wl with
  | [c, d], _, wl =>
    obtain ⟨a0, a1⟩ := bd_i64 wa
    obtain ⟨b0, b1⟩ := bd_i64 wb
    obtain ⟨c0, c1⟩ := bd_i64 (wl c (by simp))
    obtain ⟨d0, d1⟩ := bd_i64 (wl d (by simp))
    exact walk a b c d a0 a1 b0 b1 c0 c1 d0 d1 w

end Go.Proofs.Ytlkemphhbamcfaa.arithCross
