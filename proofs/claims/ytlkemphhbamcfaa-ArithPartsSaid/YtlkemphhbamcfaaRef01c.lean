/-
  kurganref01: numbers by their values: Add, Mul, Cmp, Int.
-/
import Derived.Test.YtlkemphhbamcfaaRef01w
import Derived.Deep.DeepCutAuto
namespace Go.Proofs.Ytlkemphhbamcfaa
open Go.RowKit

def val (s : Bool) (m : Nat) : Int := if s then -(m : Int) else m
theorem val_not (s : Bool) (m : Nat) : val (!s) m = - val s m := by cases s <;> simp [val]
theorem val_neq (s t : Bool) (m n : Nat) : val (s != t) (m * n) = val s m * val t n := by
  cases s <;> cases t <;> simp [val, Int.natCast_mul, Int.neg_mul, Int.mul_neg, Int.neg_neg]
theorem val_num (a : Int) : val (decide (a < 0)) a.natAbs = a := by
  unfold val; by_cases h : a < 0
  · simp [h]; omega
  · simp [h]; omega
/-- A size below 2^190. -/
def Two190 (n : Nat) : Prop := n < 2^190
theorem Two190.up {n : Nat} (h : Two190 n) : Two200 n := Nat.lt_trans h (Nat.pow_lt_pow_right (by decide) (by decide))
theorem two_sum {m n : Nat} (hm : Two190 m) (hn : Two190 n) : Two200 (m + n) := by
  have h : (2:Nat)^190 + 2^190 < 2^200 := by decide
  unfold Two190 at hm hn; unfold Two200; omega

/-- A number with a sign: what the call answered, its size at most so great. -/
def IsSum (v : Int) (b : Nat) (w : World) (e : Ending) (w' : World) : Prop := ∃ s m, e = .returned (.agg (sgA s m)) ∧ val s m = v ∧ m ≤ b ∧ Below w.heap.size w w'

theorem add_any (s t : Bool) (m n : Nat) (hm : Two190 m) (hn : Two190 n) (w : World) :
    Calls Try.prog 20 #[.agg (sgA s m), .agg (sgA t n)] w (IsSum (val s m + val t n) (m + n) w) := by
  cases s <;> cases t
  · exact (add_same false m n w).mono fun e w' h => ⟨false, m + n, h.1, by simp [val], Nat.le_refl _, h.2⟩
  · rcases Nat.lt_or_ge m n with h | h
    · exact (add_ft_lt m n hm.up hn.up h w).mono fun e w' g => ⟨true, n - m, g.1, by simp [val]; omega, by omega, g.2⟩
    · exact (add_ft_ge m n hm.up hn.up h w).mono fun e w' g => ⟨false, m - n, g.1, by simp [val]; omega, by omega, g.2⟩
  · rcases Nat.lt_or_ge m n with h | h
    · exact (add_tf_lt m n hm.up hn.up h w).mono fun e w' g => ⟨false, n - m, g.1, by simp [val]; omega, by omega, g.2⟩
    · exact (add_tf_ge m n hm.up hn.up h w).mono fun e w' g => ⟨true, m - n, g.1, by simp [val]; omega, by omega, g.2⟩
  · exact (add_same true m n w).mono fun e w' h => ⟨true, m + n, h.1, by simp [val]; omega, Nat.le_refl _, h.2⟩

theorem int_any (s : Bool) (m : Nat) (hm : Two200 m) (w : World) :
    Calls Try.prog 26 #[.agg (sgA s m)] w fun e w' => e = .returned (.tuple #[.int .i64 (intN (val s m)), .bool (intB (val s m))]) ∧ Below w.heap.size w w' := by
  have no : ∀ v : Int, ¬ (-9223372036854775808 ≤ v ∧ v ≤ 9223372036854775807) → intN v = 0 ∧ intB v = false := fun _ h => int_no h
  have yes : ∀ v : Int, (-9223372036854775808 ≤ v ∧ v ≤ 9223372036854775807) → intN v = v ∧ intB v = true := fun _ h => int_yes h
  rcases Nat.eq_zero_or_pos m with rfl | h0
  · have := yes (val s 0) (by cases s <;> simp [val])
    rw [this.1, this.2]
    have hv : val s 0 = 0 := by cases s <;> simp [val]
    rw [hv]
    exact int_zero s w
  · rcases Nat.lt_trichotomy m 9223372036854775808 with h | h | h
    · cases s
      · have := yes (val false m) (by simp [val]; omega)
        rw [this.1, this.2]; exact int_pos m h0 h w
      · have := yes (val true m) (by simp [val]; omega)
        rw [this.1, this.2]; exact int_neg m h0 h w
    · cases s
      · have := no (val false m) (by simp [val]; omega)
        rw [this.1, this.2]; exact int_most m h0 h w
      · have := yes (val true m) (by simp [val]; omega)
        rw [this.1, this.2]
        rw [show val true m = -9223372036854775808 by simp [val]; omega]
        exact int_least m h0 h w
    · have := no (val s m) (by cases s <;> simp [val] <;> omega)
      rw [this.1, this.2]; exact int_big s m hm h w

/-- Both numbers lie in two blocks, known whole. -/
def cmpS (w : World) (s t : Bool) (m n : Nat) (W : World) : Prop := addG w s t m n W ∧ Below w.heap.size w W ∧ w.heap.size + 1 < W.heap.size
theorem cmpS_below {w : World} {s t : Bool} {m n : Nat} {W w1 : World} (h : cmpS w s t m n W) (hb : Below W.heap.size W w1) : cmpS w s t m n w1 :=
  ⟨addG_below h.1 hb h.2.2, h.2.1.trans (hb.mono (by have := h.2.2; omega)), by have := hb.size; have := h.2.2; omega⟩
theorem cmpS_alloc {w : World} {s t : Bool} {m n : Nat} {W : World} (h : cmpS w s t m n W) (o : Obj) : cmpS w s t m n (W.alloc o) :=
  ⟨addG_alloc h.1 o h.2.2, h.2.1.alloc (by have := h.2.2; omega) o, by have := h.2.2; simp; omega⟩
theorem cmpS_set {w : World} {s t : Bool} {m n : Nat} {W : World} (h : cmpS w s t m n W) {b i : Nat} (hb : w.heap.size + 1 < b) (v : Value) : cmpS w s t m n (W.setCell ⟨b, i, none⟩ v) :=
  ⟨addG_set h.1 hb v, bset h.2.1 (by omega) v, by have := h.2.2; simpa using this⟩
theorem cmp_start (w : World) (s t : Bool) (m n : Nat) : cmpS w s t m n ((w.alloc (.cells (sgA s m) 32)).alloc (.cells (sgA t n) 32)).drew := by
  have h0 : blk ((w.alloc (.cells (sgA s m) 32)).alloc (.cells (sgA t n) 32)) w.heap.size (sgA s m) 32 := by repeat (first | (refine blk.at_ ?_ rfl; simp; done) | refine blk.alloc ?_ _)
  have h1 : blk ((w.alloc (.cells (sgA s m) 32)).alloc (.cells (sgA t n) 32)) (w.heap.size + 1) (sgA t n) 32 := by repeat (first | (refine blk.at_ ?_ rfl; simp; done) | refine blk.alloc ?_ _)
  exact ⟨⟨fun i => h0.cell i, fun i => h1.cell i, trivial⟩, (((Below.refl _ _).alloc (Nat.le_refl _) _).alloc (by simp) _).drew, by simp⟩

/-- The answer's number lies in a new block. -/
def CmpMid (w : World) (v : Int) (b : Nat) (W : World) : Prop := ∃ s m, val s m = v ∧ Two200 m ∧ w.heap.size ≤ b ∧ Below w.heap.size w W ∧ blk W b (sgA s m) 32

set_option maxRecDepth 100000 in
set_option maxHeartbeats 1600000 in
theorem cmp_any (s t : Bool) (m n : Nat) (hm : Two190 m) (hn : Two190 n) (w : World) :
    Calls Try.prog 23 #[.agg (sgA s m), .agg (sgA t n)] w fun e w' => e = .returned (.int .i64 (cmpI (val s m - val t n))) ∧ Below w.heap.size w w' := by
  go_enter Try.func23, Try.ntmps23
  go_upto_region 1 with fail
  go_cut [5] (fun s5 W => ∃ b, s5 = .pointer (some ⟨b, 0, none⟩) ∧ CmpMid w (val s m - val t n) b W)
  case first =>
    have hS := cmp_start w s t m n
    revert hS
    generalize ((w.alloc (.cells (sgA s m) 32)).alloc (.cells (sgA t n) 32)) = W0
    intro hS
    refine wp_region_held_drew (S := fun w' => cmpS w s t m n w') (by kernel_rfl) hS (fun hHeld => ?_)
    clear hS
    refine wpAnyH_take (i := 0) (v := ?_) rfl (by kernel_rfl) (by kernel_rfl) (by kernel_rfl) (fun _ _ _ h => h) (Or.inl ⟨by rfl, ?_⟩) hHeld ?_
    rotate_left
    · rintro w' hS; obtain ⟨⟨c0, c1, -⟩, -⟩ := hS; go_simp; with_reducible rfl
    try simp only [Act.put, List.setIfInBounds_toArray, List.set_cons_zero, List.set_cons_succ]
    refine wpAnyH_take (i := 1) (v := ?_) rfl (by kernel_rfl) (by kernel_rfl) (by kernel_rfl) (fun _ _ _ h => h) (Or.inl ⟨by rfl, ?_⟩) hHeld ?_
    rotate_left
    · rintro w' hS; obtain ⟨⟨c0, c1, -⟩, -⟩ := hS; go_simp; with_reducible rfl
    try simp only [Act.put, List.setIfInBounds_toArray, List.set_cons_zero, List.set_cons_succ]
    refine wpAnyH_ready (rs := [2, 4]) (by kernel_rfl) (by simp) (AllReadyH.cons rfl (fun K hK => ?_) (AllReadyH.cons rfl (fun K hK => ?_) AllReadyH.nil))
    · go_simp
      refine (neg_any t n _).mono ?_
      rintro e w1 ⟨rfl, hb⟩
      have hN := cmpS_below hHeld hb
      refine hK.out _ _ hN (fun _ => ?_)
      clear hK K hHeld
      have hHeld := hN
      clear hN
      try simp only [Act.put, List.setIfInBounds_toArray, List.set_cons_zero, List.set_cons_succ]
      refine wpAnyH_ready (rs := [3, 4]) (by kernel_rfl) (by simp) (AllReadyH.cons rfl (fun K hK => ?_) (AllReadyH.cons rfl (fun K hK => ?_) AllReadyH.nil))
      · go_simp
        refine (add_any s (!t) m n hm hn _).mono ?_
        rintro e w2 ⟨s', m', rfl, hv, hle, hba⟩
        have hA := cmpS_below hHeld hba
        refine hK.out _ _ hA (fun _ => ?_)
        clear hK K hHeld
        have hHeld := hA
        try simp only [Act.put, List.setIfInBounds_toArray, List.set_cons_zero, List.set_cons_succ]
        refine wpAnyH_ready (rs := [4]) (by kernel_rfl) (by simp) (AllReadyH.cons rfl (fun K hK => ?_) AllReadyH.nil)
        go_simp
        have hL := cmpS_alloc hHeld (.cells #[.bool false, .int .i64 0, .int .i64 0, .int .i64 0, .int .i64 0, .int .i64 0, .int .i64 0, .int .i64 0, .int .i64 0, .int .i64 0] 32)
        refine hK.out _ _ hL (fun _ => ?_)
        clear hK K hHeld
        have hHeld := hL
        clear hL
        try simp only [Act.put, List.setIfInBounds_toArray, List.set_cons_zero, List.set_cons_succ]
        refine wpAnyH_ready (rs := [5]) (by kernel_rfl) (by simp) (AllReadyH.cons rfl (fun K hK => ?_) AllReadyH.nil)
        have hlt := hA.2.2
        have hm2 : Two200 m' := Nat.lt_of_le_of_lt hle (two_sum hm hn)
        have HA := hid hA
        have HV := hid hv
        clear hHeld hA hv hba hle
        unfold sgA
        go_simp
        refine hK.out _ _ ?_ (fun _ => ?_)
        · exact cmpS_alloc HA.out _
        clear hK K
        refine wpAnyH_done (by kernel_rfl) ?_ _
        go_wp2_with fail
        go_meet
        exact ⟨_, rfl, s', m', by rw [HV.out, val_not]; omega, hm2, by have := HA.out.2.1.size; omega, HA.out.2.1.alloc (by have := HA.out.2.1.size; omega) _, blk.new _ _ _⟩

      · obtain ⟨g, hg⟩ : ∃ g, g = w1.heap.size := ⟨_, rfl⟩
        have hg2 := hHeld.2.2
        rw [← hg] at hg2
        go_simp
        have hL := cmpS_alloc hHeld (.cells #[.bool false, .int .i64 0, .int .i64 0, .int .i64 0, .int .i64 0, .int .i64 0, .int .i64 0, .int .i64 0, .int .i64 0, .int .i64 0] 32)
        refine hK.out _ _ hL (fun _ => ?_)
        clear hK K hHeld
        have hHeld := hL
        clear hL
        try simp only [Act.put, List.setIfInBounds_toArray, List.set_cons_zero, List.set_cons_succ]
        have hgb : blk (w1.alloc (.cells #[.bool false, .int .i64 0, .int .i64 0, .int .i64 0, .int .i64 0, .int .i64 0, .int .i64 0, .int .i64 0, .int .i64 0, .int .i64 0] 32)) g zero10 32 := hg ▸ blk.new w1 zero10 _
        rw [← hg]
        clear hg
        have hg := hgb
        clear hgb
        refine wpAnyH_ready (rs := [3]) (by kernel_rfl) (by simp) (AllReadyH.cons rfl (fun K hK => ?_) AllReadyH.nil)
        go_simp
        refine (add_any s (!t) m n hm hn _).mono ?_
        rintro e w2 ⟨s', m', rfl, hv, hle, hba⟩
        have hA := cmpS_below hHeld hba
        refine hK.out _ _ hA (fun _ => ?_)
        clear hK K hHeld
        have hHeld := hA
        try simp only [Act.put, List.setIfInBounds_toArray, List.set_cons_zero, List.set_cons_succ]
        refine wpAnyH_ready (rs := [5]) (by kernel_rfl) (by simp) (AllReadyH.cons rfl (fun K hK => ?_) AllReadyH.nil)
        have hlt := hA.2.2
        have hm2 : Two200 m' := Nat.lt_of_le_of_lt hle (two_sum hm hn)
        have HA := hid hA
        have HV := hid hv
        have h5 : blk w2 g zero10 32 := hg.below hba (by have := hg.lt; omega)
        have c5 : ∀ i, w2.cell? ⟨g, i, none⟩ = (#[.bool false, .int .i64 0, .int .i64 0, .int .i64 0, .int .i64 0, .int .i64 0, .int .i64 0, .int .i64 0, .int .i64 0, .int .i64 0] : Array Value)[i]? := fun i => h5.cell i
        have f5 : ∀ i, w2.frozen? ⟨g, i, none⟩ = false := fun i => h5.free i
        have H5 := hid h5
        clear h5 hg
        clear hHeld hA hv hba hle
        unfold sgA
        go_simp
        refine hK.out _ _ ?_ (fun _ => ?_)
        · ((repeat (refine cmpS_set ?_ (by omega) _)); exact HA.out)
        clear hK K
        refine wpAnyH_done (by kernel_rfl) ?_ _
        go_wp2_with fail
        go_meet
        refine ⟨_, rfl, s', m', by rw [HV.out, val_not]; omega, hm2, by omega, ?_, ?_⟩
        · (repeat (refine bset ?_ (by omega) _)); exact HA.out.2.1
        · have := ((((((((((H5.out.set 0 (.bool s')).set 1 (.int .i64 (dg m' 0))).set 2 (.int .i64 (dg m' 1))).set 3 (.int .i64 (dg m' 2))).set 4 (.int .i64 (dg m' 3))).set 5 (.int .i64 (dg m' 4))).set 6 (.int .i64 (dg m' 5))).set 7 (.int .i64 (dg m' 6))).set 8 (.int .i64 (dg m' 7))).set 9 (.int .i64 (dg m' 8)))
          exact this.to (by simp [zero10, sgA])
    · obtain ⟨g, hg⟩ : ∃ g, g = W0.drew.heap.size := ⟨_, rfl⟩
      have hg2 := hHeld.2.2
      rw [← hg] at hg2
      go_simp
      have hL := cmpS_alloc hHeld (.cells #[.bool false, .int .i64 0, .int .i64 0, .int .i64 0, .int .i64 0, .int .i64 0, .int .i64 0, .int .i64 0, .int .i64 0, .int .i64 0] 32)
      refine hK.out _ _ hL (fun _ => ?_)
      clear hK K hHeld
      have hHeld := hL
      clear hL
      try simp only [Act.put, List.setIfInBounds_toArray, List.set_cons_zero, List.set_cons_succ]
      have hgb : blk (W0.drew.alloc (.cells #[.bool false, .int .i64 0, .int .i64 0, .int .i64 0, .int .i64 0, .int .i64 0, .int .i64 0, .int .i64 0, .int .i64 0, .int .i64 0] 32)) g zero10 32 := hg ▸ blk.new W0.drew zero10 _
      rw [show W0.heap.size = g from hg.symm]
      clear hg
      have hg := hgb
      clear hgb
      refine wpAnyH_ready (rs := [2]) (by kernel_rfl) (by simp) (AllReadyH.cons rfl (fun K hK => ?_) AllReadyH.nil)
      go_simp
      refine (neg_any t n _).mono ?_
      rintro e w1 ⟨rfl, hb⟩
      have hN := cmpS_below hHeld hb
      have hgb := hg.below hb hg.lt
      refine hK.out _ _ hN (fun _ => ?_)
      clear hK K hHeld hb hg
      have hHeld := hN
      have hg := hgb
      clear hN hgb
      try simp only [Act.put, List.setIfInBounds_toArray, List.set_cons_zero, List.set_cons_succ]
      refine wpAnyH_ready (rs := [3]) (by kernel_rfl) (by simp) (AllReadyH.cons rfl (fun K hK => ?_) AllReadyH.nil)
      go_simp
      refine (add_any s (!t) m n hm hn _).mono ?_
      rintro e w2 ⟨s', m', rfl, hv, hle, hba⟩
      have hA := cmpS_below hHeld hba
      refine hK.out _ _ hA (fun _ => ?_)
      clear hK K hHeld
      have hHeld := hA
      try simp only [Act.put, List.setIfInBounds_toArray, List.set_cons_zero, List.set_cons_succ]
      refine wpAnyH_ready (rs := [5]) (by kernel_rfl) (by simp) (AllReadyH.cons rfl (fun K hK => ?_) AllReadyH.nil)
      have hlt := hA.2.2
      have hm2 : Two200 m' := Nat.lt_of_le_of_lt hle (two_sum hm hn)
      have HA := hid hA
      have HV := hid hv
      have h5 : blk w2 g zero10 32 := hg.below hba (by have := hg.lt; omega)
      have c5 : ∀ i, w2.cell? ⟨g, i, none⟩ = (#[.bool false, .int .i64 0, .int .i64 0, .int .i64 0, .int .i64 0, .int .i64 0, .int .i64 0, .int .i64 0, .int .i64 0, .int .i64 0] : Array Value)[i]? := fun i => h5.cell i
      have f5 : ∀ i, w2.frozen? ⟨g, i, none⟩ = false := fun i => h5.free i
      have H5 := hid h5
      clear h5 hg
      clear hHeld hA hv hba hle
      unfold sgA
      go_simp
      refine hK.out _ _ ?_ (fun _ => ?_)
      · ((repeat (refine cmpS_set ?_ (by omega) _)); exact HA.out)
      clear hK K
      refine wpAnyH_done (by kernel_rfl) ?_ _
      go_wp2_with fail
      go_meet
      refine ⟨_, rfl, s', m', by rw [HV.out, val_not]; omega, hm2, by omega, ?_, ?_⟩
      · (repeat (refine bset ?_ (by omega) _)); exact HA.out.2.1
      · have := ((((((((((H5.out.set 0 (.bool s')).set 1 (.int .i64 (dg m' 0))).set 2 (.int .i64 (dg m' 1))).set 3 (.int .i64 (dg m' 2))).set 4 (.int .i64 (dg m' 3))).set 5 (.int .i64 (dg m' 4))).set 6 (.int .i64 (dg m' 5))).set 7 (.int .i64 (dg m' 6))).set 8 (.int .i64 (dg m' 7))).set 9 (.int .i64 (dg m' 8)))
        exact this.to (by simp [zero10, sgA])

  case rest =>
    obtain ⟨b, rfl, s', m', hv, hm', hb, hB, hblk⟩ := hcut
    have c5 : ∀ i, wc.cell? ⟨b, i, none⟩ = (#[.bool s', .int .i64 (dg m' 0), .int .i64 (dg m' 1), .int .i64 (dg m' 2), .int .i64 (dg m' 3), .int .i64 (dg m' 4), .int .i64 (dg m' 5), .int .i64 (dg m' 6), .int .i64 (dg m' 7), .int .i64 (dg m' 8)] : Array Value)[i]? := fun i => hblk.cell i
    have HB := hid hB
    have HV := hid hv
    clear hB hblk hv hm hn
    rcases Nat.eq_zero_or_pos m' with h0 | h0
    · have e0 := eq_zero_true m' hm' h0
      have H0 := hid h0
      clear h0 hm'
      go_wp2
      go_ret
      refine ⟨ret_i64 ?_, HB.out⟩
      rw [← HV.out, H0.out]; cases s' <;> rfl
    · have e0 := eq_zero_false m' hm' (by omega)
      have H0 := hid h0
      clear h0 hm'
      rcases s' with _ | _
      · go_wp2
        go_ret
        refine ⟨ret_i64 ?_, HB.out⟩
        have := H0.out
        rw [← HV.out]; unfold cmpI val; simp; omega
      · go_wp2
        go_ret
        refine ⟨ret_i64 ?_, HB.out⟩
        have := H0.out
        rw [← HV.out]; unfold cmpI val; simp; omega
end Go.Proofs.Ytlkemphhbamcfaa
