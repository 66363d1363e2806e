/-
  The walks of kurganref01.Mul, Add (by the numbers' values) and Cmp.
-/
import Derived.Test.YtlkemphhbamcfaaRef01v
import Derived.Deep.RegionHeld
namespace Go.Proofs.Ytlkemphhbamcfaa
open Go.RowKit

theorem addF_drew {w W : World} {s t : Bool} {m n : Nat} (h : addF w s t m n W) : addF w s t m n W.drew := ⟨h.1, h.2.1, h.2.2.1, h.2.2.2.1, h.2.2.2.2.1.drew, h.2.2.2.2.2⟩
/-- What stays while the answer is written: both numbers. -/
def addG (w : World) (s t : Bool) (m n : Nat) (W : World) : Prop :=
    (∀ i, W.cell? ⟨w.heap.size, i, none⟩ = (#[.bool s, .int .i64 (dg m 0), .int .i64 (dg m 1), .int .i64 (dg m 2), .int .i64 (dg m 3), .int .i64 (dg m 4), .int .i64 (dg m 5), .int .i64 (dg m 6), .int .i64 (dg m 7), .int .i64 (dg m 8)] : Array Value)[i]?) ∧
    (∀ i, W.cell? ⟨w.heap.size + 1, i, none⟩ = (#[.bool t, .int .i64 (dg n 0), .int .i64 (dg n 1), .int .i64 (dg n 2), .int .i64 (dg n 3), .int .i64 (dg n 4), .int .i64 (dg n 5), .int .i64 (dg n 6), .int .i64 (dg n 7), .int .i64 (dg n 8)] : Array Value)[i]?) ∧ True
theorem addG_set {w : World} {s t : Bool} {m n : Nat} {W : World} (h : addG w s t m n W) {b i : Nat} (hb : w.heap.size + 1 < b) (v : Value) : addG w s t m n (W.setCell ⟨b, i, none⟩ v) :=
  ⟨fun j => by rw [World.cell?_setCell_other _ _ _ _ (by intro e; injection e; omega)]; exact h.1 j, fun j => by rw [World.cell?_setCell_other _ _ _ _ (by intro e; injection e; omega)]; exact h.2.1 j, trivial⟩
theorem addG_alloc {w : World} {s t : Bool} {m n : Nat} {W : World} (h : addG w s t m n W) (o : Obj) (hb : w.heap.size + 1 < W.heap.size) : addG w s t m n (W.alloc o) :=
  ⟨fun j => by rw [World.cell?_alloc_lt _ _ _ (by simp; omega)]; exact h.1 j, fun j => by rw [World.cell?_alloc_lt _ _ _ (by simp; omega)]; exact h.2.1 j, trivial⟩
theorem addG_below {w : World} {s t : Bool} {m n : Nat} {W w1 : World} (h : addG w s t m n W) (hb : Below W.heap.size W w1) (hz : w.heap.size + 1 < W.heap.size) : addG w s t m n w1 := by
  obtain ⟨hc, hf⟩ := bcell hb
  exact ⟨fun i => by rw [hc _ _ (by omega)]; exact h.1 i, fun i => by rw [hc _ _ (by omega)]; exact h.2.1 i, trivial⟩
theorem addF_G {w W : World} {s t : Bool} {m n : Nat} (h : addF w s t m n W) : addG w s t m n W := ⟨h.1, h.2.1, trivial⟩
theorem bundrew {B : Nat} {w w' : World} (h : Below B w.drew w') : Below B w w' := ⟨h.os, h.tape, h.output, h.size, h.block⟩

set_option maxHeartbeats 800000 in
theorem mul_any (s t : Bool) (m n : Nat) (hm : Four m) (hn : Four n) (w : World)  :
    Calls Try.prog 21 #[.agg (sgA s m), .agg (sgA t n)] w fun e w' => e = .returned (.agg (sgA (s != t) (m*n))) ∧ Below w.heap.size w w' := by
  go_enter Try.func21, Try.ntmps21
  go_wp2_with fail
  generalize hW : ((w.alloc (.cells (sgA s m) 32)).alloc (.cells (sgA t n) 32)).alloc (.cells #[.bool false, .int .i64 0, .int .i64 0, .int .i64 0, .int .i64 0, .int .i64 0, .int .i64 0, .int .i64 0, .int .i64 0, .int .i64 0] 32) = W
  have hF : addF w s t m n W := by rw [← hW]; exact add_start w s t m n
  clear hW
  refine wp_region_held_drew (S := fun w' => addG w s t m n w') (by kernel_rfl) (addF_G (addF_drew hF)) (fun hHeld => ?_)
  obtain ⟨c0', c1', c2, f2, hB, hz0, hz1, hz⟩ := hF
  clear c0' c1'
  refine wpAnyH_take (i := 0) (v := ?_) rfl (by kernel_rfl) (by kernel_rfl) (by kernel_rfl) (fun _ _ _ h => h) (Or.inl ⟨by rfl, ?_⟩) hHeld ?_
  rotate_left
  · rintro w' _; go_simp; with_reducible rfl
  try simp only [Act.put, List.setIfInBounds_toArray, List.set_cons_zero, List.set_cons_succ]
  refine wpAnyH_take (i := 2) (v := ?_) rfl (by kernel_rfl) (by kernel_rfl) (by kernel_rfl) (fun _ _ _ h => h) (Or.inl ⟨by rfl, ?_⟩) hHeld ?_
  rotate_left
  · rintro w' _; go_simp; with_reducible rfl
  try simp only [Act.put, List.setIfInBounds_toArray, List.set_cons_zero, List.set_cons_succ]
  refine wpAnyH_take (i := 5) (v := ?_) rfl (by kernel_rfl) (by kernel_rfl) (by kernel_rfl) (fun _ _ _ h => h) (Or.inl ⟨by rfl, ?_⟩) hHeld ?_
  rotate_left
  · rintro w' _; go_simp; with_reducible rfl
  try simp only [Act.put, List.setIfInBounds_toArray, List.set_cons_zero, List.set_cons_succ]
  refine wpAnyH_take (i := 7) (v := ?_) rfl (by kernel_rfl) (by kernel_rfl) (by kernel_rfl) (fun _ _ _ h => h) (Or.inl ⟨by rfl, ?_⟩) hHeld ?_
  rotate_left
  · rintro w' _; go_simp; with_reducible rfl
  try simp only [Act.put, List.setIfInBounds_toArray, List.set_cons_zero, List.set_cons_succ]
  refine wpAnyH_take (i := 1) (v := ?_) rfl (by kernel_rfl) (by kernel_rfl) (by kernel_rfl) (fun _ _ _ h => h) (Or.inl ⟨by rfl, ?_⟩) hHeld ?_
  rotate_left
  · rintro w' ⟨c0, c1, -⟩; go_simp; with_reducible rfl
  try simp only [Act.put, List.setIfInBounds_toArray, List.set_cons_zero, List.set_cons_succ]
  refine wpAnyH_take (i := 3) (v := ?_) rfl (by kernel_rfl) (by kernel_rfl) (by kernel_rfl) (fun _ _ _ h => h) (Or.inl ⟨by rfl, ?_⟩) hHeld ?_
  rotate_left
  · rintro w' ⟨c0, c1, -⟩; go_simp; with_reducible rfl
  try simp only [Act.put, List.setIfInBounds_toArray, List.set_cons_zero, List.set_cons_succ]
  refine wpAnyH_take (i := 4) (v := ?_) rfl (by kernel_rfl) (by kernel_rfl) (by kernel_rfl) (fun _ _ _ h => h) (Or.inl ⟨by rfl, ?_⟩) hHeld ?_
  rotate_left
  · rintro w' _; go_simp; with_reducible rfl
  try simp only [Act.put, List.setIfInBounds_toArray, List.set_cons_zero, List.set_cons_succ]
  refine wpAnyH_take (i := 6) (v := ?_) rfl (by kernel_rfl) (by kernel_rfl) (by kernel_rfl) (fun _ _ _ h => h) (Or.inl ⟨by rfl, ?_⟩) hHeld ?_
  rotate_left
  · rintro w' ⟨c0, c1, -⟩; go_simp; with_reducible rfl
  try simp only [Act.put, List.setIfInBounds_toArray, List.set_cons_zero, List.set_cons_succ]
  refine wpAnyH_take (i := 8) (v := ?_) rfl (by kernel_rfl) (by kernel_rfl) (by kernel_rfl) (fun _ _ _ h => h) (Or.inl ⟨by rfl, ?_⟩) hHeld ?_
  rotate_left
  · rintro w' ⟨c0, c1, -⟩; go_simp; with_reducible rfl
  try simp only [Act.put, List.setIfInBounds_toArray, List.set_cons_zero, List.set_cons_succ]
  refine wpAnyH_ready (rs := [9]) (by kernel_rfl) (by simp) (AllReadyH.cons rfl (fun K hK => ?_) AllReadyH.nil)
  go_simp
  refine (times_any m n hm hn _).mono ?_
  rintro e w1 ⟨rfl, hb⟩
  unfold bigA
  have hb1 : Below W.heap.size W w1 := bundrew hb
  obtain ⟨hc, hf⟩ := bcell hb1
  refine hK.out _ _ (addG_below hHeld hb (by simp; omega)) (fun hHeld => ?_)
  clear hK K hb
  try simp only [Act.put, List.setIfInBounds_toArray, List.set_cons_zero, List.set_cons_succ]
  refine wpAnyH_take (i := 10) (v := ?_) rfl (by kernel_rfl) (by kernel_rfl) (by kernel_rfl) (fun _ _ _ h => h) (Or.inl ⟨by rfl, ?_⟩) hHeld ?_
  rotate_left
  · rintro w' _; go_simp; with_reducible rfl
  try simp only [Act.put, List.setIfInBounds_toArray, List.set_cons_zero, List.set_cons_succ]
  refine wpAnyH_ready (rs := [11]) (by kernel_rfl) (by simp) (AllReadyH.cons rfl (fun K hK => ?_) AllReadyH.nil)
  have HB := hid hB
  have HB1 := hid hb1
  have HH := hid hHeld
  clear hB hb1 hHeld
  go_simp
  refine hK.out _ _ ?_ (fun hHeld => ?_)
  · (repeat (refine addG_set ?_ (by omega) _)); exact HH.out
  clear hK K
  refine wpAnyH_done (by kernel_rfl) ?_ _
  go_wp2
  refine bodyPost_ret (v := .agg (sgA (s != t) (m*n))) (by simp [results, Try.results21, go_sem, sgA, hc, c2, *]; first | done | (cases s <;> cases t <;> rfl)) rfl ⟨rfl, ?_⟩
  (repeat (refine bset ?_ (by omega) _)); exact HB.out.trans (HB1.out.mono (by omega))

end Go.Proofs.Ytlkemphhbamcfaa
