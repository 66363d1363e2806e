/-
  The walks of kurganref01's numbers with a sign.
-/
import Derived.Test.YtlkemphhbamcfaaRef01t
import Derived.Deep.DrawnRows
import Derived.Deep.RegionWith
namespace Go.Proofs.Ytlkemphhbamcfaa
open Go.RowKit
attribute [local go_sem ↓] Go.wp_at_zero Go.wp_at_succ

def sgA (s : Bool) (n : Nat) : Array Value := #[.bool s, .int .i64 (dg n 0), .int .i64 (dg n 1), .int .i64 (dg n 2), .int .i64 (dg n 3), .int .i64 (dg n 4), .int .i64 (dg n 5), .int .i64 (dg n 6), .int .i64 (dg n 7), .int .i64 (dg n 8)]

set_option maxHeartbeats 400000 in
theorem neg_any (s : Bool) (n : Nat) (w : World)  :
    Calls Try.prog 33 #[.agg (sgA s n)] w fun e w' => e = .returned (.agg (sgA (!s) n)) ∧ Below w.heap.size w w' := by
  unfold sgA
  go_enter Try.func33, Try.ntmps33
  go_wp2
  refine bodyPost_ret (v := .agg (sgA (!s) n)) (by simp [results, Try.results33, go_sem, sgA]) rfl ⟨rfl, ?_⟩
  exact ((Below.refl _ _).alloc (Nat.le_refl _) _).alloc (by simp) _

set_option maxHeartbeats 400000 in
theorem num_any (a : Int) (h0 : -9223372036854775808 ≤ a) (h1 : a ≤ 9223372036854775807) (w : World)  :
    Calls Try.prog 22 #[.int .i64 a] w fun e w' => e = .returned (.agg (sgA (decide (a < 0)) a.natAbs)) ∧ Below w.heap.size w w' := by
  go_enter Try.func22, Try.ntmps22
  go_wp2_with fail
  refine (of_any a h0 h1 _).mono ?_
  rintro e w1 ⟨rfl, hb⟩
  unfold bigA
  obtain ⟨hc, hf⟩ := bcell hb
  have HB := hid hb
  clear hb
  go_wp2
  refine bodyPost_ret (v := .agg (sgA (decide (a < 0)) a.natAbs)) (by simp [results, Try.results22, go_sem, sgA, hc]) rfl ⟨rfl, ?_⟩
  (repeat (refine bset ?_ (by omega) _)); exact ((Below.refl _ _).alloc (Nat.le_refl _) _).trans (HB.out.mono (by simp))

def zero10 : Array Value := #[.bool false, .int .i64 0, .int .i64 0, .int .i64 0, .int .i64 0, .int .i64 0, .int .i64 0, .int .i64 0, .int .i64 0, .int .i64 0]

def addW (w : World) (s t : Bool) (m n : Nat) : World := ((w.alloc (.cells (sgA s m) 32)).alloc (.cells (sgA t n) 32)).alloc (.cells zero10 32)
/-- What is known of a world in which both numbers, and the place of the answer, lie in three blocks. -/
def addF (w : World) (s t : Bool) (m n : Nat) (W : World) : Prop :=
    (∀ i, W.cell? ⟨w.heap.size, i, none⟩ = (#[.bool s, .int .i64 (dg m 0), .int .i64 (dg m 1), .int .i64 (dg m 2), .int .i64 (dg m 3), .int .i64 (dg m 4), .int .i64 (dg m 5), .int .i64 (dg m 6), .int .i64 (dg m 7), .int .i64 (dg m 8)] : Array Value)[i]?) ∧
    (∀ i, W.cell? ⟨w.heap.size + 1, i, none⟩ = (#[.bool t, .int .i64 (dg n 0), .int .i64 (dg n 1), .int .i64 (dg n 2), .int .i64 (dg n 3), .int .i64 (dg n 4), .int .i64 (dg n 5), .int .i64 (dg n 6), .int .i64 (dg n 7), .int .i64 (dg n 8)] : Array Value)[i]?) ∧
    (∀ i, W.cell? ⟨w.heap.size + 1 + 1, i, none⟩ = (#[.bool false, .int .i64 0, .int .i64 0, .int .i64 0, .int .i64 0, .int .i64 0, .int .i64 0, .int .i64 0, .int .i64 0, .int .i64 0] : Array Value)[i]?) ∧
    (∀ i, W.frozen? ⟨w.heap.size + 1 + 1, i, none⟩ = false) ∧ Below w.heap.size w W ∧ w.heap.size < W.heap.size ∧ w.heap.size + 1 < W.heap.size ∧ w.heap.size + 1 + 1 < W.heap.size
theorem add_start (w : World) (s t : Bool) (m n : Nat) : addF w s t m n (addW w s t m n) := by
  have h0 : blk (addW w s t m n) w.heap.size (sgA s m) 32 := by unfold addW; repeat (first | (refine blk.at_ ?_ rfl; simp; done) | refine blk.alloc ?_ _)
  have h1 : blk (addW w s t m n) (w.heap.size + 1) (sgA t n) 32 := by unfold addW; repeat (first | (refine blk.at_ ?_ rfl; simp; done) | refine blk.alloc ?_ _)
  have h2 : blk (addW w s t m n) (w.heap.size + 1 + 1) zero10 32 := by unfold addW; repeat (first | (refine blk.at_ ?_ rfl; simp; done) | refine blk.alloc ?_ _)
  have hz : w.heap.size + 1 + 1 < (addW w s t m n).heap.size := by simp [addW]
  exact ⟨fun i => h0.cell i, fun i => h1.cell i, fun i => h2.cell i, fun i => h2.free i, (((Below.refl _ _).alloc (Nat.le_refl _) _).alloc (by simp) _).alloc (by simp; omega) _, by omega, by omega, hz⟩
theorem add_keep {w : World} {s t : Bool} {m n : Nat} {W w1 : World} (h : addF w s t m n W) (hb : Below W.heap.size W w1) : addF w s t m n w1 := by
  obtain ⟨c0, c1, c2, f2, hB, hz0, hz1, hz⟩ := h
  obtain ⟨hc, hf⟩ := bcell hb
  have hs := hb.size
  exact ⟨fun i => by rw [hc _ _ hz0]; exact c0 i, fun i => by rw [hc _ _ hz1]; exact c1 i, fun i => by rw [hc _ _ hz]; exact c2 i, fun i => by rw [hf _ _ hz]; exact f2 i, hB.trans (hb.mono (by omega)), by omega, by omega, by omega⟩

set_option maxHeartbeats 1600000 in
theorem add_same (s : Bool) (m n : Nat) (w : World)  :
    Calls Try.prog 20 #[.agg (sgA s m), .agg (sgA s n)] w fun e w' => e = .returned (.agg (sgA s (m+n))) ∧ Below w.heap.size w w' := by
  have q0 : (sgA s m)[0]? = some (.bool s) := rfl
  have q1 : (sgA s n)[0]? = some (.bool s) := rfl
  have hs : ((s == s) = true) := by simp
  go_enter Try.func20, Try.ntmps20
  go_wp2_with fail
  clear q0 q1
  generalize hW : ((w.alloc (.cells (sgA s m) 32)).alloc (.cells (sgA s n) 32)).alloc (.cells #[.bool false, .int .i64 0, .int .i64 0, .int .i64 0, .int .i64 0, .int .i64 0, .int .i64 0, .int .i64 0, .int .i64 0, .int .i64 0] 32) = W
  obtain ⟨c0, c1, c2, f2, hB, hz0, hz1, hz⟩ : addF w s s m n W := by rw [← hW]; exact add_start w s s m n
  have HB := hid hB
  clear hW hB
  go_region_with (go_at_call 57; refine (plus_any m n _).mono ?_; rintro e w1 ⟨rfl, hb⟩; have hb1 : Below W.heap.size W w1 := ⟨hb.os, hb.tape, hb.output, hb.size, hb.block⟩; clear hb; obtain ⟨hc, hf⟩ := bcell hb1; have hb2 := hid hb1; clear hb1; unfold bigA)
  all_goals
    go_wp2
    refine bodyPost_ret (v := .agg (sgA s (m+n))) (by simp [results, Try.results20, go_sem, sgA, hc, c2, *]) rfl ⟨rfl, ?_⟩
    (repeat (refine bset ?_ (by omega) _)); exact HB.out.trans (hb2.out.mono (by omega))

end Go.Proofs.Ytlkemphhbamcfaa
