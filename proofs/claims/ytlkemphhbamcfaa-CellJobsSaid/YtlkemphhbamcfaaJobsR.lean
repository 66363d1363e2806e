/-
  For the law CellJobs: what a row of jobs reads as, ops held against each other, clones, what is read of the reference.
-/
import Derived.Test.YtlkemphhbamcfaaShelf
import Derived.Test.YtlkemphhbamcfaaJobsW
import Derived.Test.YtlkemphhbamcfaaOpenS
import Derived.Test.YtlkemphhbamcfaaEng8
import Derived.Test.YtlkemphhbamcfaaPacks
namespace Go.Proofs.Ytlkemphhbamcfaa
open Go.RowKit

theorem RowSl.four {w : World} {a : Option Addr} {n cap : Nat} {l : List Int} (h : RowSl w (.slice a n cap) 4 n l) (hall : AllI l) {i : Nat} (hi : i < n) :
    ∃ b off x0 x1 x2 x3, a = some ⟨b, off, none⟩ ∧ (-9223372036854775808 ≤ x2 ∧ x2 ≤ 9223372036854775807) ∧ (-9223372036854775808 ≤ x3 ∧ x3 ≤ 9223372036854775807) ∧
      ∀ j v, ([.int .i64 x0, .int .i64 x1, .int .i64 x2, .int .i64 x3] : List Value)[j]? = some v → w.cell? ⟨b, off + i * 4 + j, none⟩ = some v := by
  obtain ⟨a', cap', he, -, -, hlen, -⟩ := id h
  cases he
  obtain ⟨b, off, rfl, hc⟩ := h.at hi
  refine ⟨b, off, l.getD (i * 4 + 0) 0, l.getD (i * 4 + 1) 0, l.getD (i * 4 + 2) 0, l.getD (i * 4 + 3) 0, rfl, hall.at (i := i * 4 + 2) (by omega), hall.at (i := i * 4 + 3) (by omega), fun j v hj => ?_⟩
  match j, hj with
  | 0, hj => exact (hc 0 (by omega)).trans hj
  | 1, hj => exact (hc 1 (by omega)).trans hj
  | 2, hj => exact (hc 2 (by omega)).trans hj
  | 3, hj => exact (hc 3 (by omega)).trans hj
  | j + 4, hj => simp at hj
theorem Mem.ne2 {w0 w : World} {F : Nat → Prop} {L : List Ck} {b c : Nat} {cs ds : Array Value} {t u : TypeId} (h : Mem w0 F (pt b cs t :: pt c ds u :: L) w) : b ≠ c := fun e => by
  subst e
  exact (List.pairwise_cons.1 h.apart).1 _ (List.mem_cons_self ..) b rfl rfl
theorem eq_cop (k i x y : Int) (d : Bool) (w : World) : (Op.equalIn 10000 79 (.agg #[.int .i64 k, .int .i64 i, .int .i64 x, .int .i64 y, .bool d]) (.agg #[.int .i64 k, .int .i64 i, .int .i64 x, .int .i64 y, .bool d])).run Try.prog w = .ok true w := by
  have u3 := Try.underlying3
  have q3 := Try.isAgg3
  have z3 := Try.sizeOf3
  have u4 := Try.underlying4
  have q4 := Try.isAgg4
  have z4 := Try.sizeOf4
  have hS : Try.prog.underlying 79 = some (.struct (Try.prog.fieldsOf 79)) := by kernel_rfl
  have hp : Try.prog.stoodInHeld 79 = false := by kernel_rfl
  rw [show (10000 : Nat) = 9999 + 1 from rfl, run_equalIn_agg w 9999 79 _ _ hS hp]
  simp only [Program.fieldsOf, Try.underlying79]
  go_simp
theorem eq_rop (k i x y : Int) (d : Bool) (w : World) : (Op.equalIn 10000 83 (.agg #[.int .i64 k, .int .i64 i, .int .i64 x, .int .i64 y, .bool d]) (.agg #[.int .i64 k, .int .i64 i, .int .i64 x, .int .i64 y, .bool d])).run Try.prog w = .ok true w := by
  have u3 := Try.underlying3
  have q3 := Try.isAgg3
  have z3 := Try.sizeOf3
  have u4 := Try.underlying4
  have q4 := Try.isAgg4
  have z4 := Try.sizeOf4
  have hS : Try.prog.underlying 83 = some (.struct (Try.prog.fieldsOf 83)) := by kernel_rfl
  have hp : Try.prog.stoodInHeld 83 = false := by kernel_rfl
  rw [show (10000 : Nat) = 9999 + 1 from rfl, run_equalIn_agg w 9999 83 _ _ hS hp]
  simp only [Program.fieldsOf, Try.underlying83]
  go_simp
/-- A clone of a whole block of ints. -/
theorem clone_pt (c : Nat) (l : List Int) (hl : l.length ≤ 1000) (w : World) (hc : (pt c (ints l) 3).holds w) :
    Calls Try.prog 76 #[.slice (some ⟨c, 0, none⟩) l.length l.length] w fun e w' => ∃ a2 c2, e = .returned (.slice a2 l.length c2) ∧ Mem w nof [own 3 1 (.slice a2 l.length c2) l.length (l.map (Value.int .i64))] w' := by
  have hb : w.heap[c]? = some (.cells (ints l) 3 (0, 0)) := hc
  have hcell : ∀ j, j < l.length → w.cell? ⟨c, 0 + j, none⟩ = some (.int .i64 (l.getD j 0)) := fun j hj => by
    simp [World.cell?, hb, ints_getD l j hj]
  refine Calls.mono (Try.slices_Clone_int c 0 l.length l.length l w (Nat.le_refl _) (by omega) hcell) (fun e w' hp => ?_)
  obtain ⟨v', he, hown, -, hbw⟩ := hp
  rw [List.take_length] at hown
  obtain ⟨a2, c2, rfl, hm⟩ := own_slice hown hbw
  exact ⟨a2, c2, he, hm⟩
end Go.Proofs.Ytlkemphhbamcfaa
