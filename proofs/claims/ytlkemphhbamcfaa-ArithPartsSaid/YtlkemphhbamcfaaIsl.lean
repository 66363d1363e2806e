/-
  Slices of ints that are only read: what a slice reads as.
-/
import Derived.Test.YtlkemphhbamcfaaInts
namespace Go.Proofs.Ytlkemphhbamcfaa
open Go.RowKit

/-- The slice value v reads as the numbers l. -/
def IntSl (w : World) (v : Value) (l : List Int) : Prop :=
  ∃ a cap, v = .slice a l.length cap ∧ l.length ≤ cap ∧ cap ≤ maxLen ∧ (a = none → cap = 0) ∧ (l ≠ [] → ∃ b off, a = some ⟨b, off, none⟩ ∧ b < w.heap.size ∧ ∀ i, i < l.length → w.cell? ⟨b, off + i, none⟩ = some (.int .i64 (l.getD i 0)))
theorem IntSl.below {B : Nat} {w w' : World} {v : Value} {l : List Int} (h : IntSl w v l) (hb : Below B w w') (hB : w.heap.size ≤ B) : IntSl w' v l := by
  obtain ⟨a, cap, rfl, hle, hmx, hnn, h⟩ := h
  refine ⟨a, cap, rfl, hle, hmx, hnn, fun hn => ?_⟩
  obtain ⟨b, off, rfl, hlt, hc⟩ := h hn
  refine ⟨b, off, rfl, Nat.lt_of_lt_of_le hlt hb.size, fun i hi => ?_⟩
  rw [(bcell hb).1 _ _ (by omega)]; exact hc i hi

/-- The list of a slice that is known cell by cell. -/
theorem getD_mem {l : List Int} {i : Nat} (h : i < l.length) : l.getD i 0 ∈ l := by
  rw [List.getD_eq_getElem?_getD, List.getElem?_eq_getElem h]; exact List.getElem_mem h

theorem take_succ_getD (l : List Int) (k : Nat) (h : k < l.length) : l.take (k + 1) = l.take k ++ [l.getD k 0] := by
  rw [List.take_succ_eq_append_getElem h, List.getD_eq_getElem?_getD, List.getElem?_eq_getElem h]; rfl

end Go.Proofs.Ytlkemphhbamcfaa
