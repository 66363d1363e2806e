/-
  Small helps for a walk through a region that draws its order: an operation of the region, written out.
-/
import Derived.Test.YtlkemphhbamcfaaLib
import Derived.Deep.RegionHeld
import Derived.KernelRfl
namespace Go.Proofs.Ytlkemphhbamcfaa
open Go.RowKit

theorem gz {α : Type} (o : α) (l : List α) : (o :: l).toArray[0]? = some o := rfl
theorem gs {α : Type} {o x : α} {l : List α} {n : Nat} (h : l.toArray[n]? = some x) : (o :: l).toArray[n + 1]? = some x := by
  simpa using h
theorem bundrew {B : Nat} {w w' : World} (h : Below B w.drew w') : Below B w w' := ⟨h.os, h.tape, h.output, h.size, h.block⟩

end Go.Proofs.Ytlkemphhbamcfaa
