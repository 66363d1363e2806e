/-
  A slice held against nil; parts of the call's own slices. It holds of every program; nothing is assumed.
-/
import Derived.Test.YtakfcekfmdjklaaDoorEngV
import Derived.WalkSpells
namespace Go.Proofs.YtakfcekfmdjklaaDoor
open Go.RowKit
section
variable {P : Program} {l : List (Nat × Value)} {w w0 : World} {ty : TypeId} {x y z : Operand} {k k' : IntKind} {m n : Int} {t yt e : TypeId}
theorem R.eqlNilS {a : Option Addr} {c d : Nat} (ht : P.underlying t = some (.slice e)) (hx : opv l x = some (.slice a c d)) (hy : opv l y = some (.slice none 0 0)) : Run P l w (.binOp .eql t x y yt) ty (.bool a.isNone) w := fun ev h _ _ _ _ => by
  have h1 := Lib.run_equalIn_slice_nil (P := P) w 9999 t e a c d 0 0 ht
  simp [execOp, h _ _ hx, h _ _ hy, eqGuard, binOp, Op.equal, Op.maxDepth, h1]
theorem R.sliceLO {g len cap lo : Nat} {j : TypeInfo} (ht : P.underlying t = some (.slice e)) (hj : P.info? e = some j) (h1 : j.size = 1) (hx : opv l x = some (.slice (some ⟨g, 0, none⟩) len cap)) (hy : opv l y = some (.int k n)) (hn : n = (lo : Int)) (hc : lo ≤ len) (hcc : len ≤ cap) (hlt : lo < cap) :
    Run P l w (.slice t x (some y) none none) ty (.slice (some ⟨g, lo, none⟩) (len - lo) (cap - lo)) w := by
  have := R.sliceL (P := P) (w := w) (ty := ty) ht hj h1 hx hy hn hc hcc
  rwa [if_neg (by omega), Nat.zero_add] at this
end
end Go.Proofs.YtakfcekfmdjklaaDoor
