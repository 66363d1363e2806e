/-
  A store into a slice of the call's own, in a region that draws. It holds of every program; nothing is assumed.
-/
import Derived.Test.YtlkemphhbamcfaaEng8
namespace Go.Proofs.Ytlkemphhbamcfaa
open Go.RowKit
theorem D.storeO {P : Program} {a : Act} {w w0 : World} {n : Nat} {l : List (Nat × Value)} {Q : Exit → Act → World → Prop} {F : Nat → Prop} {L : List Ck} {S : World → Prop} {os : List Oper} {is : Ordt} {b0 : Bool} {i last : Nat} {t ty : TypeId} {x y : Operand} {pos : String} {aft : Array Edge}
    {k g o m cap : Nat} {e : TypeId} {xs : List Value} {u v : Value} (hA : St n l a) (hM : Mem w0 F L w) (ho : ith os i = some { dst := none, op := .store t x y, type := ty, pos, after := aft, guard := none }) (hi : szOf P t = some (false, 1)) (hx : opv l x = some (.pointer (some ⟨g, o, none⟩))) (hy : opv l y = some v) (hv : v.oneCell' = true)
    (hk : ith L k = some (own e 1 (.slice (some ⟨g, 0, none⟩) m cap) m xs)) (hu : xs[o]? = some u) (h : ∀ w', Mem w0 F (setAt L k (own e 1 (.slice (some ⟨g, 0, none⟩) m cap) m (xs.set o v))) w' → (b0 = false → i ≠ last → S w') ∧ wpOrd P last os Q S (b0 || Nat.beq i last) is a w') : wpOrd P last os Q S b0 (.cons (i, false) is) a w :=
  have g := h _ (hM.ownStore hk o v)
  D.skip hA ho (R.store hi hx hy hv (hM.ownCell hk hu) (hM.ownFree hk o)) g.1 g.2
end Go.Proofs.Ytlkemphhbamcfaa
