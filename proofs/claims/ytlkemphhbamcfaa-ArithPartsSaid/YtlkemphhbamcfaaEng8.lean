/-
  Stores into slices of the call's own; structs of few plain cells held against each other. It holds of every program; nothing is assumed.
-/
import Derived.Test.YtlkemphhbamcfaaEng7
import Derived.Test.YtlkemphhbamcfaaEng6
namespace Go.Proofs.Ytlkemphhbamcfaa
open Go.RowKit
section
variable {P : Program} {R : Ending → World → Prop} {f : FuncId} {a : Act} {w w0 : World} {n : Nat} {l : List (Nat × Value)} {ops : Array Oper} {Q : Exit → Act → World → Prop} {rest : List Oper} {F : Nat → Prop} {L : List Ck}
  {S : World → Prop} {os : List Oper} {is : Ordt} {b0 : Bool} {i last : Nat} {d : Nat} {t ty : TypeId} {x y : Operand} {pos : String} {aft : Array Edge}
theorem S.storeO {k g o m cap : Nat} {e : TypeId} {xs : List Value} {u v : Value} (hA : St n l a) (hM : Mem w0 F L w) (hi : szOf P t = some (false, 1)) (hx : opv l x = some (.pointer (some ⟨g, o, none⟩))) (hy : opv l y = some v) (hv : v.oneCell' = true)
    (hk : ith L k = some (own e 1 (.slice (some ⟨g, 0, none⟩) m cap) m xs)) (hu : xs[o]? = some u) (h : ∀ w', Mem w0 F (setAt L k (own e 1 (.slice (some ⟨g, 0, none⟩) m cap) m (xs.set o v))) w' → wpList P ops Q rest a w') :
    wpList P ops Q ({ dst := none, op := .store t x y, type := ty, pos, after := aft, guard := none } :: rest) a w :=
  S.skip hA (R.store hi hx hy hv (hM.ownCell hk hu) (hM.ownFree hk o)) (h _ (hM.ownStore hk o v))
theorem S.buildSlg {e : TypeId} {jg dj : Nat} {u : Bool} {len : Nat} {ps : Array (Nat × Operand)} {vs : List Value} {cells : Array Value} {j : TypeInfo} {z : Value} (hA : St n l a) (hM : Mem w0 F L w) (hj : dstOf ops jg = some dj) (hl : lk l dj = some (.bool u)) (ht : P.underlying t = some (.slice e)) (hi : P.info? e = some j) (hz : j.zero = some z) (hp : opvs l (ps.toList.map (·.2)) = some vs)
    (hsm : Nat.ble (len * j.size) 1000 = true) (hps : Nat.beq (len * j.size) 0 = false) (hf : Instr.fill (fun i => some (i * j.size, j.size)) ((Array.range (len * j.size)).map (z.cells[· % z.cells.size]!)) ((ps.toList.map (·.1)).zip vs) = some cells) (hd : Nat.blt d n = true)
    (h : ∀ b w', w0.heap.size ≤ b → Mem w0 F (pt b cells e :: L) w' → ∀ a, St n ((d, .slice (some ⟨b, 0, none⟩) len len) :: l) a → wpList P ops Q rest a w') :
    wpList P ops Q ({ dst := some d, op := .buildSlice t len ps, type := ty, pos, after := aft, guard := some (jg, u) } :: rest) a w :=
  S.valg hA hj hl (R.buildSl ht hi hz hp hsm hps hf) hd (h _ _ hM.size (hM.alloc _ _))
end
/-- A slice that a call answers, of its own. -/
theorem own_slice {w w' : World} {e : TypeId} {v : Value} {n : Nat} {xs : List Value} (ho : w'.ownsRow w.heap.size e 1 v n xs) (hb : Below w.heap.size w w') : ∃ a cap, v = .slice a n cap ∧ Mem w nof [own e 1 (.slice a n cap) n xs] w' := by
  have h := Mem.ofOwn hb ho
  obtain ⟨a, cap, rfl, -⟩ := own_form (h.mem (k := 0) rfl)
  exact ⟨a, cap, rfl, h⟩
end Go.Proofs.Ytlkemphhbamcfaa
