/-
  A slice of no elements; an own slice appended to another. It holds of every program; nothing is assumed.
-/
import Derived.Test.YtlkemphhbamcfaaEng8
namespace Go.Proofs.Ytlkemphhbamcfaa
open Go.RowKit

theorem allOne_ints : ∀ X : List Int, allOne (X.map (Value.int .i64)) = true
  | [] => rfl
  | _ :: X => by simp only [List.map_cons, allOne, allOne_ints X, Bool.and_true]; rfl
section
variable {P : Program} {R : Ending → World → Prop} {f : FuncId} {a : Act} {w w0 : World} {nn : Nat} {l : List (Nat × Value)} {ops : Array Oper} {Q : Exit → Act → World → Prop} {rest : List Oper} {F : Nat → Prop} {L : List Ck}
  {S : World → Prop} {os : List Oper} {is : Ordt} {i last : Nat} {d : Nat} {t e ty : TypeId} {x y : Operand} {pos : String} {aft : Array Edge}
theorem R.buildSl0 {i : TypeInfo} (ht : P.underlying t = some (.slice e)) (hi : P.info? e = some i) : Run P l w (.buildSlice t 0 #[]) ty (.slice (some ⟨w.heap.size, 0, none⟩) 0 0) (w.alloc (.cells #[] e)) := fun ev h _ _ _ _ => by
  have h0 : Array.range 0 = #[] := rfl
  have h1 : (Instr.buildSlice t 0 (Array.map (fun x : Nat × Operand => (x.1, ev x.2)) #[])).run P w = .ok (.slice (some ⟨w.heap.size, 0, none⟩) 0 0) (w.alloc (.cells #[] e)) := by
    simp [Instr.buildSlice, run_underlying ht, sizeOf, typeInfo, hi, newRow, Instr.fill, h0]
  simp only [execOp]
  rw [Sem.run_bind, h1]
  rfl
theorem S.buildSl0 {j : TypeInfo} (hA : St nn l a) (hM : Mem w0 F L w) (ht : P.underlying t = some (.slice e)) (hi : P.info? e = some j) (hd : Nat.blt d nn = true)
    (h : ∀ b w', w0.heap.size ≤ b → Mem w0 F (pt b #[] e :: L) w' → ∀ a, St nn ((d, .slice (some ⟨b, 0, none⟩) 0 0) :: l) a → wpList P ops Q rest a w') :
    wpList P ops Q ({ dst := some d, op := .buildSlice t 0 #[], type := ty, pos, after := aft, guard := none } :: rest) a w :=
  S.val hA (R.buildSl0 ht hi) hd (h _ _ hM.size (hM.alloc _ _))
theorem S.appendO {k k2 n m c sz bytes g : Nat} {v z : Value} {xs news : List Value} {j : TypeInfo} (hA : St nn l a) (hM : Mem w0 F L w) (hk : ith L k = some (own e sz v n xs)) (hk2 : ith L k2 = some (own e sz (.slice (some ⟨g, 0, none⟩) m c) m news)) (ht : P.underlying t = some (.slice e)) (hi : P.info? e = some j) (hz : j.zero = some z) (hsz : j.size = sz) (hby : j.bytes = bytes) (hzs : z.cells.size = sz) (hps : Nat.blt 0 sz = true)
    (hx : opv l x = some v) (hy : opv l y = some (.slice (some ⟨g, 0, none⟩) m c)) (h1 : allOne news = true) (hmax : n + m ≤ maxLen) (hbs : (n + m) * bytes ≤ 140737488355328) (hd : Nat.blt d nn = true)
    (h : ∀ a' cap' w', Mem w0 F (setAt L k (own e sz (.slice a' (n + m) cap') (n + m) (xs ++ news))) w' → ∀ a, St nn ((d, .slice a' (n + m) cap') :: l) a → wpList P ops Q rest a w') :
    wpList P ops Q ({ dst := some d, op := .call { callee := .builtin .append, args := #[x, y], argTypes := #[t, t] }, type := ty, pos, after := aft, guard := none } :: rest) a w := by
  obtain ⟨-, -, he, -, -, hl, -⟩ := hM.ownForm hk2
  obtain ⟨a', cap', w', hr, hM'⟩ := R.append (P := P) (ty := ty) (t := t) hM hk ht hi hz hsz hby hzs hps hx hy hl (fun j u hu => by rw [Addr.add_lit, Nat.zero_add]; exact hM.ownCell hk2 hu) h1 hmax hbs
  exact S.val hA hr hd (h a' cap' w' hM')
end
end Go.Proofs.Ytlkemphhbamcfaa
