/-
  Strings: ranges over them, bytes, parts, equality, sums. It holds of every program; nothing is assumed.
-/
import Derived.Test.YtakfcekfmdjklaaDoorEngA
import Derived.Test.YtakfcekfmdjklaaDoorEngU
import Derived.Laws.RangeAny
import Derived.Lib.RuneCount
import Derived.Lib.Strings
import Derived.Laws.Strings
import Derived.Laws.Strings2
import Derived.Laws.Strings3
import Derived.Laws.Concat
import Derived.Laws.StructEq
namespace Go.Proofs.YtakfcekfmdjklaaDoor
open Go.RowKit

/-- What goes through a string, at a place. -/
def itC (b : Nat) (s : ByteArray) (p : Nat) : Ck := ⟨fun c => c = b, fun w => w.heap[b]? = some (.stringIter s p), fun w w' h hw => by rw [h b rfl]; exact hw⟩
def byt (s : ByteArray) (i : Nat) : Int := ((s.get! i).toNat : Nat)
theorem byt_at {s : ByteArray} {i : Nat} (h : i < s.size) : ((s[i]'h).toNat : Int) = byt s i := by
  have e : s.get! i = s[i]'h := by simp [ByteArray.get!, getElem!_pos, h]; rfl
  unfold byt; rw [e]
theorem byt_bd (s : ByteArray) (i : Nat) : 0 ≤ byt s i ∧ byt s i < 256 := by
  unfold byt
  have := (s.get! i).toNat_lt
  omega
section
variable {w0 w w' : World} {F : Nat → Prop} {L : List Ck}
theorem Mem.allocI (h : Mem w0 F L w) (s : ByteArray) : Mem w0 F (itC w.heap.size s 0 :: L) (w.alloc (.stringIter s 0)) := by
  have hold : ∀ b, b < w.heap.size → (w.alloc (.stringIter s 0)).heap[b]? = w.heap[b]? := fun b hb => Below.heap_alloc w _ b hb
  refine ⟨h.os, h.tape, h.output, by have := h.size; simp; omega, fun b hb hF => by rw [hold b (Nat.lt_of_lt_of_le hb h.size)]; exact h.old b hb hF, ?_, ?_, ?_⟩
  · intro c hc
    rcases List.mem_cons.1 hc with rfl | hc
    · exact World.iter_heap w s 0
    · exact c.loc w _ (fun b hb => hold b (h.inb c hc b hb).1) (h.holds c hc)
  · intro c hc b hb
    rcases List.mem_cons.1 hc with rfl | hc
    · have e : b = w.heap.size := hb
      subst e
      exact ⟨by simp, fun g => absurd h.size (by omega)⟩
    · have := h.inb c hc b hb
      exact ⟨by simp; omega, this.2⟩
  · refine List.pairwise_cons.2 ⟨fun d hd b hb hdb => ?_, h.apart⟩
    have e : b = w.heap.size := hb
    have := (h.inb d hd b hdb).1
    omega
theorem Mem.setI (h : Mem w0 F L w) {k b p : Nat} {s : ByteArray} (hk : ith L k = some (itC b s p)) (q : Nat) : Mem w0 F (setAt L k (itC b s q)) { w with heap := w.heap.setIfInBounds b (.stringIter s q) } := by
  have hb : w.heap[b]? = some (.stringIter s p) := h.mem hk
  have hlt : b < w.heap.size := by
    rcases Nat.lt_or_ge b w.heap.size with g | g
    · exact g
    · rw [Array.getElem?_eq_none g] at hb; cases hb
  refine h.turn hk (fun _ h => h) ?_ rfl rfl rfl (by simp) (fun c _ hc => ?_)
  · show (w.heap.setIfInBounds b (.stringIter s q))[b]? = _
    rw [Array.getElem?_setIfInBounds_self_of_lt hlt]
  · show (w.heap.setIfInBounds b (.stringIter s q))[c]? = _
    rw [Array.getElem?_setIfInBounds_ne (fun e => hc e.symm)]
end
section
variable {P : Program} {l : List (Nat × Value)} {w w0 : World} {F : Nat → Prop} {L : List Ck} {ty : TypeId} {x y z : Operand} {k k' : IntKind} {m n : Int} {t yt : TypeId} {s r : ByteArray}
theorem R.rangeS (ht : P.underlying t = some .string) (hx : opv l x = some (.string s)) : Run P l w (.range t x) ty (.pointer (some ⟨w.heap.size, 0, none⟩)) (w.alloc (.stringIter s 0)) := fun ev h _ _ _ _ => by
  have h1 := run_range_string (P := P) w t s ht
  simp [execOp, h _ _ hx, h1, World.iter]
theorem R.nextT {b p k : Nat} (hM : Mem w0 F L w) (hk : ith L k = some (itC b s p)) (hx : opv l x = some (.pointer (some ⟨b, 0, none⟩))) (hp : p < s.size) :
    Run P l w (.next x true) ty (.tuple #[.bool true, .int .i64 (p : Int), .int .i32 ((Utf8.decode s p).1 : Int)]) { w with heap := w.heap.setIfInBounds b (.stringIter s (p + (Utf8.decode s p).2)) } := fun ev h _ _ _ _ => by
  have hb : w.heap[b]? = some (.stringIter s p) := hM.mem hk
  simp [execOp, h _ _ hx, Instr.next, getObj, setObj, Sem.run_bind, Sem.run, hb, Result.andThen, hp, goInt]
theorem R.nextF {b p k : Nat} (hM : Mem w0 F L w) (hk : ith L k = some (itC b s p)) (hx : opv l x = some (.pointer (some ⟨b, 0, none⟩))) (hp : ¬ p < s.size) :
    Run P l w (.next x true) ty (.tuple #[.bool false]) w := fun ev h _ _ _ _ => by
  have hb : w.heap[b]? = some (.stringIter s p) := hM.mem hk
  simp [execOp, h _ _ hx, Instr.next, getObj, setObj, Sem.run_bind, Sem.run, hb, Result.andThen, hp, goInt]
theorem R.idxS (ht : P.underlying t = some .string) (hx : opv l x = some (.string s)) (hy : opv l y = some (.int k n)) (h0 : 0 ≤ n ∧ n < s.size) : Run P l w (.index t x y) ty (.int .u8 (byt s n.toNat)) w := fun ev h _ _ _ _ => by
  have h1 := run_index_string (P := P) w t s k n ht
  rw [dif_pos h0, byt_at (by omega)] at h1
  simp [execOp, h _ _ hx, h _ _ hy, h1]
theorem R.sliceSS (ht : P.underlying t = some .string) (hx : opv l x = some (.string s)) (hy : opv l y = some (.int k m)) (hz : opv l z = some (.int k' n)) (h0 : 0 ≤ m ∧ m ≤ n ∧ n ≤ s.size) : Run P l w (.slice t x (some y) (some z) none) ty (.string (s.extract m.toNat n.toNat)) w := fun ev h _ _ _ _ => by
  have h1 := run_slice_string (P := P) w t s k k' m n ht h0.1 h0.2.1 h0.2.2
  have h2 : (Instr.sliceAt t (.string s) (some (.int k m)) (some (.int k' n)) none).run P w = .ok (.string (s.extract m.toNat n.toNat)) w := by
    unfold Instr.sliceAt
    simp only [Sem.run_bind, run_underlying ht, Result.andThen_ok]
    exact h1
  simp [execOp, h _ _ hx, h _ _ hy, h _ _ hz, h2]
theorem R.sliceSL (ht : P.underlying t = some .string) (hx : opv l x = some (.string s)) (hy : opv l y = some (.int k m)) (h0 : 0 ≤ m ∧ m ≤ s.size) : Run P l w (.slice t x (some y) none none) ty (.string (s.extract m.toNat s.size)) w := fun ev h _ _ _ _ => by
  have h1 := run_slice_string_from_if (P := P) w t s k m ht
  rw [if_pos h0] at h1
  have h2 : (Instr.sliceAt t (.string s) (some (.int k m)) none none).run P w = .ok (.string (s.extract m.toNat s.size)) w := by
    unfold Instr.sliceAt
    simp only [Sem.run_bind, run_underlying ht, Result.andThen_ok]
    exact h1
  simp [execOp, h _ _ hx, h _ _ hy, h2]
theorem R.sliceSH (ht : P.underlying t = some .string) (hx : opv l x = some (.string s)) (hy : opv l y = some (.int k m)) (h0 : 0 ≤ m ∧ m ≤ s.size) : Run P l w (.slice t x none (some y) none) ty (.string (s.extract 0 m.toNat)) w := fun ev h _ _ _ _ => by
  have h1 := run_slice_string_to_if (P := P) w t s k m ht
  rw [if_pos h0] at h1
  have h2 : (Instr.sliceAt t (.string s) none (some (.int k m)) none).run P w = .ok (.string (s.extract 0 m.toNat)) w := by
    unfold Instr.sliceAt
    simp only [Sem.run_bind, run_underlying ht, Result.andThen_ok]
    exact h1
  simp [execOp, h _ _ hx, h _ _ hy, h2]
theorem R.addS (hx : opv l x = some (.string s)) (hy : opv l y = some (.string r)) (hb : s.size + r.size ≤ 9223372036854775807) : Run P l w (.binOp .add t x y yt) ty (.string (s ++ r)) w := fun ev h _ _ _ _ => by
  have h1 := run_string_add_sum (P := P) w s r hb
  simp [execOp, h _ _ hx, h _ _ hy, eqGuard, binOp, h1]
theorem blist_dec (s r : ByteArray) : (s.toList == r.toList) = decide (s = r) := by
  by_cases e : s = r
  · subst e; simp
  · rw [decide_eq_false e]
    refine beq_eq_false_iff_ne.2 fun h => e ?_
    rw [Lib.toList_data, Lib.toList_data] at h
    cases s; cases r
    congr 1
    exact Array.toList_inj.1 h
theorem R.eqlStr (hx : opv l x = some (.string s)) (hy : opv l y = some (.string r)) : Run P l w (.binOp .eql t x y yt) ty (.bool (decide (s = r))) w := fun ev h _ _ _ _ => by
  simp [execOp, h _ _ hx, h _ _ hy, eqGuard, binOp, Op.stringOp, blist_dec]
theorem R.neqStr (hx : opv l x = some (.string s)) (hy : opv l y = some (.string r)) : Run P l w (.binOp .neq t x y yt) ty (.bool (decide (s ≠ r))) w := fun ev h _ _ _ _ => by
  simp [execOp, h _ _ hx, h _ _ hy, eqGuard, binOp, Op.stringOp, blist_dec]
end
section
variable {P : Program} {R : Ending → World → Prop} {f : FuncId} {a : Act} {w w0 : World} {nn : Nat} {l : List (Nat × Value)} {ops : Array Oper} {Q : Exit → Act → World → Prop} {rest : List Oper} {F : Nat → Prop} {L : List Ck}
  {d : Nat} {t e ty : TypeId} {x y : Operand} {pos : String} {aft : Array Edge} {s : ByteArray}
theorem S.rangeS (hA : St nn l a) (hM : Mem w0 F L w) (ht : P.underlying t = some .string) (hx : opv l x = some (.string s)) (hd : Nat.blt d nn = true)
    (h : ∀ b w', w0.heap.size ≤ b → Mem w0 F (itC b s 0 :: L) w' → ∀ a, St nn ((d, .pointer (some ⟨b, 0, none⟩)) :: l) a → wpList P ops Q rest a w') :
    wpList P ops Q ({ dst := some d, op := .range t x, type := ty, pos, after := aft, guard := none } :: rest) a w :=
  S.val hA (R.rangeS ht hx) hd (h _ _ hM.size (hM.allocI s))
theorem D.rangeS {S : World → Prop} {os : List Oper} {is : Ordt} {b0 : Bool} {i last : Nat} (hA : St nn l a) (hM : Mem w0 F L w) (ho : ith os i = some { dst := some d, op := .range t x, type := ty, pos, after := aft, guard := none }) (ht : P.underlying t = some .string) (hx : opv l x = some (.string s)) (hd : Nat.blt d nn = true)
    (h : ∀ b w', w0.heap.size ≤ b → Mem w0 F (itC b s 0 :: L) w' → S w' ∧ ∀ a, St nn ((d, .pointer (some ⟨b, 0, none⟩)) :: l) a → wpOrd P last os Q S b0 is a w') : wpOrd P last os Q S b0 (.cons (i, false) is) a w :=
  have g := h _ _ hM.size (hM.allocI s)
  D.eff hA ho (R.rangeS ht hx) hd g.1 g.2
theorem S.nextT {b p k : Nat} (hA : St nn l a) (hM : Mem w0 F L w) (hk : ith L k = some (itC b s p)) (hx : opv l x = some (.pointer (some ⟨b, 0, none⟩))) (hp : p < s.size) (hd : Nat.blt d nn = true)
    (h : ∀ w', Mem w0 F (setAt L k (itC b s (p + (Utf8.decode s p).2))) w' → ∀ a, St nn ((d, .tuple #[.bool true, .int .i64 (p : Int), .int .i32 ((Utf8.decode s p).1 : Int)]) :: l) a → wpList P ops Q rest a w') :
    wpList P ops Q ({ dst := some d, op := .next x true, type := ty, pos, after := aft, guard := none } :: rest) a w :=
  S.val hA (R.nextT hM hk hx hp) hd (h _ (hM.setI hk _))
end
end Go.Proofs.YtakfcekfmdjklaaDoor
