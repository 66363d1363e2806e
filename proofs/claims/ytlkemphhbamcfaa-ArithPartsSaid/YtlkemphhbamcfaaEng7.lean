/-
  Calls that are told of several chunks. It holds of every program; nothing is assumed.
-/
import Derived.Test.YtlkemphhbamcfaaEng5
namespace Go.Proofs.Ytlkemphhbamcfaa
open Go.RowKit

/-- The blocks on which chunks stand. -/
def feet (L : List Ck) : Nat → Prop := fun b => ∃ c ∈ L, c.foot b
section
variable {w0 w w' : World} {F : Nat → Prop} {L L' : List Ck}
theorem Mem.here (h : Mem w0 F L w) : Mem w (feet L) L w :=
  ⟨rfl, rfl, rfl, Nat.le_refl _, fun _ _ _ => rfl, h.holds, fun c hc b hb => ⟨(h.inb c hc b hb).1, fun _ => ⟨c, hc, hb⟩⟩, h.apart⟩
theorem Mem.hereN (h : Mem w0 F L w) (n : Nat) : Mem w (feet (L.take n)) (L.take n) w := (h.sub (List.take_sublist n L)).here
theorem Mem.firstN (h : Mem w0 F L w) (n : Nat) : Mem w0 F (L.take n) w := h.sub (List.take_sublist n L)
theorem Mem.callL (h : Mem w0 F L w) (n : Nat) (hn : Mem w (feet (L.take n)) L' w') : Mem w0 F (L' ++ L.drop n) w' := by
  have hsplit : L.take n ++ L.drop n = L := List.take_append_drop n L
  have hap : (L.take n ++ L.drop n).Pairwise (fun c d => ∀ b, c.foot b → ¬ d.foot b) := by rw [hsplit]; exact h.apart
  obtain ⟨hap1, hap2, hap3⟩ := List.pairwise_append.1 hap
  have hkeep : ∀ b, b < w.heap.size → ¬ feet (L.take n) b → w'.heap[b]? = w.heap[b]? := fun b hb hc => hn.old b hb hc
  have hfree : ∀ d ∈ L.drop n, ∀ b, d.foot b → ¬ feet (L.take n) b := fun d hd b hb ⟨c, hc, hcb⟩ => hap3 c hc d hd b hcb hb
  refine ⟨hn.os.trans h.os, hn.tape.trans h.tape, hn.output.trans h.output, Nat.le_trans h.size hn.size, fun b hb hF0 => ?_, fun e he => ?_, fun e he b hb => ?_, ?_⟩
  · rw [hkeep b (Nat.lt_of_lt_of_le hb h.size) (fun ⟨c, hc, hcb⟩ => hF0 ((h.inb c (List.mem_of_mem_take hc) b hcb).2 hb))]; exact h.old b hb hF0
  · rcases List.mem_append.1 he with he | he
    · exact hn.holds e he
    · have hm := List.mem_of_mem_drop he
      exact e.loc w w' (fun b hb => hkeep b (h.inb e hm b hb).1 (hfree e he b hb)) (h.holds e hm)
  · rcases List.mem_append.1 he with he | he
    · have := hn.inb e he b hb
      refine ⟨this.1, fun g => ?_⟩
      obtain ⟨c, hc, hcb⟩ := this.2 (Nat.lt_of_lt_of_le g h.size)
      exact (h.inb c (List.mem_of_mem_take hc) b hcb).2 g
    · have := h.inb e (List.mem_of_mem_drop he) b hb
      exact ⟨Nat.lt_of_lt_of_le this.1 hn.size, this.2⟩
  · refine List.pairwise_append.2 ⟨hn.apart, hap2, fun e he d hd b heb hdb => ?_⟩
    have g1 := hn.inb e he b heb
    have g2 := (h.inb d (List.mem_of_mem_drop hd) b hdb).1
    exact hfree d hd b hdb (g1.2 g2)
/-- What is read of a block that was there and stays. -/
theorem Mem.cellB (h : Mem w0 nof L w) {b i : Nat} {cs : Array Value} {t : TypeId} {v : Value} (hb : w0.heap[b]? = some (.cells cs t (0, 0))) (hv : cs[i]? = some v) : w.cell? ⟨b, i, none⟩ = some v :=
  h.cell0 (by simp [World.cell?, hb, hv]) (fun h => h)
end
theorem Ends.unroll {P : Program} {f : FuncId} {R : Ending → World → Prop} {k : List Item} {a : Act} {w : World} {c : Code} (h : Ends P f R (.code c :: .inLoop c :: k) a w) : Ends P f R (.code (.loop c) :: k) a w :=
  Ends.step (fun _ _ _ _ => .one step_loop) h
/-- An int that was made small. -/
theorem umod_ex (x k : Int) (hk : 0 < k ∧ k ≤ 4611686018427387904) : ∃ N : Nat, (N : Int) < k ∧ IntKind.i64.wrap (IntKind.u64.wrap x % k) = (N : Int) := by
  have h1 := Int.emod_nonneg (IntKind.u64.wrap x) (show k ≠ 0 by omega)
  have h2 := Int.emod_lt_of_pos (IntKind.u64.wrap x) (show 0 < k by omega)
  refine ⟨(IntKind.u64.wrap x % k).toNat, by omega, ?_⟩
  rw [IntWalk.i64_in _ ⟨by omega, by omega⟩]; omega
theorem u64_nn (x : Int) : 0 ≤ IntKind.u64.wrap x := by rw [IntKind.wrap_u64]; omega
end Go.Proofs.Ytlkemphhbamcfaa
