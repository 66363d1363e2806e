/-
  A memory of package cell as two blocks: the struct, the cells.
-/
import Derived.Test.YtjjbognomeplbaaRows
import Derived.Test.YtjjbognomeplbaaEng4
import Derived.Test.YtjjbognomeplbaaInts
import Derived.Test.YtjjbognomeplbaaTy
namespace Go.Proofs.Ytjjbognomeplbaa
open Go.RowKit

/-- What was done last. -/
structure CellOp where
  kind : Int
  cell : Int
  old : Int
  new : Int
  done : Bool

def both (c d : Ck) : Ck := ⟨fun b => c.foot b ∨ d.foot b, fun w => c.holds w ∧ d.holds w, fun w w' h hh => ⟨c.loc w w' (fun b hb => h b (.inl hb)) hh.1, d.loc w w' (fun b hb => h b (.inr hb)) hh.2⟩⟩
def two (b c : Nat) : Nat → Prop := fun x => x = b ∨ x = c
theorem Mem.start2 {w : World} {b c : Nat} {cs ds : Array Value} {t u : TypeId} (h1 : w.heap[b]? = some (.cells cs t (0, 0))) (h2 : w.heap[c]? = some (.cells ds u (0, 0))) (hne : b ≠ c) : Mem w (two b c) [pt b cs t, pt c ds u] w := by
  refine ⟨rfl, rfl, rfl, Nat.le_refl _, fun _ _ _ => rfl, ?_, ?_, ?_⟩
  · intro d hd
    rcases List.mem_cons.1 hd with rfl | hd
    · exact h1
    · rcases List.mem_cons.1 hd with rfl | hd
      · exact h2
      · cases hd
  · intro d hd x hx
    rcases List.mem_cons.1 hd with rfl | hd
    · have e : x = b := hx
      subst e
      exact ⟨lt_of_block h1, fun _ => .inl rfl⟩
    · rcases List.mem_cons.1 hd with rfl | hd
      · have e : x = c := hx
        subst e
        exact ⟨lt_of_block h2, fun _ => .inr rfl⟩
      · cases hd
  · refine .cons (fun d hd x hx hy => ?_) (.cons (fun d hd => by cases hd) .nil)
    rcases List.mem_cons.1 hd with rfl | hd
    · have e : x = b := hx
      have e' : x = c := hy
      exact hne (e ▸ e')
    · cases hd
/-- Two chunks as one, and back. -/
theorem Mem.join {w0 w : World} {F : Nat → Prop} {c d : Ck} {L : List Ck} (h : Mem w0 F (c :: d :: L) w) : Mem w0 F (both c d :: L) w := by
  have hc := h.holds c (by simp)
  have hd := h.holds d (by simp)
  have hap := List.pairwise_cons.1 h.apart
  have hap2 := List.pairwise_cons.1 hap.2
  refine ⟨h.os, h.tape, h.output, h.size, h.old, ?_, ?_, ?_⟩
  · intro e he
    rcases List.mem_cons.1 he with rfl | he
    · exact ⟨hc, hd⟩
    · exact h.holds e (by simp [he])
  · intro e he b hb
    rcases List.mem_cons.1 he with rfl | he
    · rcases hb with hb | hb
      · exact h.inb c (by simp) b hb
      · exact h.inb d (by simp) b hb
    · exact h.inb e (by simp [he]) b hb
  · refine List.pairwise_cons.2 ⟨fun e he b hb => ?_, hap2.2⟩
    rcases hb with hb | hb
    · exact hap.1 e (by simp [he]) b hb
    · exact hap2.1 e he b hb
theorem Mem.joinF {w0 w : World} {F F' : Nat → Prop} {L : List Ck} (h : Mem w0 F L w) (hF : ∀ b, F b → F' b) : Mem w0 F' L w :=
  ⟨h.os, h.tape, h.output, h.size, fun b hb hn => h.old b hb (fun g => hn (hF b g)), h.holds, fun c hc b hb => ⟨(h.inb c hc b hb).1, fun g => hF b ((h.inb c hc b hb).2 g)⟩, h.apart⟩

/-- The struct's cells. -/
def memA (c : Nat) (l : List Int) (s : Int) (o : CellOp) : Array Value :=
  #[.slice (some ⟨c, 0, none⟩) l.length l.length, .int .i64 s, .int .i64 o.kind, .int .i64 o.cell, .int .i64 o.old, .int .i64 o.new, .bool o.done]
/-- A memory: its numbers, its steps, what was done last. -/
def memO (b c : Nat) (l : List Int) (s : Int) (o : CellOp) : Ck := both (pt b (memA c l s o) 115) (pt c (ints l) 3)
theorem memO.open {b c : Nat} {l : List Int} {s : Int} {o : CellOp} {w : World} (h : (memO b c l s o).holds w) (hne : b ≠ c) : Mem w (two b c) [pt b (memA c l s o) 115, pt c (ints l) 3] w := Mem.start2 h.1 h.2 hne
theorem Mem.toO {w0 w : World} {F : Nat → Prop} {L : List Ck} {b c n : Nat} {l : List Int} {s k i x y : Int} {d : Bool} (h : Mem w0 F (pt b #[.slice (some ⟨c, 0, none⟩) n n, .int .i64 s, .int .i64 k, .int .i64 i, .int .i64 x, .int .i64 y, .bool d] 115 :: pt c (ints l) 3 :: L) w) (hl : l.length = n) :
    Mem w0 F (memO b c l s ⟨k, i, x, y, d⟩ :: L) w := by subst hl; exact h.join
/-- What is read of a memory that stays as it is. -/
theorem memO.cb {w0 w : World} {L : List Ck} {b c : Nat} {l : List Int} {s : Int} {o : CellOp} (hm : (memO b c l s o).holds w0) (hM : Mem w0 nof L w) (i : Nat) {v : Value} (hv : (memA c l s o)[i]? = some v) : w.cell? ⟨b, i, none⟩ = some v := by
  have h1 : w0.heap[b]? = some (.cells (memA c l s o) 115 (0, 0)) := hm.1
  exact hM.cell0 (by simp [World.cell?, h1, hv]) (fun h => h)
theorem memO.cc {w0 w : World} {L : List Ck} {b c : Nat} {l : List Int} {s : Int} {o : CellOp} (hm : (memO b c l s o).holds w0) (hM : Mem w0 nof L w) (i : Nat) (hi : i < l.length) : w.cell? ⟨c, i, none⟩ = some (.int .i64 (l.getD i 0)) := by
  have h1 : w0.heap[c]? = some (.cells (ints l) 3 (0, 0)) := hm.2
  exact hM.cell0 (by simp [World.cell?, h1, ints_getD l i hi]) (fun h => h)
theorem memO.rb {w0 w : World} {L : List Ck} {b c : Nat} {l : List Int} {s : Int} {o : CellOp} (hm : (memO b c l s o).holds w0) (hM : Mem w0 nof L w) : w.rangeAt b 2 [.int .i64 o.kind, .int .i64 o.cell, .int .i64 o.old, .int .i64 o.new, .bool o.done] := fun j v hv => by
  refine memO.cb hm hM (2 + j) ?_
  match j, hv with
  | 0, hv => simpa [memA] using hv
  | 1, hv => simpa [memA] using hv
  | 2, hv => simpa [memA] using hv
  | 3, hv => simpa [memA] using hv
  | 4, hv => simpa [memA] using hv
  | j + 5, hv => simp at hv
end Go.Proofs.Ytjjbognomeplbaa
