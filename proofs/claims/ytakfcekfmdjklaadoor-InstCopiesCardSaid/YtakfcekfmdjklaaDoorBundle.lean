/-
  Many chunks as one: taken apart at an index, joined again. It holds of every program; nothing is assumed.
-/
import Derived.Test.YtakfcekfmdjklaaDoorEng8
namespace Go.Proofs.YtakfcekfmdjklaaDoor
open Go.RowKit

def apartL (cs : List Ck) : Prop := cs.Pairwise (fun c d => ∀ b, c.foot b → ¬ d.foot b)
def bundle (cs : List Ck) : Ck :=
  ⟨fun b => ∃ c ∈ cs, c.foot b, fun w => (∀ c ∈ cs, c.holds w) ∧ apartL cs,
    fun w w' h hh => ⟨fun c hc => c.loc w w' (fun b hb => h b ⟨c, hc, hb⟩) (hh.1 c hc), hh.2⟩⟩
/-- A chunk of no block. -/
def emp : Ck := ⟨fun _ => False, fun _ => True, fun _ _ _ _ => trivial⟩
section
variable {w0 w : World} {F : Nat → Prop} {L cs : List Ck} {α : Type} {f : α → Ck} {xs : List α} {x : α} {j : Nat}
theorem Mem.pack (h : Mem w0 F (cs ++ L) w) : Mem w0 F (bundle cs :: L) w := by
  obtain ⟨h1, h2, h3⟩ := List.pairwise_append.1 h.apart
  refine ⟨h.os, h.tape, h.output, h.size, h.old, fun d hd => ?_, fun d hd b hb => ?_, List.pairwise_cons.2 ⟨fun d hd b ⟨c, hc, hcb⟩ hdb => h3 c hc d hd b hcb hdb, h2⟩⟩
  · rcases List.mem_cons.1 hd with rfl | hd
    · exact ⟨fun c hc => h.holds c (List.mem_append_left _ hc), h1⟩
    · exact h.holds d (List.mem_append_right _ hd)
  · rcases List.mem_cons.1 hd with rfl | hd
    · obtain ⟨c, hc, hcb⟩ := hb
      exact h.inb c (List.mem_append_left _ hc) b hcb
    · exact h.inb d (List.mem_append_right _ hd) b hb
theorem Mem.unpack (h : Mem w0 F (bundle cs :: L) w) : Mem w0 F (cs ++ L) w := by
  obtain ⟨h1, h2⟩ := List.pairwise_cons.1 h.apart
  have hb : (bundle cs).holds w := h.holds _ (List.mem_cons_self ..)
  refine ⟨h.os, h.tape, h.output, h.size, h.old, fun d hd => ?_, fun d hd b hdb => ?_, List.pairwise_append.2 ⟨hb.2, h2, fun c hc d hd b hcb hdb => h1 d hd b ⟨c, hc, hcb⟩ hdb⟩⟩
  · rcases List.mem_append.1 hd with hd | hd
    · exact hb.1 d hd
    · exact h.holds d (List.mem_cons_of_mem _ hd)
  · rcases List.mem_append.1 hd with hd | hd
    · exact h.inb _ (List.mem_cons_self ..) b ⟨d, hd, hdb⟩
    · exact h.inb d (List.mem_cons_of_mem _ hd) b hdb
theorem perm_at : ∀ {xs : List α} {j : Nat} {x : α}, xs[j]? = some x → xs.Perm (x :: xs.eraseIdx j)
  | y :: xs, 0, x, h => by
    have e : y = x := by simpa using h
    subst e
    exact .refl _
  | y :: xs, j + 1, x, h => by
    have := perm_at (xs := xs) (j := j) (x := x) (by simpa using h)
    rw [List.eraseIdx_cons_succ]
    exact (this.cons y).trans (.swap x y _)
theorem Mem.openB (h : Mem w0 F (bundle (xs.map f) :: L) w) (hx : xs[j]? = some x) : Mem w0 F (f x :: bundle ((xs.eraseIdx j).map f) :: L) w := by
  have h1 := h.unpack.perm (L' := (xs.eraseIdx j).map f ++ f x :: L) (((((perm_at hx).map f).append_right L)).trans (List.perm_middle (l₁ := (xs.eraseIdx j).map f)).symm)
  exact h1.pack.front (k := 1) rfl
theorem Mem.closeB {y : α} (h : Mem w0 F (f y :: bundle ((xs.eraseIdx j).map f) :: L) w) (hx : xs[j]? = some x) : Mem w0 F (bundle ((xs.set j y).map f) :: L) w := by
  obtain ⟨hj, -⟩ := List.getElem?_eq_some_iff.1 hx
  have h0 : Mem w0 F (bundle ((xs.eraseIdx j).map f) :: f y :: L) w := h.front (k := 1) rfl
  have hy : (xs.set j y)[j]? = some y := List.getElem?_set_self hj
  have he : (xs.set j y).eraseIdx j = xs.eraseIdx j := List.eraseIdx_set_eq ..
  have hp := perm_at hy
  rw [he] at hp
  exact (h0.unpack.perm (L' := (xs.set j y).map f ++ L) ((List.perm_middle (l₁ := (xs.eraseIdx j).map f)).trans (((hp.map f).append_right L)).symm)).pack
end
end Go.Proofs.YtakfcekfmdjklaaDoor
