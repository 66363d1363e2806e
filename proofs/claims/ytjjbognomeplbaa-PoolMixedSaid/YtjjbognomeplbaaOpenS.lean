/-
  A slice of structs of ints, out of the reading that the statement gives: its cells as one flat list.
-/
import Derived.Test.YtjjbognomeplbaaIsl
import Derived.OpenShut
import Derived.ProofKit
import Derived.Deep.Slices
namespace Go.Proofs.Ytjjbognomeplbaa
open Go.RowKit Go.WideShapes Go.ChangeShapes Go.Deep

/-- The slice v of n elements of r cells reads as the numbers l. -/
def RowSl (w : World) (v : Value) (r n : Nat) (l : List Int) : Prop :=
  ∃ a cap, v = .slice a n cap ∧ n ≤ cap ∧ cap ≤ maxLen ∧ l.length = n * r ∧ (0 < n → ∃ b off, a = some ⟨b, off, none⟩ ∧ b < w.heap.size ∧ ∀ i, i < n * r → w.cell? ⟨b, off + i, none⟩ = some (.int .i64 (l.getD i 0)))
theorem RowSl.form {w : World} {v : Value} {r n : Nat} {l : List Int} (h : RowSl w v r n l) : ∃ a cap, v = .slice a n cap := by
  obtain ⟨a, cap, rfl, -⟩ := h; exact ⟨a, cap, rfl⟩
theorem RowSl.at {w : World} {a : Option Addr} {r n cap : Nat} {l : List Int} (h : RowSl w (.slice a n cap) r n l) {i : Nat} (hi : i < n) :
    ∃ b off, a = some ⟨b, off, none⟩ ∧ ∀ j, j < r → w.cell? ⟨b, off + i * r + j, none⟩ = some (.int .i64 (l.getD (i * r + j) 0)) := by
  obtain ⟨a', cap', he, -, -, -, h⟩ := h
  cases he
  obtain ⟨b, off, rfl, -, hc⟩ := h (by omega)
  refine ⟨b, off, rfl, fun j hj => ?_⟩
  have := hc (i * r + j) (by
    have : (i + 1) * r ≤ n * r := Nat.mul_le_mul_right _ hi
    rw [Nat.succ_mul] at this; omega)
  rwa [← Nat.add_assoc] at this

section
variable {H : Type} {enc : TypeId × Value → H} {P : Program} {w : World}
theorem open_slst {r : Reach} {b0 : Nat} {t e : TypeId} {fs : Array Field} {v : Value} {d : DataW H} {p : List MemPlace} {held : Bool} (ht : P.underlying t = some (.slice e)) (he : P.underlying e = some (.struct fs)) (hn : fs.size = P.cellsOf e) (hpos : 0 < fs.size)
    (hf : ∀ i, i < fs.size → ∃ f, fs[i]? = some f ∧ f.offset = i ∧ P.underlying f.type = some (.int .i64) ∧ P.cellsOf f.type = 1)
    (hv : Value.okWide P w r b0 t v) (h : DataW.Trod enc P w 0 (fun _ => true) held t v d p) :
    ∃ (n : Nat) (l : List Int), RowSl w v fs.size n l ∧ ∀ x ∈ l, (Lit.int .i64 x).wf = true := by
  obtain ⟨a, len, cap, rfl⟩ := okWide_slice ht hv
  obtain ⟨fuel, hfu⟩ := h
  rcases open_slice ht hfu with ⟨hcs, _⟩ | ⟨x, len', cap', m, nn, D, Pl, hcs, hb, hl, hm, hmm, -, hx⟩
  · simp [Value.cells] at hcs
    obtain ⟨rfl, rfl, rfl⟩ := hcs
    exact ⟨0, [], ⟨none, 0, rfl, Nat.le_refl _, Nat.zero_le _, by simp, fun h => by omega⟩, fun x hx => by cases hx⟩
  · simp [Value.cells] at hcs
    obtain ⟨rfl, rfl, rfl⟩ := hcs
    simp only [if_true] at hmm
    subst hmm
    have each : ∀ i, i < len → ∀ j, j < fs.size → ∃ y : Int, w.cell? ((x.add (i * fs.size)).add j) = some (.int .i64 y) ∧ (Lit.int .i64 y).wf = true := by
      intro i hi j hj
      obtain ⟨cs', h1, h2⟩ := hx i (by omega)
      rw [← hn] at h1
      obtain ⟨-, hlen, hcell⟩ := World.cells?_some h1
      obtain ⟨xs, k, -, -, -, hxl, hfd⟩ := DataW.trod_struct he h2
      obtain ⟨f, hf1, hf2, hf3, hf4⟩ := hf j hj
      have g := hfd j f hf1
      rw [hf2, hf4, List.getElem?_eq_getElem (by omega)] at g
      obtain ⟨y, hy, -, hw⟩ := DataW.trod_int hf3 g
      refine ⟨y, ?_, hw⟩
      have h3 := hcell j hj
      have h4 : (List.take 1 (List.drop j cs'))[0]? = some (.int .i64 y) := by rw [hy]; rfl
      rw [List.getElem?_take] at h4
      have h5 : cs'[j]? = some (.int .i64 y) := by simpa using h4
      rw [h3]
      exact h5
    rcases Nat.eq_zero_or_pos len with e0 | e0
    · subst e0
      exact ⟨0, [], ⟨some x, _, rfl, hl, hm, by simp, fun h => by omega⟩, fun x hx => by cases hx⟩
    obtain ⟨b, off, spot⟩ := x
    have hs : spot = none := by
      obtain ⟨y, h1, -⟩ := each 0 e0 0 hpos
      unfold Addr.add at h1
      cases spot with
      | none => rfl
      | some s =>
        unfold World.cell? at h1
        split at h1 <;> simp at h1
    subst hs
    have cell : ∀ i, i < len * fs.size → ∃ y : Int, w.cell? ⟨b, off + i, none⟩ = some (.int .i64 y) ∧ (Lit.int .i64 y).wf = true := by
      intro i hi
      have q1 : i / fs.size < len := Nat.div_lt_of_lt_mul (by rwa [Nat.mul_comm] at hi)
      have q2 : i % fs.size < fs.size := Nat.mod_lt _ hpos
      obtain ⟨y, hy, hw⟩ := each _ q1 _ q2
      rw [Addr.add_lit, Addr.add_lit] at hy
      refine ⟨y, ?_, hw⟩
      rw [show off + i = off + i / fs.size * fs.size + i % fs.size by have := Nat.div_add_mod i fs.size; rw [Nat.mul_comm] at this; omega]
      exact hy
    refine ⟨len, (List.range (len * fs.size)).map fun i => intOf ((w.cell? ⟨b, off + i, none⟩).getD (.int .i64 0)), ⟨some ⟨b, off, none⟩, _, rfl, hl, hm, by simp, fun _ => ⟨b, off, rfl, ?_, fun i hi => ?_⟩⟩, fun y hy => ?_⟩
    · obtain ⟨y, h1, -⟩ := cell 0 (Nat.mul_pos e0 hpos)
      exact World.block_lt_of_cell? w _ h1
    · obtain ⟨y, h1, -⟩ := cell i hi
      rw [h1]
      simp [hi, h1, intOf]
    · obtain ⟨i, hi, rfl⟩ := List.mem_map.1 hy
      obtain ⟨y, h1, hw⟩ := cell i (List.mem_range.1 hi)
      rw [h1]
      exact hw
end
end Go.Proofs.Ytjjbognomeplbaa
