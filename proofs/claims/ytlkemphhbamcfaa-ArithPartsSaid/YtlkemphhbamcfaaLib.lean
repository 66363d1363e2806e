/-
  Small laws on blocks of cells: a block that is known whole; what stays as it is behind an alloc, a store, a draw, a call that leaves what was there.
  They hold of every program; nothing is assumed.
-/
import Derived.WalkKit
import Derived.WalkSpells
import Derived.WalkLawsBesides
import Derived.OneCell
import Derived.Deep.QuietTactic
import Derived.BigQuiet
namespace Go.Proofs.Ytlkemphhbamcfaa
open Go.RowKit

theorem hid {p : Prop} (h : p) : Hid p := h

/-- Block b holds just these cells, of variables of type t; none of them is frozen. -/
def blk (w : World) (b : Nat) (cs : Array Value) (t : TypeId) : Prop := w.heap[b]? = some (.cells cs t (0, 0))

theorem blk.lt {w : World} {b : Nat} {cs : Array Value} {t : TypeId} (h : blk w b cs t) : b < w.heap.size := lt_of_block h
theorem blk.cell {w : World} {b : Nat} {cs : Array Value} {t : TypeId} (h : blk w b cs t) (i : Nat) : w.cell? ⟨b, i, none⟩ = cs[i]? := by
  unfold blk at h; simp [World.cell?, h]
theorem blk.cellv {w : World} {b : Nat} {cs : Array Value} {t : TypeId} (h : blk w b cs t) {i : Nat} {v : Value} (hv : cs[i]? = some v) : w.cell? ⟨b, i, none⟩ = some v := by
  rw [h.cell, hv]
theorem blk.free {w : World} {b : Nat} {cs : Array Value} {t : TypeId} (h : blk w b cs t) (i : Nat) : w.frozen? ⟨b, i, none⟩ = false := by
  unfold blk at h; simp [World.frozen?, h]
theorem blk.new (w : World) (cs : Array Value) (t : TypeId) : blk (w.alloc (.cells cs t)) w.heap.size cs t := heap_alloc_new w _
theorem blk.alloc {w : World} {b : Nat} {cs : Array Value} {t : TypeId} (h : blk w b cs t) (o : Obj) : blk (w.alloc o) b cs t := by
  unfold blk at *; rw [Below.heap_alloc _ _ _ (lt_of_block h)]; exact h
theorem blk.at_ {w : World} {n : Nat} {cs cs' : Array Value} {t : TypeId} (hn : n = w.heap.size) (hc : cs = cs') : blk (w.alloc (.cells cs t)) n cs' t := by
  subst hn; subst hc; exact blk.new w _ _
theorem blk.drew {w : World} {b : Nat} {cs : Array Value} {t : TypeId} (h : blk w b cs t) : blk w.drew b cs t := h
theorem blk.other {w : World} {b : Nat} {cs : Array Value} {t : TypeId} (h : blk w b cs t) {a : Addr} (ha : b ≠ a.block) (v : Value) : blk (w.setCell a v) b cs t := by
  unfold blk at *; rw [Below.heap_setCell _ _ _ _ ha]; exact h
theorem blk.off {w : World} {b : Nat} {cs : Array Value} {t : TypeId} (h : blk w b cs t) {b' i : Nat} (ha : b ≠ b') (v : Value) : blk (w.setCell ⟨b', i, none⟩ v) b cs t := h.other ha v
theorem blk.set {w : World} {b : Nat} {cs : Array Value} {t : TypeId} (h : blk w b cs t) (i : Nat) (v : Value) : blk (w.setCell ⟨b, i, none⟩ v) b (cs.setIfInBounds i v) t := by
  have hlt := h.lt
  unfold blk at *
  have h' : w.heap[b] = .cells cs t (0, 0) := by simpa [Array.getElem?_eq_getElem hlt] using h
  show (w.heap.modify b _)[b]? = _
  rw [Array.getElem?_eq_getElem (by simpa using hlt), Array.getElem_modify_self, h']
  rfl
theorem blk.drewN {w : World} {b : Nat} {cs : Array Value} {t : TypeId} (h : blk w b cs t) (n : Nat) : blk (w.drewN n) b cs t := h
theorem blk.setTo {w : World} {b : Nat} {cs cs' : Array Value} {t : TypeId} (h : blk w b cs t) (i : Nat) (v : Value) (hc : cs.setIfInBounds i v = cs') : blk (w.setCell ⟨b, i, none⟩ v) b cs' t := by
  subst hc; exact h.set i v
theorem blk.to {w : World} {b : Nat} {cs cs' : Array Value} {t : TypeId} (h : blk w b cs t) (hc : cs = cs') : blk w b cs' t := hc ▸ h
theorem blk.below {B : Nat} {w w' : World} {b : Nat} {cs : Array Value} {t : TypeId} (h : blk w b cs t) (hb : Below B w w') (hlt : b < B) : blk w' b cs t := by
  unfold blk at *; rw [hb.block b hlt]; exact h

theorem bdrewN {B : Nat} {a w : World} (h : Below B a w) (n : Nat) : Below B a (w.drewN n) := ⟨h.os, h.tape, h.output, h.size, h.block⟩
theorem bset {B : Nat} {a w : World} (h : Below B a w) {b i : Nat} (hp : B ≤ b) (u : Value) : Below B a (w.setCell ⟨b, i, none⟩ u) := h.setCell hp u

/-- Behind a call that leaves what was there: each old cell, each old mark. -/
theorem bcell {B : Nat} {W w1 : World} (hb : Below B W w1) : (∀ b o, b < B → w1.cell? ⟨b, o, none⟩ = W.cell? ⟨b, o, none⟩) ∧ (∀ b o, b < B → w1.frozen? ⟨b, o, none⟩ = W.frozen? ⟨b, o, none⟩) :=
  ⟨fun b o h => hb.cell (p := ⟨b, o, none⟩) h, fun b o h => hb.frozen (p := ⟨b, o, none⟩) h⟩

/-- ints as cells. -/
def ints (l : List Int) : Array Value := (l.map (Value.int .i64)).toArray
theorem ints_size (l : List Int) : (ints l).size = l.length := by simp [ints]
theorem ints_get (l : List Int) (i : Nat) : (ints l)[i]? = (l[i]?).map (Value.int .i64) := by simp [ints]
theorem ints_getD (l : List Int) (i : Nat) (h : i < l.length) : (ints l)[i]? = some (.int .i64 (l.getD i 0)) := by simp [ints, h]
theorem ints_set (l : List Int) (i : Nat) (v : Int) : (ints l).setIfInBounds i (.int .i64 v) = ints (l.set i v) := by
  simp [ints, List.map_set]


/-- n ints, told by their places. -/
def row (n : Nat) (f : Nat → Int) : List Int := (List.range n).map f
theorem row_len (n : Nat) (f : Nat → Int) : (row n f).length = n := by simp [row]
theorem row_get (n : Nat) (f : Nat → Int) (i : Nat) (h : i < n) : (row n f)[i]? = some (f i) := by simp [row, h]
theorem row_ext (n : Nat) {f g : Nat → Int} (h : ∀ i, i < n → f i = g i) : row n f = row n g :=
  List.map_congr_left (fun i hi => h i (List.mem_range.1 hi))
theorem row_set (n : Nat) (f : Nat → Int) (k : Nat) (v : Int) : (row n f).set k v = row n (fun i => if i = k then v else f i) := by
  apply List.ext_getElem?
  intro i
  simp only [row, List.getElem?_set, List.getElem?_map, List.length_map, List.length_range]
  by_cases hi : i < n
  · by_cases hk : k = i
    · subst hk; simp [hi]
    · simp [hi, hk, eq_comm]
  · by_cases hk : k = i
    · subst hk; simp [hi]
    · simp [hi, hk]
theorem ints_row_get (n : Nat) (f : Nat → Int) (i : Nat) (h : i < n) : (ints (row n f))[i]? = some (.int .i64 (f i)) := by rw [ints_get, row_get _ _ _ h]; rfl
theorem ints_row_set (n : Nat) (f g : Nat → Int) (k : Nat) (v : Int) (h : ∀ i, i < n → (if i = k then v else f i) = g i) : (ints (row n f)).setIfInBounds k (.int .i64 v) = ints (row n g) := by
  rw [ints_set, row_set, row_ext n h]

end Go.Proofs.Ytlkemphhbamcfaa
