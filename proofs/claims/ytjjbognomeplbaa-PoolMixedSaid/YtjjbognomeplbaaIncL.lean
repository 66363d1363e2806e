/-
  For package inc: rows of slices, the bits of a cost and a place, clones of own slices.
-/
import Derived.Test.YtjjbognomeplbaaShelf
import Derived.Test.YtjjbognomeplbaaEng8
import Derived.Test.YtjjbognomeplbaaIsl
import Derived.Test.YtjjbognomeplbaaCellW
namespace Go.Proofs.Ytjjbognomeplbaa
open Go.RowKit

/-- Cells that are told by a list. -/
def vals (l : List Value) : Array Value := l.toArray
theorem vals_at (l : List Value) (o : Nat) (u : Value) (h : l[o]? = some u) : (vals l)[o]? = some u := by simpa [vals] using h
theorem vals_get (l : List Value) (o : Nat) (h : o < l.length) : (vals l)[o]? = some (l.getD o (.pointer none)) := by simp [vals, h]
theorem vals_set (l : List Value) (o : Nat) (v : Value) : (vals l).setIfInBounds o v = vals (l.set o v) := by simp [vals]
/-- Slices that are nil. -/
def nils (n : Nat) : List Value := List.replicate n (.slice none 0 0)
theorem made_vals (n : Nat) : madeCells #[.slice none 0 0] n = vals (nils n) := by
  apply Array.toList_inj.1
  rw [toList_madeCells_one]; simp [vals, nils]
theorem shl6 (c : Int) (h : 0 ≤ c ∧ c ≤ 1125899906842624) : IntKind.i64.wrap (c * 2 ^ min (6 : Int).toNat IntKind.i64.bits) = c * 64 := by
  rw [show min (6 : Int).toNat IntKind.i64.bits = 6 by decide, show (2 : Int) ^ 6 = 64 by decide, IntKind.wrap_i64]; omega
theorem shr6 (c p : Int) (h : 0 ≤ p ∧ p < 64) : (c * 64 + p).fdiv (2 ^ min (6 : Int).toNat IntKind.i64.bits) = c := by
  rw [show min (6 : Int).toNat IntKind.i64.bits = 6 by decide, show (2 : Int) ^ 6 = 64 by decide, Int.fdiv_eq_ediv_of_nonneg _ (by omega)]; omega
theorem band6 (c p : Int) (hc : 0 ≤ c ∧ c ≤ 1125899906842624) (h : 0 ≤ p ∧ p < 64) : bits BinOp.and IntKind.i64 (c * 64 + p) 63 = p := by
  unfold bits
  simp only
  have hk : IntKind.bits .i64 = 64 := rfl
  rw [hk]
  have e : (BitVec.ofInt 64 (c * 64 + p) &&& BitVec.ofInt 64 63).toNat = ((c * 64 + p) % 64).toNat := by
    rw [BitVec.toNat_and, BitVec.toNat_ofInt, BitVec.toNat_ofInt]
    rw [show (63 % ((2 ^ 64 : Nat) : Int)).toNat = 2 ^ 6 - 1 by decide, Nat.and_two_pow_sub_one_eq_mod]
    omega
  rw [e, IntKind.wrap_i64]; omega
theorem bor6 (c p : Int) (hc : 0 ≤ c ∧ c ≤ 1125899906842624) (h : 0 ≤ p ∧ p < 64) : bits BinOp.or IntKind.i64 (c * 64) p = c * 64 + p := by
  unfold bits
  simp only
  have hk : IntKind.bits .i64 = 64 := rfl
  rw [hk]
  have e : (BitVec.ofInt 64 (c * 64) ||| BitVec.ofInt 64 p).toNat = (c * 64 + p).toNat := by
    rw [BitVec.toNat_or, BitVec.toNat_ofInt, BitVec.toNat_ofInt]
    rw [show (c * 64 % ((2 ^ 64 : Nat) : Int)).toNat = c.toNat <<< 6 by rw [Nat.shiftLeft_eq]; omega, show (p % ((2 ^ 64 : Nat) : Int)).toNat = p.toNat by omega,
      ← Nat.shiftLeft_add_eq_or_of_lt (show p.toNat < 2 ^ 6 by omega), Nat.shiftLeft_eq]
    omega
  rw [e, IntKind.wrap_i64]; omega

/-- What a clone of an own slice is. -/
theorem clone_own (av : Option Addr) (cap : Nat) (X : List Int) (hX : X.length ≤ 1000) (w : World) (ho : w.ownsRow 0 3 1 (.slice av X.length cap) X.length (X.map (Value.int .i64))) :
    Calls Try.prog 69 #[.slice av X.length cap] w fun e w' => ∃ a2 c2, e = .returned (.slice a2 X.length c2) ∧ Mem w nof [own 3 1 (.slice a2 X.length c2) X.length (X.map (Value.int .i64))] w' := by
  obtain ⟨a', cap', he, -, -, -, h1, h2⟩ := own_form ho
  cases he
  cases av with
  | none =>
    have h0 := h1 rfl
    have hX0 : X = [] := List.length_eq_zero_iff.1 h0
    subst hX0
    exact Calls.mono (Try.slices_Clone_int_nil 0 cap w) (fun e w' ⟨he, hw⟩ => ⟨none, 0, he, by rw [hw]; exact (Mem.start w).ownNil _ _⟩)
  | some q =>
    obtain ⟨g, rfl⟩ := h2 q rfl
    have hc : ∀ j, j < X.length → w.cell? ⟨g, 0 + j, none⟩ = some (.int .i64 (X.getD j 0)) := fun j hj => by
      have := ho.cells (g := g) rfl j (.int .i64 (X.getD j 0)) (by simp [hj])
      rwa [Addr.add_lit] at this
    refine Calls.mono (Try.slices_Clone_int g 0 X.length cap X w (Nat.le_refl _) (by omega) hc) (fun e w' hp => ?_)
    obtain ⟨v', he, hown, -, hb⟩ := hp
    rw [List.take_length] at hown
    obtain ⟨a2, c2, rfl, hm⟩ := own_slice hown hb
    exact ⟨a2, c2, he, hm⟩
/-- An own slice is read as its numbers. -/
theorem Mem.intSl {w0 w : World} {F : Nat → Prop} {L : List Ck} {k cap : Nat} {av : Option Addr} {X : List Int} {t : TypeId} (hM : Mem w0 F L w) (hk : ith L k = some (own t 1 (.slice av X.length cap) X.length (X.map (Value.int .i64)))) : IntSl w (.slice av X.length cap) X := by
  obtain ⟨a', cap', he, hn, hm, -, h1, h2⟩ := hM.ownForm hk
  cases he
  have ho : w.ownsRow 0 t 1 (.slice av X.length cap) X.length (X.map (Value.int .i64)) := hM.mem hk
  refine ⟨av, cap, rfl, hn, hm, fun hna => ?_, fun hne => ?_⟩
  · subst hna
    rcases ho.2 with ⟨h, -⟩ | ⟨g, c, cur, h, -⟩
    · injection h
    · cases h
  · have hpos : 0 < X.length := List.length_pos_iff.2 hne
    obtain ⟨g, rfl⟩ := hM.ownAt hk hpos
    refine ⟨g, 0, rfl, (hM.inb _ (List.mem_of_getElem? (by rwa [ith_eq] at hk)) g rfl).1, fun i hi => ?_⟩
    rw [Nat.zero_add]
    exact hM.ownCell hk (by simp [hi])
end Go.Proofs.Ytjjbognomeplbaa
