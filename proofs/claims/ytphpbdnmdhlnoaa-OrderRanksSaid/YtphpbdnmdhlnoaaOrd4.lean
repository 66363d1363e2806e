/-
  What tells that a list is an order, in plain Lean. Nothing is assumed.
-/
import Derived.Test.YtphpbdnmdhlnoaaOrd1
namespace Go.Proofs.Ytphpbdnmdhlnoaa
def hasNeg (X : List Int) : Bool := X.any fun x => decide (x < 0)
theorem hasNeg_at {X : List Int} {k : Nat} (hk : k < X.length) (h : X.getD k 0 < 0) : hasNeg X = true := by
  refine List.any_eq_true.2 ⟨X.getD k 0, ?_, decide_eq_true h⟩
  rw [List.getD_eq_getElem?_getD, List.getElem?_eq_getElem hk]; exact List.getElem_mem hk
theorem hasNeg_no {X : List Int} (h : ∀ j, j < X.length → 0 ≤ X.getD j 0) : hasNeg X = false := by
  refine List.any_eq_false.2 fun x hx => ?_
  obtain ⟨j, hj, rfl⟩ := List.mem_iff_getElem.1 hx
  have := h j hj
  rw [List.getD_eq_getElem?_getD, List.getElem?_eq_getElem hj] at this
  simpa using this
theorem nn_of {X : List Int} (h : hasNeg X = false) : ∀ x ∈ X, 0 ≤ x := fun x hx => by
  have := List.any_eq_false.1 h x hx
  simpa using this
/-! ### a list of what was seen -/
def seenOK (X : List Int) (k : Nat) (sn : List Bool) : Prop :=
  sn.length = X.length ∧ (X.take k).Nodup ∧ (∀ x ∈ X.take k, 0 ≤ x ∧ x < X.length) ∧ ∀ j, j < X.length → (sn.getD j false = true ↔ (j : Int) ∈ X.take k)
theorem seen_zero (X : List Int) : seenOK X 0 (List.replicate X.length false) :=
  ⟨by simp, by simp, by simp, fun j hj => by simp [List.getD, hj]⟩
theorem take_snoc {X : List Int} {k : Nat} (h : k < X.length) : X.take (k + 1) = X.take k ++ [X.getD k 0] := by
  rw [List.take_succ_eq_append_getElem h, List.getD_eq_getElem?_getD, List.getElem?_eq_getElem h]; rfl
theorem seen_succ {X : List Int} {k : Nat} {sn : List Bool} (h : seenOK X k sn) (hk : k < X.length) (h0 : 0 ≤ X.getD k 0 ∧ X.getD k 0 < X.length) (hs : sn.getD (X.getD k 0).toNat false = false) :
    seenOK X (k + 1) (sn.set (X.getD k 0).toNat true) := by
  obtain ⟨h1, h2, h3, h4⟩ := h
  generalize hx : X.getD k 0 = x at *
  have hnm : x ∉ X.take k := fun hm => by
    have := (h4 x.toNat (by omega)).2 (by rw [Int.toNat_of_nonneg h0.1]; exact hm)
    rw [hs] at this; cases this
  refine ⟨by rw [List.length_set, h1], ?_, ?_, ?_⟩
  · rw [take_snoc hk, hx]
    refine List.nodup_append.2 ⟨h2, List.nodup_cons.2 ⟨by simp, List.nodup_nil⟩, fun a ha b hb e => ?_⟩
    have : b = x := by simpa using hb
    subst this e; exact hnm ha
  · rw [take_snoc hk, hx]
    intro y hy
    rcases List.mem_append.1 hy with g | g
    · exact h3 y g
    · have : y = x := by simpa using g
      subst this; exact h0
  · intro j hj
    rw [take_snoc hk, hx, List.mem_append, List.getD_eq_getElem?_getD, List.getElem?_set]
    by_cases e : x.toNat = j
    · have : (j : Int) = x := by omega
      simp [e, this, h1, hj]
    · have hne : ¬ (j : Int) = x := by omega
      rw [if_neg e, ← List.getD_eq_getElem?_getD]
      simp only [List.mem_singleton, hne, or_false]
      exact h4 j hj
theorem seen_bad {X : List Int} {k : Nat} {sn : List Bool} (h : seenOK X k sn) (hk : k < X.length) (hb : (X.getD k 0 < 0 ∨ (X.length : Int) ≤ X.getD k 0) ∨ sn.getD (X.getD k 0).toNat false = true) : okP X = false := by
  rw [← Bool.not_eq_true]
  intro ho
  obtain ⟨n1, n2⟩ := of_decide_eq_true ho
  have hmem : X.getD k 0 ∈ X := by rw [List.getD_eq_getElem?_getD, List.getElem?_eq_getElem hk]; exact List.getElem_mem hk
  have hr := n2 _ hmem
  rcases hb with (g | g) | g
  · omega
  · omega
  · have hm := (h.2.2.2 (X.getD k 0).toNat (by omega)).1 g
    rw [Int.toNat_of_nonneg hr.1] at hm
    have hn : (X.take (k + 1)).Nodup := n1.sublist (List.take_sublist _ _)
    rw [take_snoc hk] at hn
    exact (List.nodup_append.1 hn).2.2 _ hm _ (.head _) rfl
theorem seen_end {X : List Int} {sn : List Bool} (h : seenOK X X.length sn) : okP X = true := by
  obtain ⟨-, h2, h3, -⟩ := h
  rw [List.take_length] at h2 h3
  exact decide_eq_true ⟨h2, h3⟩
/-! ### by counting -/
theorem pl_count (z : Int) : ∀ n, (pl n).count z = if 0 ≤ z ∧ z < n then 1 else 0
  | 0 => by
    rw [if_neg (by omega)]; rfl
  | n + 1 => by
    rw [pl_succ, List.count_append, pl_count z n, List.count_singleton]
    simp only [beq_iff_eq]
    repeat' split
    all_goals omega
theorem okP_count {X : List Int} : okP X = true ↔ ∀ j, j < X.length → X.count (j : Int) = 1 := by
  constructor
  · intro h j hj
    have hp := okP_perm.1 h
    rw [hp.count_eq]
    rw [pl_count, if_pos (by omega)]
  · intro h
    refine okP_perm.2 (perm_of_nodup (pl_nodup _) (fun x hx => ?_) (by rw [pl_len]; exact Nat.le_refl _)).symm
    obtain ⟨h1, h2⟩ := mem_pl.1 hx
    have := h x.toNat (by omega)
    rw [Int.toNat_of_nonneg h1] at this
    exact List.count_pos_iff.1 (by omega)
theorem okP_no {X : List Int} {k : Nat} (hk : k < X.length) (h : X.count (k : Int) ≠ 1) : okP X = false := by
  rw [← Bool.not_eq_true]; intro ho; exact h (okP_count.1 ho k hk)
theorem count_take {X : List Int} {a : Nat} (h : a < X.length) (z : Int) : (X.take (a + 1)).count z = (X.take a).count z + if X.getD a 0 = z then 1 else 0 := by
  rw [take_snoc h, List.count_append, List.count_singleton]
  simp only [beq_iff_eq]
theorem count_le (X : List Int) (z : Int) : X.count z ≤ X.length := List.count_le_length
end Go.Proofs.Ytphpbdnmdhlnoaa
