/-
  Is a problem in form, in plain Lean; a problem cut. Nothing is assumed.
-/
import Derived.Test.YtakfcekfmdjklaaDoorIns2
namespace Go.Proofs.YtakfcekfmdjklaaDoor
def numE (n : Int) : Int := if n < 0 then 1 else if 2147483647 < n then 5 else 0
/-- The first error of so many. -/
def pfx (f : Nat → Int) : Nat → Int
  | 0 => 0
  | k + 1 => if pfx f k ≠ 0 then pfx f k else f k
theorem pfx_step {f : Nat → Int} {k : Nat} (h : pfx f k = 0) : pfx f (k + 1) = f k := by rw [pfx, if_neg (by rw [h]; simp)]
theorem pfx_stay {f : Nat → Int} {k n : Nat} (hk : pfx f k ≠ 0) (h : k ≤ n) : pfx f n = pfx f k := by
  induction h with
  | refl => rfl
  | step h ih => rw [Nat.succ_eq_add_one, pfx, ih, if_pos hk]
theorem pfx_err {f : Nat → Int} {k n : Nat} (h0 : pfx f k = 0) (hf : f k ≠ 0) (h : k < n) : pfx f n = f k := by
  have e := pfx_step h0
  rw [pfx_stay (k := k + 1) (by rw [e]; exact hf) h, e]
theorem pfx_zero {f : Nat → Int} {n : Nat} (h : pfx f n = 0) : ∀ k, k < n → f k = 0 := by
  intro k hk
  have h1 : pfx f (k + 1) = 0 := by
    by_cases e : pfx f (k + 1) = 0
    · exact e
    · rw [← pfx_stay e hk]; exact h
  have h0 : pfx f k = 0 := by
    by_cases e : pfx f k = 0
    · exact e
    · rw [pfx, if_pos e] at h1; exact h1
  rw [pfx_step h0] at h1; exact h1
theorem pfx_all {f : Nat → Int} : ∀ n, (∀ k, k < n → f k = 0) → pfx f n = 0
  | 0, _ => rfl
  | n + 1, h => by rw [pfx_step (pfx_all n (fun k hk => h k (by omega)))]; exact h n (by omega)
def itF (i : Ins) (k : Nat) : Int := if numE (i.wt.getD k 0) ≠ 0 then numE (i.wt.getD k 0) else numE (i.vl.getD k 0)
def cellF (i : Ins) (r c : Nat) : Int := if numE ((i.cost.getD r []).getD c 0) ≠ 0 then numE ((i.cost.getD r []).getD c 0) else if (i.kind = 3 ∧ r = c) ∧ (i.cost.getD r []).getD c 0 ≠ 0 then 8 else 0
def sizeE (i : Ins) : Int := if i.kind < 1 ∨ 3 < i.kind then 14 else if i.n < 1 then 1 else if (i.kind = 1 ∧ 64 < i.n) ∨ (1 < i.kind ∧ 24 < i.n) then 5 else 0
def shapeOK (i : Ins) : Prop :=
  (i.kind = 1 ∧ (i.wt.length : Int) = i.n ∧ (i.vl.length : Int) = i.n ∧ i.cost.length = 0) ∨
  (i.kind ≠ 1 ∧ (i.cost.length : Int) = i.n ∧ i.cap = 0 ∧ i.wt.length = 0 ∧ i.vl.length = 0 ∧ ∀ r, r < i.cost.length → ((i.cost.getD r []).length : Int) = i.n)
def numsE (i : Ins) : Int := if i.kind = 1 then (if numE i.cap ≠ 0 then numE i.cap else pfx (itF i) i.n.toNat) else pfx (fun r => pfx (cellF i r) i.n.toNat) i.n.toNat
/-- What is told of a problem: sz, sh, nm: what its parts tell. -/
def chkIs (i : Ins) (e : Int) : Prop := (sizeE i ≠ 0 ∧ e = sizeE i) ∨ (sizeE i = 0 ∧ ¬ shapeOK i ∧ e = 8) ∨ (sizeE i = 0 ∧ shapeOK i ∧ e = numsE i)
theorem chkIs_fun {i : Ins} {e f : Int} (h : chkIs i e) (g : chkIs i f) : e = f := by
  rcases h with ⟨h1, h2⟩ | ⟨h1, h3, h2⟩ | ⟨h1, h3, h2⟩ <;> rcases g with ⟨g1, g2⟩ | ⟨g1, g3, g2⟩ | ⟨g1, g3, g2⟩
  · rw [h2, g2]
  · exact absurd g1 h1
  · exact absurd g1 h1
  · exact absurd h1 g1
  · rw [h2, g2]
  · exact absurd g3 h3
  · exact absurd h1 g1
  · exact absurd h3 g3
  · rw [h2, g2]
/-! ### a problem cut -/
def cutI (i : Ins) : Ins := ⟨i.kind, i.n, i.cap, i.wt.take 70, i.vl.take 70, (i.cost.take 30).map fun r => r.take 70⟩
theorem cutI_idem (i : Ins) : cutI (cutI i) = cutI i := by
  unfold cutI
  simp only [List.take_take, Nat.min_self, List.map_map, ← List.map_take]
  congr 1
  apply List.map_congr_left
  intro r _
  simp [List.take_take]
/-- A problem whose lists are not too long. -/
def smallI (i : Ins) : Prop := i.wt.length ≤ 70 ∧ i.vl.length ≤ 70 ∧ i.cost.length ≤ 30 ∧ ∀ r ∈ i.cost, r.length ≤ 70
theorem cutI_small (i : Ins) : smallI (cutI i) := by
  refine ⟨by simp [cutI]; omega, by simp [cutI]; omega, by simp [cutI]; omega, fun r hr => ?_⟩
  obtain ⟨q, -, rfl⟩ := List.mem_map.1 hr
  rw [List.length_take]; omega
theorem cutI_of_small {i : Ins} (h : smallI i) : cutI i = i := by
  obtain ⟨h1, h2, h3, h4⟩ := h
  unfold cutI
  rw [List.take_of_length_le h1, List.take_of_length_le h2, List.take_of_length_le h3]
  have : i.cost.map (fun r => r.take 70) = i.cost := by
    conv => rhs; rw [← List.map_id i.cost]
    exact List.map_congr_left fun r hr => List.take_of_length_le (h4 r hr)
  rw [this]
end Go.Proofs.YtakfcekfmdjklaaDoor
