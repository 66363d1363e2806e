/-
  Several acts of a count in an array: their states as a list.
-/
import Derived.Test.YtjjbognomeplbaaBundle
import Derived.Test.YtjjbognomeplbaaIncL
import Derived.Test.YtjjbognomeplbaaCountN
namespace Go.Proofs.Ytjjbognomeplbaa
open Go.RowKit

/-- An act: none, or its block, whether it has read, what it had, whether it is over, whether it left. -/
abbrev AcS := Option (Nat × Bool × Int × Bool × Bool)
def actV : AcS → Value
  | none => .pointer none
  | some (b, _) => .pointer (some ⟨b, 0, none⟩)
def actC (q : Nat) : AcS → Ck
  | none => emp
  | some (b, rd, hd, ov, lf) => pt b #[.pointer (some ⟨q, 0, none⟩), .bool rd, .int .i64 hd, .bool ov, .bool lf] 105
def AcOK : AcS → Prop
  | none => True
  | some (_, rd, hd, ov, lf) => (ov = false → lf = false) ∧ (rd = true → ov = false → 2 ≤ hd) ∧ 0 ≤ hd ∧ hd ≤ 1000
theorem acOK_set {xs : List AcS} (h : ∀ x ∈ xs, AcOK x) (j : Nat) {y : AcS} (hy : AcOK y) : ∀ x ∈ xs.set j y, AcOK x := fun x hx => by
  rcases List.mem_or_eq_of_mem_set hx with h1 | rfl
  · exact h x h1
  · exact hy
theorem set_at {α : Type} {l : List α} {j : Nat} {v : α} (h : l[j]? = some v) : l.set j v = l := by
  apply List.ext_getElem?
  intro i
  rw [List.getElem?_set]
  split
  · rename_i e
    subst e
    obtain ⟨hj, rfl⟩ := List.getElem?_eq_some_iff.1 h
    simp [hj]
  · rfl
theorem actV_set {xs : List AcS} {j b : Nat} {s s' : Bool × Int × Bool × Bool} (hx : xs[j]? = some (some (b, s))) : (xs.set j (some (b, s'))).map actV = xs.map actV := by
  rw [List.map_set]
  exact set_at (by rw [List.getElem?_map, hx]; rfl)
theorem actV_new (xs : List AcS) (j b : Nat) (s : Bool × Int × Bool × Bool) : (xs.set j (some (b, s))).map actV = (xs.map actV).set j (.pointer (some ⟨b, 0, none⟩)) := by
  rw [List.map_set]; rfl
theorem actV_at {xs : List AcS} {j : Nat} {x : AcS} (hx : xs[j]? = some x) : (xs.map actV)[j]? = some (actV x) := by rw [List.getElem?_map, hx]; rfl
theorem emps : ∀ n, apartL (List.replicate n emp)
  | 0 => .nil
  | n + 1 => by
    rw [List.replicate_succ]
    exact List.pairwise_cons.2 ⟨fun d _ b hb => hb.elim, emps n⟩
theorem Mem.emps {w0 w : World} {F : Nat → Prop} {L : List Ck} (h : Mem w0 F L w) (n : Nat) : Mem w0 F (bundle (List.replicate n emp) :: L) w :=
  h.consNo ⟨fun c hc => by rw [List.eq_of_mem_replicate hc]; trivial, Go.Proofs.Ytjjbognomeplbaa.emps n⟩ (fun b ⟨c, hc, hb⟩ => by rw [List.eq_of_mem_replicate hc] at hb; exact hb)
theorem ac_some {xs : List AcS} {j : Nat} (hj : j < xs.length) (h : ¬ xs[j]? = some none) : ∃ b rd hd ov lf, xs[j]? = some (some (b, rd, hd, ov, lf)) := by
  rw [List.getElem?_eq_getElem hj] at h ⊢
  match hx : xs[j], h with
  | none, h => exact absurd rfl h
  | some (b, rd, hd, ov, lf), _ => exact ⟨b, rd, hd, ov, lf, rfl⟩
end Go.Proofs.Ytjjbognomeplbaa
