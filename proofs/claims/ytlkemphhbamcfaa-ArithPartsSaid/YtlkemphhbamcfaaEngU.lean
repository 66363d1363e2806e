/-
  Operations that hang on a test that was not made. It holds of every program; nothing is assumed.
-/
import Derived.Test.YtlkemphhbamcfaaEng2
namespace Go.Proofs.Ytlkemphhbamcfaa
open Go.RowKit
/-! ### operations that hang on a test that was not made -/
section
variable {P : Program} {a : Act} {w : World} {n : Nat} {l : List (Nat × Value)} {ops : Array Oper} {Q : Exit → Act → World → Prop} {rest : List Oper} {S : World → Prop} {os : List Oper} {is : Ordt} {b0 : Bool} {i last : Nat}
theorem wanted_undef {ops : Array Oper} {o : Oper} {j d : Nat} {b : Bool} (hA : St n l a) (hg : o.guard = some (j, b)) (hj : dstOf ops j = some d) (hl : lk l d = some undef) : Region.wanted o (yielded ops a.tmps) = false := by
  have h1 := hA.has d _ hl
  unfold dstOf at hj
  unfold Region.wanted yielded
  rw [hg]
  simp only [hj, Option.bind_some, h1]
  cases b <;> rfl
theorem S.noU {d j dj : Nat} {b : Bool} {op : Op} {ty : TypeId} {pos : String} {aft : Array Edge} (hA : St n l a) (hj : dstOf ops j = some dj) (hl : lk l dj = some undef) (hd : Nat.blt d n = true)
    (h : ∀ a, St n ((d, undef) :: l) a → wpList P ops Q rest a w) : wpList P ops Q ({ dst := some d, op, type := ty, pos, after := aft, guard := some (j, b) } :: rest) a w := by
  refine wpList_step fun K hK => ?_
  rw [wanted_undef hA rfl hj hl]
  exact hK _ _ (h _ (hA.put hd undef))
theorem D.noU {d j dj : Nat} {b : Bool} {op : Op} {ty : TypeId} {pos : String} {aft : Array Edge} (hA : St n l a) (ho : ith os i = some { dst := some d, op, type := ty, pos, after := aft, guard := some (j, b) })
    (hj : dstOf os.toArray j = some dj) (hl : lk l dj = some undef)
    (hd : Nat.blt d n = true) (h : ∀ a, St n ((d, undef) :: l) a → wpOrd P last os Q S b0 is a w) : wpOrd P last os Q S b0 (.cons (i, true) is) a w :=
  ⟨_, ho, undef, .inr ⟨by rw [wanted_undef hA rfl hj hl], rfl⟩, h _ (hA.put hd undef)⟩
end
theorem or_bool {p : Prop} [Decidable p] {b : Bool} (h : ¬ p) : b = decide (p ∨ b = true) := by cases b <;> simp [h]
theorem and_bool {p : Prop} [Decidable p] {b : Bool} (h : p) : b = decide (p ∧ b = true) := by cases b <;> simp [h]
end Go.Proofs.Ytlkemphhbamcfaa
