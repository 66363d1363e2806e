/-
  Slices of slices, equality of structs, strings: what these operations come to. It holds of every program; nothing is assumed.
-/
import Derived.Test.YtlkemphhbamcfaaEng5
import Derived.Test.YtlkemphhbamcfaaIsl
namespace Go.Proofs.Ytlkemphhbamcfaa
open Go.RowKit

section
variable {P : Program} {l : List (Nat × Value)} {w : World} {ty : TypeId} {x y z : Operand} {k k' : IntKind} {m n : Int} {t yt : TypeId}
/-- s[:h] -/
theorem R.sliceH {e : TypeId} {a : Option Addr} {len cap h : Nat} {j : TypeInfo} (ht : P.underlying t = some (.slice e)) (hj : P.info? e = some j) (hx : opv l x = some (.slice a len cap)) (hy : opv l y = some (.int k n)) (hn : n = (h : Int)) (hc : h ≤ cap) :
    Run P l w (.slice t x none (some y) none) ty (.slice a h cap) w := fun ev hev _ _ _ _ => by
  subst hn
  have hz : Option.map (fun a : Addr => a.add 0) a = a := by cases a <;> simp [Addr.add]
  have h1 : (Instr.slice t (.slice a len cap) none (some (.int k (h : Int))) none).run P w = .ok (.slice a h cap) w := by
    simp only [Instr.slice, Sem.run_bind, run_underlying ht, Result.andThen_ok, Instr.sliceBounds, Instr.sliceBound, asIntOf, Sem.run_pure]
    simp [hc, run_sizeOf_of hj, hz]
  have h2 : (Instr.sliceAt t (.slice a len cap) none (some (.int k (h : Int))) none).run P w = .ok (.slice a h cap) w := by
    unfold Instr.sliceAt
    simp only [Sem.run_bind, run_underlying ht, Result.andThen_ok]
    exact h1
  simp [execOp, hev _ _ hx, hev _ _ hy, h2]
theorem R.eqlS {xs ys : Array Value} {b : Bool} (hg : P.eqGuardType P.depth t = false) (he : ∀ w, (Op.equalIn 10000 t (.agg xs) (.agg ys)).run P w = .ok b w) (hx : opv l x = some (.agg xs)) (hy : opv l y = some (.agg ys)) : Run P l w (.binOp .eql t x y yt) ty (.bool b) w := fun ev h _ _ _ _ => by
  have h1 := run_eqGuard_agg (P := P) w .eql t x y xs ys hg
  have h2 := run_eql_struct (P := P) w t xs ys
  simp only [execOp, h _ _ hx, h _ _ hy, Sem.run_bind, h1, Result.andThen_ok, h2, he, Sem.run_pure]
theorem R.neqS {xs ys : Array Value} {b : Bool} (hg : P.eqGuardType P.depth t = false) (he : ∀ w, (Op.equalIn 10000 t (.agg xs) (.agg ys)).run P w = .ok b w) (hx : opv l x = some (.agg xs)) (hy : opv l y = some (.agg ys)) : Run P l w (.binOp .neq t x y yt) ty (.bool (!b)) w := fun ev h _ _ _ _ => by
  have h1 := run_eqGuard_agg (P := P) w .neq t x y xs ys hg
  have h2 := run_neq_struct (P := P) w t xs ys
  simp only [execOp, h _ _ hx, h _ _ hy, Sem.run_bind, h1, Result.andThen_ok, h2, he, Sem.run_pure]
end

/-- Where a number of a slice that is read lies. -/
theorem IntSl.at {w : World} {a : Option Addr} {n cap : Nat} {l : List Int} (h : IntSl w (.slice a n cap) l) {i : Nat} (hi : i < l.length) :
    ∃ b off, a = some ⟨b, off, none⟩ ∧ w.cell? ⟨b, off + i, none⟩ = some (.int .i64 (l.getD i 0)) := by
  obtain ⟨a', cap', he, h1, h2, h3, h4⟩ := h
  cases he
  obtain ⟨b, off, rfl, -, hc⟩ := h4 (by intro e; rw [e] at hi; simp at hi)
  exact ⟨b, off, rfl, hc i hi⟩
theorem IntSl.len {w : World} {a : Option Addr} {n cap : Nat} {l : List Int} (h : IntSl w (.slice a n cap) l) : n = l.length ∧ l.length ≤ cap ∧ cap ≤ maxLen := by
  obtain ⟨a', cap', he, h1, h2, -⟩ := h
  cases he
  exact ⟨rfl, h1, h2⟩
theorem IntSl.form {w : World} {v : Value} {l : List Int} (h : IntSl w v l) : ∃ a cap, v = .slice a l.length cap := by
  obtain ⟨a, cap, he, -⟩ := h; exact ⟨a, cap, he⟩
theorem IntSl.cut {w : World} {a : Option Addr} {n cap : Nat} {l : List Int} (h : IntSl w (.slice a n cap) l) (m : Nat) (hm : m ≤ l.length) : IntSl w (.slice a m cap) (l.take m) := by
  obtain ⟨a', cap', he, h1, h2, h3, h4⟩ := h
  cases he
  refine ⟨a, cap, by rw [List.length_take, Nat.min_eq_left hm], by rw [List.length_take]; omega, h2, h3, fun hne => ?_⟩
  obtain ⟨b, off, e, hlt, hc⟩ := h4 (by intro e; subst e; simp at hne)
  refine ⟨b, off, e, hlt, fun i hi => ?_⟩
  rw [List.length_take] at hi
  rw [hc i (by omega)]
  congr 2
  simp only [List.getD_eq_getElem?_getD, List.getElem?_take]
  rw [if_pos (by omega)]
theorem IntSl.mem {w0 w : World} {v : Value} {l : List Int} {L : List Ck} (h : IntSl w0 v l) (hM : Mem w0 nof L w) : IntSl w v l := h.below hM.nilL.below (Nat.le_refl _)
end Go.Proofs.Ytlkemphhbamcfaa
