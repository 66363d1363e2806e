/-
  What a job does to a memory: told once, for the program and for the reference.
-/
import Derived.Test.YtlkemphhbamcfaaCellW
import Derived.Test.YtlkemphhbamcfaaSums
namespace Go.Proofs.Ytlkemphhbamcfaa
open Go.RowKit

theorem Mem.only {w0 w : World} {F : Nat → Prop} {L : List Ck} {c : Ck} {k : Nat} (h : Mem w0 F L w) (hk : ith L k = some c) : Mem w0 F [c] w := (h.front hk).sub ((List.nil_sublist _).cons_cons _)

def jobV (l : List Int) (what i p : Int) : Int × Bool × Int :=
  if i < 0 ∨ l.length ≤ i then (0, false, 11)
  else if what = 1 then (l.getD i.toNat 0, false, 0)
  else if what = 2 then (0, false, 0)
  else if what = 3 then (0, decide (l.getD i.toNat 0 = p), 0)
  else if -9223372036854775808 ≤ l.getD i.toNat 0 + p ∧ l.getD i.toNat 0 + p ≤ 9223372036854775807 then (l.getD i.toNat 0, false, 0)
  else (0, false, 12)
def jobL (l : List Int) (what i p q : Int) : List Int :=
  if i < 0 ∨ l.length ≤ i then l
  else if what = 1 then l.set i.toNat (l.getD i.toNat 0)
  else if what = 2 then l.set i.toNat p
  else if what = 3 then (if l.getD i.toNat 0 = p then l.set i.toNat q else l.set i.toNat (l.getD i.toNat 0))
  else if -9223372036854775808 ≤ l.getD i.toNat 0 + p ∧ l.getD i.toNat 0 + p ≤ 9223372036854775807 then l.set i.toNat (l.getD i.toNat 0 + p)
  else l
def jobN (l : List Int) (s what i p : Int) : Int :=
  if i < 0 ∨ l.length ≤ i then s
  else if what = 1 ∨ what = 2 ∨ what = 3 then s + 1
  else if -9223372036854775808 ≤ l.getD i.toNat 0 + p ∧ l.getD i.toNat 0 + p ≤ 9223372036854775807 then s + 1
  else s
def jobO (l : List Int) (o : CellOp) (what i p q : Int) : CellOp :=
  if i < 0 ∨ l.length ≤ i then o
  else if what = 1 then ⟨1, i, l.getD i.toNat 0, l.getD i.toNat 0, true⟩
  else if what = 2 then ⟨2, i, l.getD i.toNat 0, p, true⟩
  else if what = 3 then (if l.getD i.toNat 0 = p then ⟨3, i, l.getD i.toNat 0, q, true⟩ else ⟨3, i, l.getD i.toNat 0, l.getD i.toNat 0, false⟩)
  else if -9223372036854775808 ≤ l.getD i.toNat 0 + p ∧ l.getD i.toNat 0 + p ≤ 9223372036854775807 then ⟨4, i, l.getD i.toNat 0, l.getD i.toNat 0 + p, true⟩
  else o
theorem jobL_len (l : List Int) (what i p q : Int) : (jobL l what i p q).length = l.length := by
  unfold jobL; repeat' split
  all_goals simp
theorem allI_set {l : List Int} (h : AllI l) (i : Nat) {v : Int} (hv : -9223372036854775808 ≤ v ∧ v ≤ 9223372036854775807) : AllI (l.set i v) := fun x hx => by
  rcases List.mem_or_eq_of_mem_set hx with h1 | rfl
  · exact h x h1
  · exact hv
theorem jobL_all {l : List Int} (h : AllI l) (what i p q : Int) (hp : -9223372036854775808 ≤ p ∧ p ≤ 9223372036854775807) (hq : -9223372036854775808 ≤ q ∧ q ≤ 9223372036854775807) : AllI (jobL l what i p q) := by
  unfold jobL
  split
  · exact h
  · rename_i hi
    have hat := h.at (i := i.toNat) (by omega)
    repeat' split
    all_goals first | exact h | exact allI_set h _ hat | exact allI_set h _ hp | exact allI_set h _ hq | exact allI_set h _ (by assumption)
theorem jobN_bd (l : List Int) (s what i p : Int) : s ≤ jobN l s what i p ∧ jobN l s what i p ≤ s + 1 := by
  unfold jobN; repeat' split
  all_goals omega

/-- The reference's memory. -/
def refO (b c : Nat) (l : List Int) (s : Int) (o : CellOp) : Ck := both (pt b (memA c l s o) 85) (pt c (ints l) 3)
theorem refO.open {b c : Nat} {l : List Int} {s : Int} {o : CellOp} {w : World} (h : (refO b c l s o).holds w) (hne : b ≠ c) : Mem w (two b c) [pt b (memA c l s o) 85, pt c (ints l) 3] w := Mem.start2 h.1 h.2 hne
theorem Mem.toR {w0 w : World} {F : Nat → Prop} {L : List Ck} {b c n : Nat} {l : List Int} {s k i x y : Int} {d : Bool} (h : Mem w0 F (pt b #[.slice (some ⟨c, 0, none⟩) n n, .int .i64 s, .int .i64 k, .int .i64 i, .int .i64 x, .int .i64 y, .bool d] 85 :: pt c (ints l) 3 :: L) w) (hl : l.length = n) :
    Mem w0 F (refO b c l s ⟨k, i, x, y, d⟩ :: L) w := by subst hl; exact h.join
end Go.Proofs.Ytlkemphhbamcfaa
