/-
  Several acts of an inc in an array: their states as a list.
-/
import Derived.Test.YtjjbognomeplbaaIncM
import Derived.Test.YtjjbognomeplbaaBundle
import Derived.Test.YtjjbognomeplbaaCountA
import Derived.Test.YtjjbognomeplbaaOpenS
namespace Go.Proofs.Ytjjbognomeplbaa
open Go.RowKit

theorem RowSl.two {w : World} {a : Option Addr} {n cap : Nat} {l : List Int} (h : RowSl w (.slice a n cap) 2 n l) {i : Nat} (hi : i < n) :
    ∃ b off x0 x1, a = some ⟨b, off, none⟩ ∧ ∀ j v, ([.int .i64 x0, .int .i64 x1] : List Value)[j]? = some v → w.cell? ⟨b, off + i * 2 + j, none⟩ = some v := by
  obtain ⟨b, off, rfl, hc⟩ := h.at hi
  refine ⟨b, off, l.getD (i * 2 + 0) 0, l.getD (i * 2 + 1) 0, rfl, fun j v hj => ?_⟩
  match j, hj with
  | 0, hj => exact (hc 0 (by omega)).trans hj
  | 1, hj => exact (hc 1 (by omega)).trans hj
  | j + 2, hj => simp at hj
/-- An act: its block, its answer, its cost, whether it has read, what it had, whose it is and when it began, the answer as the statement keeps it. -/
structure IAct where
  b : Nat
  a : Option Addr
  c : Nat
  co : Int
  rd : Bool
  dd : Int
  ee : Int
  wr : Int
  n0 : Int
  a2 : Option Addr
  c2 : Nat
abbrev IS := Option IAct
def iaV : IS → Value
  | none => .pointer none
  | some t => .pointer (some ⟨t.b, 0, none⟩)
def iaC (q : Nat) : IS → Ck
  | none => emp
  | some t => bundle [pt t.b #[.pointer (some ⟨q, 0, none⟩), .int .i64 t.wr, .slice t.a [t.wr, t.n0].length t.c, .int .i64 t.co, .bool t.rd, .int .i64 (t.dd * 64 + t.ee), .bool false, .bool false] 124,
      own 3 1 (.slice t.a [t.wr, t.n0].length t.c) [t.wr, t.n0].length ([t.wr, t.n0].map (Value.int .i64)), own 3 1 (.slice t.a2 [t.wr, t.n0].length t.c2) [t.wr, t.n0].length ([t.wr, t.n0].map (Value.int .i64))]
def IOK (cl : List Int) (xl : List Value) (cc pp : Int) (j : Nat) : IS → Prop
  | none => True
  | some t => t.wr = j ∧ (0 ≤ t.co ∧ t.co < 1000) ∧ cl.getD j 0 = t.co ∧ xl[j]? = some (.slice t.a2 [t.wr, t.n0].length t.c2) ∧
      (t.rd = true → (0 ≤ t.dd ∧ t.dd < 1000) ∧ (0 ≤ t.ee ∧ t.ee < 9) ∧ t.co < t.dd ∧ ((t.dd = cc ∧ t.ee = pp) ∨ (pp ≠ 2 * j ∧ pp ≠ 2 * j + 1)))
theorem iok_upd {xs : List IS} {cl cl' : List Int} {xl xl' : List Value} {cc pp cc' pp' : Int} {n : Nat} {y : IS} (h : ∀ j x, xs[j]? = some x → IOK cl xl cc pp j x)
    (hj : ∀ j t, j ≠ n → IOK cl xl cc pp j (some t) → IOK cl' xl' cc' pp' j (some t)) (hy : IOK cl' xl' cc' pp' n y) : ∀ j x, (xs.set n y)[j]? = some x → IOK cl' xl' cc' pp' j x := fun j x hx => by
  rw [List.getElem?_set] at hx
  split at hx
  · rename_i e
    subst e
    split at hx
    · cases hx; exact hy
    · cases hx
  · rename_i e
    cases x with
    | none => trivial
    | some t => exact hj j t (fun e' => e e'.symm) (h j _ hx)
theorem iok_same {xs : List IS} {cl : List Int} {xl : List Value} {cc pp : Int} {n : Nat} {y : IS} (h : ∀ j x, xs[j]? = some x → IOK cl xl cc pp j x) (hy : IOK cl xl cc pp n y) : ∀ j x, (xs.set n y)[j]? = some x → IOK cl xl cc pp j x :=
  iok_upd h (fun _ _ _ hx => hx) hy
theorem iok_best {xs : List IS} {cl : List Int} {xl : List Value} {cc pp cc' pp' : Int} {n : Nat} (h : ∀ j x, xs[j]? = some x → IOK cl xl cc pp j x) (hp : pp' = 2 * n ∨ pp' = 2 * n + 1) : ∀ j x, (xs.set n none)[j]? = some x → IOK cl xl cc' pp' j x :=
  iok_upd h (fun j t hj ⟨h1, h2, h3, h4, h5⟩ => ⟨h1, h2, h3, h4, fun hr => by
    obtain ⟨g1, g2, g3, -⟩ := h5 hr
    exact ⟨g1, g2, g3, .inr ⟨by omega, by omega⟩⟩⟩) trivial
theorem iok_new {xs : List IS} {cl : List Int} {xl : List Value} {cc pp : Int} {n : Nat} {c : Int} {v : Value} {t : IAct} (h : ∀ j x, xs[j]? = some x → IOK cl xl cc pp j x) (hc : n < cl.length) (hx : n < xl.length) (h1 : t.wr = n) (h2 : 0 ≤ t.co ∧ t.co < 1000) (h3 : c = t.co) (h4 : v = .slice t.a2 [t.wr, t.n0].length t.c2) (h5 : t.rd = false) :
    ∀ j x, (xs.set n (some t))[j]? = some x → IOK (cl.set n c) (xl.set n v) cc pp j x :=
  iok_upd h (fun j t hj ⟨g1, g2, g3, g4, g5⟩ => ⟨g1, g2, by rw [List.getD_eq_getElem?_getD, List.getElem?_set_ne (fun e => hj e.symm), ← List.getD_eq_getElem?_getD]; exact g3, by rw [List.getElem?_set_ne (fun e => hj e.symm)]; exact g4, g5⟩)
    ⟨h1, h2, by rw [List.getD_eq_getElem?_getD, List.getElem?_set_self hc]; exact h3, by rw [List.getElem?_set_self hx, h4], fun hr => by rw [h5] at hr; cases hr⟩
theorem iaV_at {xs : List IS} {j : Nat} {x : IS} (hx : xs[j]? = some x) : (xs.map iaV)[j]? = some (iaV x) := by rw [List.getElem?_map, hx]; rfl
theorem iaV_set {xs : List IS} {j : Nat} {t t' : IAct} (hx : xs[j]? = some (some t)) (hb : t'.b = t.b) : (xs.set j (some t')).map iaV = xs.map iaV := by
  rw [List.map_set]
  exact set_at (by rw [List.getElem?_map, hx]; simp [iaV, hb])
theorem ia_some {xs : List IS} {j : Nat} (hj : j < xs.length) (h : ¬ xs[j]? = some none) : ∃ t, xs[j]? = some (some t) := by
  rw [List.getElem?_eq_getElem hj] at h ⊢
  match hx : xs[j], h with
  | none, h => exact absurd rfl h
  | some t, _ => exact ⟨t, rfl⟩
theorem getD_set_self (l : List Int) (n : Nat) (c : Int) (h : n < l.length) : (l.set n c).getD n 0 = c := by rw [List.getD_eq_getElem?_getD, List.getElem?_set_self h]; rfl
theorem Mem.addEmp {w0 w : World} {F : Nat → Prop} {L : List Ck} (h : Mem w0 F L w) : Mem w0 F (emp :: L) w := h.consNo trivial (fun _ hb => hb)
/-- Take, wherever the slice lies. -/
theorem take22_any (wb : Nat) (c0 co : Int) (v0 : Value) (av : Option Addr) (X : List Int) (cap : Nat) (hX : X.length ≤ 1000) (h0 : 0 < X.length) (w : World)
    (hM : Mem w (feet [pt wb #[.int .i64 c0, v0] 61, own 3 1 (.slice av X.length cap) X.length (X.map (Value.int .i64))]) [pt wb #[.int .i64 c0, v0] 61, own 3 1 (.slice av X.length cap) X.length (X.map (Value.int .i64))] w) :
    Calls Try.prog 39 #[.pointer (some ⟨wb, 0, none⟩), .slice av X.length cap, .int .i64 co] w fun e w' => ∃ a2 c2, e = .returned (.tuple #[]) ∧
      Mem w (feet [pt wb #[.int .i64 c0, v0] 61, own 3 1 (.slice av X.length cap) X.length (X.map (Value.int .i64))]) [pt wb #[.int .i64 co, .slice a2 X.length c2] 61, own 3 1 (.slice a2 X.length c2) X.length (X.map (Value.int .i64)), own 3 1 (.slice av X.length cap) X.length (X.map (Value.int .i64))] w' := by
  obtain ⟨g, rfl⟩ := hM.ownAt (k := 1) rfl h0
  exact take22_ok wb g c0 co v0 X cap hX w hM
end Go.Proofs.Ytjjbognomeplbaa
