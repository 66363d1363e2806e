/-
  The contracts of package pool.
-/
import Derived.Test.YtjjbognomeplbaaIncL
import Derived.Test.YtjjbognomeplbaaPacks

namespace Go.Proofs.Ytjjbognomeplbaa
open Go.RowKit
/-- The cells of a new pool: k links are laid. -/
def linkL (l : List Int) (bs n : Int) : Nat → List Int
  | 0 => l.set bs.toNat 1
  | k + 1 => (linkL l bs n k).set (bs + 1 + k).toNat (if (k : Int) + 1 = n then -1 else (k : Int) + 1)
theorem linkL_succ (l : List Int) (bs n : Int) (k : Nat) : linkL l bs n (k + 1) = (linkL l bs n k).set (bs + 1 + k).toNat (if (k : Int) + 1 = n then -1 else (k : Int) + 1) := rfl
theorem linkL_len (l : List Int) (bs n : Int) : ∀ k, (linkL l bs n k).length = l.length
  | 0 => by simp [linkL]
  | k + 1 => by simp [linkL, linkL_len l bs n k]
theorem linkL_top (l : List Int) (bs n : Int) (h0 : 0 ≤ bs) : ∀ k : Nat, bs + 1 + k ≤ l.length → (linkL l bs n k).getD bs.toNat 0 = 1
  | 0, h => by
    show (l.set bs.toNat 1).getD bs.toNat 0 = 1
    rw [List.getD_eq_getElem?_getD, List.getElem?_set_self (by omega)]; rfl
  | k + 1, h => by
    rw [linkL_succ, List.getD_eq_getElem?_getD, List.getElem?_set_ne (by omega), ← List.getD_eq_getElem?_getD]
    exact linkL_top l bs n h0 k (by omega)
theorem linkL_at (l : List Int) (bs n : Int) (h0 : 0 ≤ bs) : ∀ k : Nat, bs + 1 + k ≤ l.length → ∀ j : Nat, j < k → (linkL l bs n k).getD (bs + 1 + j).toNat 0 = if (j : Int) + 1 = n then -1 else (j : Int) + 1
  | 0, h, j, hj => by omega
  | k + 1, h, j, hj => by
    rw [linkL_succ, List.getD_eq_getElem?_getD]
    by_cases e : j = k
    · subst e
      rw [List.getElem?_set_self (by rw [linkL_len]; omega)]; rfl
    · rw [List.getElem?_set_ne (by omega), ← List.getD_eq_getElem?_getD]
      exact linkL_at l bs n h0 k (by omega) j (by omega)

set_option maxRecDepth 100000 in
set_option maxHeartbeats 400000 in
theorem pcells_ok (n : Int) (h : 1 ≤ n ∧ n ≤ 4096) (w : World) :
    Calls Try.prog 57 #[.int .i64 n] w fun e w' => e = .returned (.int .i64 (n + 1)) ∧ w = w' := by
  have hM := Mem.start w
  refine Calls.of_ends (vs := [.int .i64 n]) Try.func57 rfl Try.ntmps57 rfl ?_
  intro a hA
  replace hA : St 11 [(0, _)] a := hA
  refine Ends.seq ?_
  refine Ends.region ?_
  refine S.val hA (R.assign rfl) rfl ?_; clear hA a; intro a hA
  refine S.done ?_
  replace hA : St 11 [(0, _), (2, _)] a := hA.sub ((.cons rfl (.cons rfl .nil)))
  refine Ends.seq ?_
  refine Ends.seq ?_
  refine Ends.region ?_
  refine S.val hA (R.move rfl) rfl ?_; clear hA a; intro a hA
  refine S.val hA (R.ff (R.lss rfl rfl) (by omega)) rfl ?_; clear hA a; intro a hA
  refine S.val hA (R.move rfl) rfl ?_; clear hA a; intro a hA
  refine S.valg (dj := 5) hA (by kernel_rfl) rfl (R.move rfl) rfl ?_; clear hA a; intro a hA
  refine S.valg (dj := 5) hA (by kernel_rfl) rfl (R.ff (R.gtr rfl rfl) (by omega)) rfl ?_; clear hA a; intro a hA
  refine S.val hA (R.pickF rfl rfl) rfl ?_; clear hA a; intro a hA
  refine S.done ?_
  replace hA : St 11 [(0, _), (2, _), (8, _)] a := hA.sub ((.cons rfl (.cons rfl (.cons rfl .nil))))
  refine Ends.condF hA rfl ?_
  refine Ends.skip ?_
  refine Ends.seq ?_
  refine Ends.region ?_
  refine S.val hA (R.move rfl) rfl ?_; clear hA a; intro a hA
  refine S.val hA (R.addI rfl rfl (r := n + 1) rfl (by omega)) rfl ?_; clear hA a; intro a hA
  refine S.val hA (R.assign rfl) rfl ?_; clear hA a; intro a hA
  refine S.done ?_
  replace hA : St 11 [(2, _)] a := hA.sub ((.cons rfl .nil))
  refine Ends.ret1 Try.func57 Try.results57 hA rfl ?_
  exact ⟨rfl, rfl⟩
set_option maxRecDepth 100000 in
set_option maxHeartbeats 400000 in
theorem pcells_low (n : Int) (h : n < 1) (w : World) :
    Calls Try.prog 57 #[.int .i64 n] w fun e w' => e = .returned (.int .i64 0) ∧ w = w' := by
  have hM := Mem.start w
  refine Calls.of_ends (vs := [.int .i64 n]) Try.func57 rfl Try.ntmps57 rfl ?_
  intro a hA
  replace hA : St 11 [(0, _)] a := hA
  refine Ends.seq ?_
  refine Ends.region ?_
  refine S.val hA (R.assign rfl) rfl ?_; clear hA a; intro a hA
  refine S.done ?_
  replace hA : St 11 [(0, _), (2, _)] a := hA.sub ((.cons rfl (.cons rfl .nil)))
  refine Ends.seq ?_
  refine Ends.seq ?_
  refine Ends.region ?_
  refine S.val hA (R.move rfl) rfl ?_; clear hA a; intro a hA
  refine S.val hA (R.tt (R.lss rfl rfl) (by omega)) rfl ?_; clear hA a; intro a hA
  refine S.val hA (R.move rfl) rfl ?_; clear hA a; intro a hA
  refine S.no (dj := 5) hA (by kernel_rfl) rfl rfl rfl ?_; clear hA a; intro a hA
  refine S.no (dj := 5) hA (by kernel_rfl) rfl rfl rfl ?_; clear hA a; intro a hA
  refine S.val hA (R.pickT rfl rfl) rfl ?_; clear hA a; intro a hA
  refine S.done ?_
  replace hA : St 11 [(0, _), (2, _), (8, _)] a := hA.sub ((.cons rfl (.cons rfl (.cons rfl .nil))))
  refine Ends.condT hA rfl ?_
  refine Ends.seq ?_
  refine Ends.region ?_
  refine S.val hA (R.assign rfl) rfl ?_; clear hA a; intro a hA
  refine S.done ?_
  replace hA : St 11 [(0, _), (2, _)] a := hA.sub ((.cons rfl (.cons rfl .nil)))
  refine Ends.ret1 Try.func57 Try.results57 hA rfl ?_
  exact ⟨rfl, rfl⟩
set_option maxRecDepth 100000 in
set_option maxHeartbeats 400000 in
theorem pcells_high (n : Int) (h : 4096 < n) (w : World) :
    Calls Try.prog 57 #[.int .i64 n] w fun e w' => e = .returned (.int .i64 0) ∧ w = w' := by
  have hM := Mem.start w
  refine Calls.of_ends (vs := [.int .i64 n]) Try.func57 rfl Try.ntmps57 rfl ?_
  intro a hA
  replace hA : St 11 [(0, _)] a := hA
  refine Ends.seq ?_
  refine Ends.region ?_
  refine S.val hA (R.assign rfl) rfl ?_; clear hA a; intro a hA
  refine S.done ?_
  replace hA : St 11 [(0, _), (2, _)] a := hA.sub ((.cons rfl (.cons rfl .nil)))
  refine Ends.seq ?_
  refine Ends.seq ?_
  refine Ends.region ?_
  refine S.val hA (R.move rfl) rfl ?_; clear hA a; intro a hA
  refine S.val hA (R.ff (R.lss rfl rfl) (by omega)) rfl ?_; clear hA a; intro a hA
  refine S.val hA (R.move rfl) rfl ?_; clear hA a; intro a hA
  refine S.valg (dj := 5) hA (by kernel_rfl) rfl (R.move rfl) rfl ?_; clear hA a; intro a hA
  refine S.valg (dj := 5) hA (by kernel_rfl) rfl (R.tt (R.gtr rfl rfl) (by omega)) rfl ?_; clear hA a; intro a hA
  refine S.val hA (R.pickF rfl rfl) rfl ?_; clear hA a; intro a hA
  refine S.done ?_
  replace hA : St 11 [(0, _), (2, _), (8, _)] a := hA.sub ((.cons rfl (.cons rfl (.cons rfl .nil))))
  refine Ends.condT hA rfl ?_
  refine Ends.seq ?_
  refine Ends.region ?_
  refine S.val hA (R.assign rfl) rfl ?_; clear hA a; intro a hA
  refine S.done ?_
  replace hA : St 11 [(0, _), (2, _)] a := hA.sub ((.cons rfl (.cons rfl .nil)))
  refine Ends.ret1 Try.func57 Try.results57 hA rfl ?_
  exact ⟨rfl, rfl⟩
theorem pcells_bad (n : Int) (h : ¬ (1 ≤ n ∧ n ≤ 4096)) (w : World) : Calls Try.prog 57 #[.int .i64 n] w fun e w' => e = .returned (.int .i64 0) ∧ w = w' := by
  by_cases h1 : n < 1
  · exact pcells_low n h1 w
  · exact pcells_high n (by omega) w
set_option maxRecDepth 100000 in
set_option maxHeartbeats 400000 in
theorem plink (p m nb ob ns ws : Nat) (bs : Int) (i : Int) (hbs : 0 ≤ bs ∧ bs ≤ 1000000) (hi : -1000000 ≤ i ∧ i ≤ 1000000) (w : World) (hp : w.heap[p]? = some (.cells #[.pointer (some ⟨m, 0, none⟩), .int .i64 bs, .slice (some ⟨nb, 0, none⟩) ns ns, .slice (some ⟨ob, 0, none⟩) ws ws] 128 (0, 0))) :
    Calls Try.prog 76 #[.pointer (some ⟨p, 0, none⟩), .int .i64 i] w fun e w' => e = .returned (.int .i64 (bs + 1 + i)) ∧ w = w' := by
  have hM := Mem.start w
  refine Calls.of_ends (vs := [.pointer (some ⟨p, 0, none⟩), .int .i64 i]) Try.func76 rfl Try.ntmps76 rfl ?_
  intro a hA
  replace hA : St 12 [(0, _), (1, _)] a := hA
  refine Ends.seq ?_
  refine Ends.region ?_
  refine S.val hA (R.assign rfl) rfl ?_; clear hA a; intro a hA
  refine S.done ?_
  replace hA : St 12 [(0, _), (1, _), (4, _)] a := hA.sub ((.cons rfl (.cons rfl (.cons rfl .nil))))
  refine Ends.seq ?_
  refine Ends.region ?_
  refine S.val hA (R.move rfl) rfl ?_; clear hA a; intro a hA
  refine S.val hA (R.nilCheck rfl) rfl ?_; clear hA a; intro a hA
  refine S.val hA (R.fieldAddr (q := 1) fi128_1 rfl rfl rfl) rfl ?_; clear hA a; intro a hA
  refine S.val hA (R.load sz3 rfl (hM.cellB hp rfl)) rfl ?_; clear hA a; intro a hA
  refine S.val hA (R.addI rfl rfl (r := bs + 1) rfl (by omega)) rfl ?_; clear hA a; intro a hA
  refine S.val hA (R.move rfl) rfl ?_; clear hA a; intro a hA
  refine S.val hA (R.addI rfl rfl (r := (bs + 1) + i) rfl (by omega)) rfl ?_; clear hA a; intro a hA
  refine S.val hA (R.assign rfl) rfl ?_; clear hA a; intro a hA
  refine S.done ?_
  replace hA : St 12 [(4, _)] a := hA.sub ((.cons rfl .nil))
  refine Ends.ret1 Try.func76 Try.results76 hA rfl ?_
  exact ⟨rfl, rfl⟩
set_option maxRecDepth 100000 in
set_option maxHeartbeats 400000 in
theorem pslots (p m nb ob ns ws : Nat) (bs : Int) (w : World) (hp : w.heap[p]? = some (.cells #[.pointer (some ⟨m, 0, none⟩), .int .i64 bs, .slice (some ⟨nb, 0, none⟩) ns ns, .slice (some ⟨ob, 0, none⟩) ws ws] 128 (0, 0))) :
    Calls Try.prog 49 #[.pointer (some ⟨p, 0, none⟩)] w fun e w' => e = .returned (.int .i64 (ns : Int)) ∧ w = w' := by
  have hM := Mem.start w
  refine Calls.of_ends (vs := [.pointer (some ⟨p, 0, none⟩)]) Try.func49 rfl Try.ntmps49 rfl ?_
  intro a hA
  replace hA : St 10 [(0, _)] a := hA
  refine Ends.seq ?_
  refine Ends.region ?_
  refine S.val hA (R.assign rfl) rfl ?_; clear hA a; intro a hA
  refine S.done ?_
  replace hA : St 10 [(0, _), (2, _)] a := hA.sub ((.cons rfl (.cons rfl .nil)))
  refine Ends.seq ?_
  refine Ends.seq ?_
  refine Ends.region ?_
  refine S.val hA (R.move rfl) rfl ?_; clear hA a; intro a hA
  refine S.val hA (R.eqlNil Try.underlying72 rfl rfl) rfl ?_; clear hA a; intro a hA
  refine S.done ?_
  replace hA : St 10 [(0, _), (2, _), (4, _)] a := hA.sub ((.cons rfl (.cons rfl (.cons rfl .nil))))
  refine Ends.condF hA rfl ?_
  refine Ends.skip ?_
  refine Ends.seq ?_
  refine Ends.region ?_
  refine S.val hA (R.move rfl) rfl ?_; clear hA a; intro a hA
  refine S.val hA (R.nilCheck rfl) rfl ?_; clear hA a; intro a hA
  refine S.val hA (R.fieldAddr (q := 2) fi128_2 rfl rfl rfl) rfl ?_; clear hA a; intro a hA
  refine S.val hA (R.load sz126 rfl (hM.cellB hp rfl)) rfl ?_; clear hA a; intro a hA
  refine S.val hA (R.lenS Try.underlying126 rfl rfl) rfl ?_; clear hA a; intro a hA
  refine S.val hA (R.assign rfl) rfl ?_; clear hA a; intro a hA
  refine S.done ?_
  replace hA : St 10 [(2, _)] a := hA.sub ((.cons rfl .nil))
  refine Ends.ret1 Try.func49 Try.results49 hA rfl ?_
  exact ⟨rfl, rfl⟩
set_option maxRecDepth 100000 in
set_option maxHeartbeats 400000 in
theorem pslots_nil  (w : World) :
    Calls Try.prog 49 #[.pointer none] w fun e w' => e = .returned (.int .i64 0) ∧ w = w' := by
  have hM := Mem.start w
  refine Calls.of_ends (vs := [.pointer none]) Try.func49 rfl Try.ntmps49 rfl ?_
  intro a hA
  replace hA : St 10 [(0, _)] a := hA
  refine Ends.seq ?_
  refine Ends.region ?_
  refine S.val hA (R.assign rfl) rfl ?_; clear hA a; intro a hA
  refine S.done ?_
  replace hA : St 10 [(0, _), (2, _)] a := hA.sub ((.cons rfl (.cons rfl .nil)))
  refine Ends.seq ?_
  refine Ends.seq ?_
  refine Ends.region ?_
  refine S.val hA (R.move rfl) rfl ?_; clear hA a; intro a hA
  refine S.val hA (R.eqlNil Try.underlying72 rfl rfl) rfl ?_; clear hA a; intro a hA
  refine S.done ?_
  replace hA : St 10 [(0, _), (2, _), (4, _)] a := hA.sub ((.cons rfl (.cons rfl (.cons rfl .nil))))
  refine Ends.condT hA rfl ?_
  refine Ends.seq ?_
  refine Ends.region ?_
  refine S.val hA (R.assign rfl) rfl ?_; clear hA a; intro a hA
  refine S.done ?_
  replace hA : St 10 [(0, _), (2, _)] a := hA.sub ((.cons rfl (.cons rfl .nil)))
  refine Ends.ret1 Try.func49 Try.results49 hA rfl ?_
  exact ⟨rfl, rfl⟩
set_option maxRecDepth 100000 in
set_option maxHeartbeats 400000 in
theorem pshared_nil  (w : World) :
    Calls Try.prog 53 #[.pointer none] w fun e w' => e = .returned (.slice none 0 0) ∧ w = w' := by
  have hM := Mem.start w
  refine Calls.of_ends (vs := [.pointer none]) Try.func53 rfl Try.ntmps53 rfl ?_
  intro a hA
  replace hA : St 46 [(0, _)] a := hA
  refine Ends.seq ?_
  refine Ends.region ?_
  refine S.val hA (R.assign rfl) rfl ?_; clear hA a; intro a hA
  refine S.done ?_
  replace hA : St 46 [(0, _), (2, _)] a := hA.sub ((.cons rfl (.cons rfl .nil)))
  refine Ends.seq ?_
  refine Ends.seq ?_
  refine Ends.region ?_
  refine S.val hA (R.move rfl) rfl ?_; clear hA a; intro a hA
  refine S.val hA (R.eqlNil Try.underlying72 rfl rfl) rfl ?_; clear hA a; intro a hA
  refine S.done ?_
  replace hA : St 46 [(0, _), (2, _), (7, _)] a := hA.sub ((.cons rfl (.cons rfl (.cons rfl .nil))))
  refine Ends.condT hA rfl ?_
  refine Ends.seq ?_
  refine Ends.region ?_
  refine S.val hA (R.assign rfl) rfl ?_; clear hA a; intro a hA
  refine S.done ?_
  replace hA : St 46 [(0, _), (2, _)] a := hA.sub ((.cons rfl (.cons rfl .nil)))
  refine Ends.ret1 Try.func53 Try.results53 hA rfl ?_
  exact ⟨rfl, rfl⟩
set_option maxRecDepth 100000 in
set_option maxHeartbeats 400000 in
theorem pown_nil (i : Int) (w : World) :
    Calls Try.prog 52 #[.pointer none, .int .i64 i] w fun e w' => e = .returned (.slice none 0 0) ∧ w = w' := by
  have hM := Mem.start w
  refine Calls.of_ends (vs := [.pointer none, .int .i64 i]) Try.func52 rfl Try.ntmps52 rfl ?_
  intro a hA
  replace hA : St 28 [(0, _), (1, _)] a := hA
  refine Ends.seq ?_
  refine Ends.region ?_
  refine S.val hA (R.assign rfl) rfl ?_; clear hA a; intro a hA
  refine S.done ?_
  replace hA : St 28 [(0, _), (1, _), (4, _)] a := hA.sub ((.cons rfl (.cons rfl (.cons rfl .nil))))
  refine Ends.seq ?_
  refine Ends.seq ?_
  refine Ends.region ?_
  refine S.val hA (R.move rfl) rfl ?_; clear hA a; intro a hA
  refine S.val hA (R.eqlNil Try.underlying72 rfl rfl) rfl ?_; clear hA a; intro a hA
  refine S.val hA (R.move rfl) rfl ?_; clear hA a; intro a hA
  refine S.no (dj := 7) hA (by kernel_rfl) rfl rfl rfl ?_; clear hA a; intro a hA
  refine S.no (dj := 7) hA (by kernel_rfl) rfl rfl rfl ?_; clear hA a; intro a hA
  refine S.val hA (R.pickT rfl rfl) rfl ?_; clear hA a; intro a hA
  refine S.val hA (R.move rfl) rfl ?_; clear hA a; intro a hA
  refine S.no (dj := 11) hA (by kernel_rfl) rfl rfl rfl ?_; clear hA a; intro a hA
  refine S.no (dj := 11) hA (by kernel_rfl) rfl rfl rfl ?_; clear hA a; intro a hA
  refine S.no (dj := 11) hA (by kernel_rfl) rfl rfl rfl ?_; clear hA a; intro a hA
  refine S.no (dj := 11) hA (by kernel_rfl) rfl rfl rfl ?_; clear hA a; intro a hA
  refine S.no (dj := 11) hA (by kernel_rfl) rfl rfl rfl ?_; clear hA a; intro a hA
  refine S.no (dj := 11) hA (by kernel_rfl) rfl rfl rfl ?_; clear hA a; intro a hA
  refine S.no (dj := 11) hA (by kernel_rfl) rfl rfl rfl ?_; clear hA a; intro a hA
  refine S.val hA (R.pickT rfl rfl) rfl ?_; clear hA a; intro a hA
  refine S.done ?_
  replace hA : St 28 [(0, _), (1, _), (4, _), (19, _)] a := hA.sub ((.cons rfl (.cons rfl (.cons rfl (.cons rfl .nil)))))
  refine Ends.condT hA rfl ?_
  refine Ends.seq ?_
  refine Ends.region ?_
  refine S.val hA (R.assign rfl) rfl ?_; clear hA a; intro a hA
  refine S.done ?_
  replace hA : St 28 [(0, _), (1, _), (4, _)] a := hA.sub ((.cons rfl (.cons rfl (.cons rfl .nil))))
  refine Ends.ret1 Try.func52 Try.results52 hA rfl ?_
  exact ⟨rfl, rfl⟩
set_option maxRecDepth 100000 in
set_option maxHeartbeats 400000 in
theorem ptake_nil (i : Int) (w : World) :
    Calls Try.prog 50 #[.pointer none, .int .i64 i] w fun e w' => e = .returned (.pointer none) ∧ w = w' := by
  have hM := Mem.start w
  refine Calls.of_ends (vs := [.pointer none, .int .i64 i]) Try.func50 rfl Try.ntmps50 rfl ?_
  intro a hA
  replace hA : St 24 [(0, _), (1, _)] a := hA
  refine Ends.seq ?_
  refine Ends.region ?_
  refine S.val hA (R.assign rfl) rfl ?_; clear hA a; intro a hA
  refine S.done ?_
  replace hA : St 24 [(0, _), (1, _), (4, _)] a := hA.sub ((.cons rfl (.cons rfl (.cons rfl .nil))))
  refine Ends.seq ?_
  refine Ends.seq ?_
  refine Ends.region ?_
  refine S.val hA (R.move rfl) rfl ?_; clear hA a; intro a hA
  refine S.val hA (R.eqlNil Try.underlying72 rfl rfl) rfl ?_; clear hA a; intro a hA
  refine S.val hA (R.move rfl) rfl ?_; clear hA a; intro a hA
  refine S.no (dj := 7) hA (by kernel_rfl) rfl rfl rfl ?_; clear hA a; intro a hA
  refine S.no (dj := 7) hA (by kernel_rfl) rfl rfl rfl ?_; clear hA a; intro a hA
  refine S.val hA (R.pickT rfl rfl) rfl ?_; clear hA a; intro a hA
  refine S.val hA (R.move rfl) rfl ?_; clear hA a; intro a hA
  refine S.no (dj := 11) hA (by kernel_rfl) rfl rfl rfl ?_; clear hA a; intro a hA
  refine S.no (dj := 11) hA (by kernel_rfl) rfl rfl rfl ?_; clear hA a; intro a hA
  refine S.no (dj := 11) hA (by kernel_rfl) rfl rfl rfl ?_; clear hA a; intro a hA
  refine S.no (dj := 11) hA (by kernel_rfl) rfl rfl rfl ?_; clear hA a; intro a hA
  refine S.no (dj := 11) hA (by kernel_rfl) rfl rfl rfl ?_; clear hA a; intro a hA
  refine S.no (dj := 11) hA (by kernel_rfl) rfl rfl rfl ?_; clear hA a; intro a hA
  refine S.no (dj := 11) hA (by kernel_rfl) rfl rfl rfl ?_; clear hA a; intro a hA
  refine S.val hA (R.pickT rfl rfl) rfl ?_; clear hA a; intro a hA
  refine S.done ?_
  replace hA : St 24 [(0, _), (1, _), (4, _), (19, _)] a := hA.sub ((.cons rfl (.cons rfl (.cons rfl (.cons rfl .nil)))))
  refine Ends.condT hA rfl ?_
  refine Ends.seq ?_
  refine Ends.region ?_
  refine S.val hA (R.assign rfl) rfl ?_; clear hA a; intro a hA
  refine S.done ?_
  replace hA : St 24 [(0, _), (1, _), (4, _)] a := hA.sub ((.cons rfl (.cons rfl (.cons rfl .nil))))
  refine Ends.ret1 Try.func50 Try.results50 hA rfl ?_
  exact ⟨rfl, rfl⟩
set_option maxRecDepth 100000 in
set_option maxHeartbeats 400000 in
theorem phas_nil (i : Int) (w : World) :
    Calls Try.prog 73 #[.pointer none, .int .i64 i] w fun e w' => e = .returned (.bool false) ∧ w = w' := by
  have hM := Mem.start w
  refine Calls.of_ends (vs := [.pointer none, .int .i64 i]) Try.func73 rfl Try.ntmps73 rfl ?_
  intro a hA
  replace hA : St 20 [(0, _), (1, _)] a := hA
  refine Ends.seq ?_
  refine Ends.region ?_
  refine S.val hA (R.assign rfl) rfl ?_; clear hA a; intro a hA
  refine S.done ?_
  replace hA : St 20 [(0, _), (1, _), (4, _)] a := hA.sub ((.cons rfl (.cons rfl (.cons rfl .nil))))
  refine Ends.seq ?_
  refine Ends.region ?_
  refine S.val hA (R.move rfl) rfl ?_; clear hA a; intro a hA
  refine S.val hA (R.neqNil Try.underlying72 rfl rfl) rfl ?_; clear hA a; intro a hA
  refine S.val hA (R.move rfl) rfl ?_; clear hA a; intro a hA
  refine S.no (dj := 7) hA (by kernel_rfl) rfl rfl rfl ?_; clear hA a; intro a hA
  refine S.no (dj := 7) hA (by kernel_rfl) rfl rfl rfl ?_; clear hA a; intro a hA
  refine S.val hA (R.pickF rfl rfl) rfl ?_; clear hA a; intro a hA
  refine S.val hA (R.move rfl) rfl ?_; clear hA a; intro a hA
  refine S.no (dj := 11) hA (by kernel_rfl) rfl rfl rfl ?_; clear hA a; intro a hA
  refine S.no (dj := 11) hA (by kernel_rfl) rfl rfl rfl ?_; clear hA a; intro a hA
  refine S.no (dj := 11) hA (by kernel_rfl) rfl rfl rfl ?_; clear hA a; intro a hA
  refine S.no (dj := 11) hA (by kernel_rfl) rfl rfl rfl ?_; clear hA a; intro a hA
  refine S.no (dj := 11) hA (by kernel_rfl) rfl rfl rfl ?_; clear hA a; intro a hA
  refine S.no (dj := 11) hA (by kernel_rfl) rfl rfl rfl ?_; clear hA a; intro a hA
  refine S.no (dj := 11) hA (by kernel_rfl) rfl rfl rfl ?_; clear hA a; intro a hA
  refine S.val hA (R.pickF rfl rfl) rfl ?_; clear hA a; intro a hA
  refine S.val hA (R.assign rfl) rfl ?_; clear hA a; intro a hA
  refine S.done ?_
  replace hA : St 20 [(4, _)] a := hA.sub ((.cons rfl .nil))
  refine Ends.ret1 Try.func73 Try.results73 hA rfl ?_
  exact ⟨rfl, rfl⟩
set_option maxRecDepth 100000 in
set_option maxHeartbeats 400000 in
theorem phas_yes (p m nb ob ns ws : Nat) (bs : Int) (i : Int) (h : 0 ≤ i ∧ i < ns) (w : World) (hp : w.heap[p]? = some (.cells #[.pointer (some ⟨m, 0, none⟩), .int .i64 bs, .slice (some ⟨nb, 0, none⟩) ns ns, .slice (some ⟨ob, 0, none⟩) ws ws] 128 (0, 0))) :
    Calls Try.prog 73 #[.pointer (some ⟨p, 0, none⟩), .int .i64 i] w fun e w' => e = .returned (.bool true) ∧ w = w' := by
  have hM := Mem.start w
  refine Calls.of_ends (vs := [.pointer (some ⟨p, 0, none⟩), .int .i64 i]) Try.func73 rfl Try.ntmps73 rfl ?_
  intro a hA
  replace hA : St 20 [(0, _), (1, _)] a := hA
  refine Ends.seq ?_
  refine Ends.region ?_
  refine S.val hA (R.assign rfl) rfl ?_; clear hA a; intro a hA
  refine S.done ?_
  replace hA : St 20 [(0, _), (1, _), (4, _)] a := hA.sub ((.cons rfl (.cons rfl (.cons rfl .nil))))
  refine Ends.seq ?_
  refine Ends.region ?_
  refine S.val hA (R.move rfl) rfl ?_; clear hA a; intro a hA
  refine S.val hA (R.neqNil Try.underlying72 rfl rfl) rfl ?_; clear hA a; intro a hA
  refine S.val hA (R.move rfl) rfl ?_; clear hA a; intro a hA
  refine S.valg (dj := 7) hA (by kernel_rfl) rfl (R.move rfl) rfl ?_; clear hA a; intro a hA
  refine S.valg (dj := 7) hA (by kernel_rfl) rfl (R.tt (R.geq rfl rfl) (by omega)) rfl ?_; clear hA a; intro a hA
  refine S.val hA (R.pickT rfl rfl) rfl ?_; clear hA a; intro a hA
  refine S.val hA (R.move rfl) rfl ?_; clear hA a; intro a hA
  refine S.valg (dj := 11) hA (by kernel_rfl) rfl (R.move rfl) rfl ?_; clear hA a; intro a hA
  refine S.valg (dj := 11) hA (by kernel_rfl) rfl (R.move rfl) rfl ?_; clear hA a; intro a hA
  refine S.valg (dj := 11) hA (by kernel_rfl) rfl (R.nilCheck rfl) rfl ?_; clear hA a; intro a hA
  refine S.valg (dj := 11) hA (by kernel_rfl) rfl (R.fieldAddr (q := 2) fi128_2 rfl rfl rfl) rfl ?_; clear hA a; intro a hA
  refine S.valg (dj := 11) hA (by kernel_rfl) rfl (R.load sz126 rfl (hM.cellB hp rfl)) rfl ?_; clear hA a; intro a hA
  refine S.valg (dj := 11) hA (by kernel_rfl) rfl (R.lenS Try.underlying126 rfl rfl) rfl ?_; clear hA a; intro a hA
  refine S.valg (dj := 11) hA (by kernel_rfl) rfl (R.tt (R.lss rfl rfl) (by omega)) rfl ?_; clear hA a; intro a hA
  refine S.val hA (R.pickT rfl rfl) rfl ?_; clear hA a; intro a hA
  refine S.val hA (R.assign rfl) rfl ?_; clear hA a; intro a hA
  refine S.done ?_
  replace hA : St 20 [(4, _)] a := hA.sub ((.cons rfl .nil))
  refine Ends.ret1 Try.func73 Try.results73 hA rfl ?_
  exact ⟨rfl, rfl⟩
set_option maxRecDepth 100000 in
set_option maxHeartbeats 400000 in
theorem phas_low (p m nb ob ns ws : Nat) (bs : Int) (i : Int) (h : i < 0) (w : World) (hp : w.heap[p]? = some (.cells #[.pointer (some ⟨m, 0, none⟩), .int .i64 bs, .slice (some ⟨nb, 0, none⟩) ns ns, .slice (some ⟨ob, 0, none⟩) ws ws] 128 (0, 0))) :
    Calls Try.prog 73 #[.pointer (some ⟨p, 0, none⟩), .int .i64 i] w fun e w' => e = .returned (.bool false) ∧ w = w' := by
  have hM := Mem.start w
  refine Calls.of_ends (vs := [.pointer (some ⟨p, 0, none⟩), .int .i64 i]) Try.func73 rfl Try.ntmps73 rfl ?_
  intro a hA
  replace hA : St 20 [(0, _), (1, _)] a := hA
  refine Ends.seq ?_
  refine Ends.region ?_
  refine S.val hA (R.assign rfl) rfl ?_; clear hA a; intro a hA
  refine S.done ?_
  replace hA : St 20 [(0, _), (1, _), (4, _)] a := hA.sub ((.cons rfl (.cons rfl (.cons rfl .nil))))
  refine Ends.seq ?_
  refine Ends.region ?_
  refine S.val hA (R.move rfl) rfl ?_; clear hA a; intro a hA
  refine S.val hA (R.neqNil Try.underlying72 rfl rfl) rfl ?_; clear hA a; intro a hA
  refine S.val hA (R.move rfl) rfl ?_; clear hA a; intro a hA
  refine S.valg (dj := 7) hA (by kernel_rfl) rfl (R.move rfl) rfl ?_; clear hA a; intro a hA
  refine S.valg (dj := 7) hA (by kernel_rfl) rfl (R.ff (R.geq rfl rfl) (by omega)) rfl ?_; clear hA a; intro a hA
  refine S.val hA (R.pickT rfl rfl) rfl ?_; clear hA a; intro a hA
  refine S.val hA (R.move rfl) rfl ?_; clear hA a; intro a hA
  refine S.no (dj := 11) hA (by kernel_rfl) rfl rfl rfl ?_; clear hA a; intro a hA
  refine S.no (dj := 11) hA (by kernel_rfl) rfl rfl rfl ?_; clear hA a; intro a hA
  refine S.no (dj := 11) hA (by kernel_rfl) rfl rfl rfl ?_; clear hA a; intro a hA
  refine S.no (dj := 11) hA (by kernel_rfl) rfl rfl rfl ?_; clear hA a; intro a hA
  refine S.no (dj := 11) hA (by kernel_rfl) rfl rfl rfl ?_; clear hA a; intro a hA
  refine S.no (dj := 11) hA (by kernel_rfl) rfl rfl rfl ?_; clear hA a; intro a hA
  refine S.no (dj := 11) hA (by kernel_rfl) rfl rfl rfl ?_; clear hA a; intro a hA
  refine S.val hA (R.pickF rfl rfl) rfl ?_; clear hA a; intro a hA
  refine S.val hA (R.assign rfl) rfl ?_; clear hA a; intro a hA
  refine S.done ?_
  replace hA : St 20 [(4, _)] a := hA.sub ((.cons rfl .nil))
  refine Ends.ret1 Try.func73 Try.results73 hA rfl ?_
  exact ⟨rfl, rfl⟩
set_option maxRecDepth 100000 in
set_option maxHeartbeats 400000 in
theorem phas_high (p m nb ob ns ws : Nat) (bs : Int) (i : Int) (h : 0 ≤ i ∧ ns ≤ i) (w : World) (hp : w.heap[p]? = some (.cells #[.pointer (some ⟨m, 0, none⟩), .int .i64 bs, .slice (some ⟨nb, 0, none⟩) ns ns, .slice (some ⟨ob, 0, none⟩) ws ws] 128 (0, 0))) :
    Calls Try.prog 73 #[.pointer (some ⟨p, 0, none⟩), .int .i64 i] w fun e w' => e = .returned (.bool false) ∧ w = w' := by
  have hM := Mem.start w
  refine Calls.of_ends (vs := [.pointer (some ⟨p, 0, none⟩), .int .i64 i]) Try.func73 rfl Try.ntmps73 rfl ?_
  intro a hA
  replace hA : St 20 [(0, _), (1, _)] a := hA
  refine Ends.seq ?_
  refine Ends.region ?_
  refine S.val hA (R.assign rfl) rfl ?_; clear hA a; intro a hA
  refine S.done ?_
  replace hA : St 20 [(0, _), (1, _), (4, _)] a := hA.sub ((.cons rfl (.cons rfl (.cons rfl .nil))))
  refine Ends.seq ?_
  refine Ends.region ?_
  refine S.val hA (R.move rfl) rfl ?_; clear hA a; intro a hA
  refine S.val hA (R.neqNil Try.underlying72 rfl rfl) rfl ?_; clear hA a; intro a hA
  refine S.val hA (R.move rfl) rfl ?_; clear hA a; intro a hA
  refine S.valg (dj := 7) hA (by kernel_rfl) rfl (R.move rfl) rfl ?_; clear hA a; intro a hA
  refine S.valg (dj := 7) hA (by kernel_rfl) rfl (R.tt (R.geq rfl rfl) (by omega)) rfl ?_; clear hA a; intro a hA
  refine S.val hA (R.pickT rfl rfl) rfl ?_; clear hA a; intro a hA
  refine S.val hA (R.move rfl) rfl ?_; clear hA a; intro a hA
  refine S.valg (dj := 11) hA (by kernel_rfl) rfl (R.move rfl) rfl ?_; clear hA a; intro a hA
  refine S.valg (dj := 11) hA (by kernel_rfl) rfl (R.move rfl) rfl ?_; clear hA a; intro a hA
  refine S.valg (dj := 11) hA (by kernel_rfl) rfl (R.nilCheck rfl) rfl ?_; clear hA a; intro a hA
  refine S.valg (dj := 11) hA (by kernel_rfl) rfl (R.fieldAddr (q := 2) fi128_2 rfl rfl rfl) rfl ?_; clear hA a; intro a hA
  refine S.valg (dj := 11) hA (by kernel_rfl) rfl (R.load sz126 rfl (hM.cellB hp rfl)) rfl ?_; clear hA a; intro a hA
  refine S.valg (dj := 11) hA (by kernel_rfl) rfl (R.lenS Try.underlying126 rfl rfl) rfl ?_; clear hA a; intro a hA
  refine S.valg (dj := 11) hA (by kernel_rfl) rfl (R.ff (R.lss rfl rfl) (by omega)) rfl ?_; clear hA a; intro a hA
  refine S.val hA (R.pickT rfl rfl) rfl ?_; clear hA a; intro a hA
  refine S.val hA (R.assign rfl) rfl ?_; clear hA a; intro a hA
  refine S.done ?_
  replace hA : St 20 [(4, _)] a := hA.sub ((.cons rfl .nil))
  refine Ends.ret1 Try.func73 Try.results73 hA rfl ?_
  exact ⟨rfl, rfl⟩
set_option maxRecDepth 100000 in
set_option maxHeartbeats 400000 in
theorem pgive_nil (i j : Int) (w : World) :
    Calls Try.prog 51 #[.pointer none, .int .i64 i, .int .i64 j] w fun e w' => e = .returned (.pointer none) ∧ w = w' := by
  have hM := Mem.start w
  refine Calls.of_ends (vs := [.pointer none, .int .i64 i, .int .i64 j]) Try.func51 rfl Try.ntmps51 rfl ?_
  intro a hA
  replace hA : St 29 [(0, _), (1, _), (2, _)] a := hA
  refine Ends.seq ?_
  refine Ends.region ?_
  refine S.val hA (R.assign rfl) rfl ?_; clear hA a; intro a hA
  refine S.done ?_
  replace hA : St 29 [(0, _), (1, _), (2, _), (6, _)] a := hA.sub ((.cons rfl (.cons rfl (.cons rfl (.cons rfl .nil)))))
  refine Ends.seq ?_
  refine Ends.seq ?_
  refine Ends.region ?_
  refine S.val hA (R.move rfl) rfl ?_; clear hA a; intro a hA
  refine S.val hA (R.move rfl) rfl ?_; clear hA a; intro a hA
  refine S.call hA (R.callF Try.func73 rfl rfl rfl) rfl (phas_nil j _) ?_; clear hA a
  rintro e w1 ⟨rfl, rfl⟩
  refine ⟨.bool false, rfl, fun a hA => ?_⟩
  refine S.val hA (R.not rfl) rfl ?_; clear hA a; intro a hA
  refine S.val hA (R.move rfl) rfl ?_; clear hA a; intro a hA
  refine S.no (dj := 11) hA (by kernel_rfl) rfl rfl rfl ?_; clear hA a; intro a hA
  refine S.no (dj := 11) hA (by kernel_rfl) rfl rfl rfl ?_; clear hA a; intro a hA
  refine S.val hA (R.pickT rfl rfl) rfl ?_; clear hA a; intro a hA
  refine S.val hA (R.move rfl) rfl ?_; clear hA a; intro a hA
  refine S.no (dj := 15) hA (by kernel_rfl) rfl rfl rfl ?_; clear hA a; intro a hA
  refine S.no (dj := 15) hA (by kernel_rfl) rfl rfl rfl ?_; clear hA a; intro a hA
  refine S.no (dj := 15) hA (by kernel_rfl) rfl rfl rfl ?_; clear hA a; intro a hA
  refine S.no (dj := 15) hA (by kernel_rfl) rfl rfl rfl ?_; clear hA a; intro a hA
  refine S.no (dj := 15) hA (by kernel_rfl) rfl rfl rfl ?_; clear hA a; intro a hA
  refine S.no (dj := 15) hA (by kernel_rfl) rfl rfl rfl ?_; clear hA a; intro a hA
  refine S.no (dj := 15) hA (by kernel_rfl) rfl rfl rfl ?_; clear hA a; intro a hA
  refine S.val hA (R.pickT rfl rfl) rfl ?_; clear hA a; intro a hA
  refine S.done ?_
  replace hA : St 29 [(0, _), (1, _), (2, _), (6, _), (23, _)] a := hA.sub ((.cons rfl (.cons rfl (.cons rfl (.cons rfl (.cons rfl .nil))))))
  refine Ends.condT hA rfl ?_
  refine Ends.seq ?_
  refine Ends.region ?_
  refine S.val hA (R.assign rfl) rfl ?_; clear hA a; intro a hA
  refine S.done ?_
  replace hA : St 29 [(0, _), (1, _), (2, _), (6, _)] a := hA.sub ((.cons rfl (.cons rfl (.cons rfl (.cons rfl .nil)))))
  refine Ends.ret1 Try.func51 Try.results51 hA rfl ?_
  exact ⟨rfl, rfl⟩
set_option maxRecDepth 100000 in
set_option maxHeartbeats 400000 in
theorem pover_nil  (w : World) :
    Calls Try.prog 54 #[.pointer none] w fun e w' => e = .returned (.bool true) ∧ w = w' := by
  have hM := Mem.start w
  refine Calls.of_ends (vs := [.pointer none]) Try.func54 rfl Try.ntmps54 rfl ?_
  intro a hA
  replace hA : St 12 [(0, _)] a := hA
  refine Ends.seq ?_
  refine Ends.region ?_
  refine S.val hA (R.assign rfl) rfl ?_; clear hA a; intro a hA
  refine S.done ?_
  replace hA : St 12 [(0, _), (2, _)] a := hA.sub ((.cons rfl (.cons rfl .nil)))
  refine Ends.seq ?_
  refine Ends.region ?_
  refine S.val hA (R.move rfl) rfl ?_; clear hA a; intro a hA
  refine S.val hA (R.eqlNil Try.underlying83 rfl rfl) rfl ?_; clear hA a; intro a hA
  refine S.val hA (R.move rfl) rfl ?_; clear hA a; intro a hA
  refine S.no (dj := 5) hA (by kernel_rfl) rfl rfl rfl ?_; clear hA a; intro a hA
  refine S.no (dj := 5) hA (by kernel_rfl) rfl rfl rfl ?_; clear hA a; intro a hA
  refine S.no (dj := 5) hA (by kernel_rfl) rfl rfl rfl ?_; clear hA a; intro a hA
  refine S.no (dj := 5) hA (by kernel_rfl) rfl rfl rfl ?_; clear hA a; intro a hA
  refine S.no (dj := 5) hA (by kernel_rfl) rfl rfl rfl ?_; clear hA a; intro a hA
  refine S.val hA (R.pickT rfl rfl) rfl ?_; clear hA a; intro a hA
  refine S.val hA (R.assign rfl) rfl ?_; clear hA a; intro a hA
  refine S.done ?_
  replace hA : St 12 [(2, _)] a := hA.sub ((.cons rfl .nil))
  refine Ends.ret1 Try.func54 Try.results54 hA rfl ?_
  exact ⟨rfl, rfl⟩
set_option maxRecDepth 100000 in
set_option maxHeartbeats 400000 in
theorem pstep_nil  (w : World) :
    Calls Try.prog 55 #[.pointer none] w fun e w' => e = .returned (.bool true) ∧ w = w' := by
  have hM := Mem.start w
  refine Calls.of_ends (vs := [.pointer none]) Try.func55 rfl Try.ntmps55 rfl ?_
  intro a hA
  replace hA : St 26 [(0, _)] a := hA
  refine Ends.seq ?_
  refine Ends.region ?_
  refine S.val hA (R.assign rfl) rfl ?_; clear hA a; intro a hA
  refine S.done ?_
  replace hA : St 26 [(0, _), (2, _)] a := hA.sub ((.cons rfl (.cons rfl .nil)))
  refine Ends.seq ?_
  refine Ends.seq ?_
  refine Ends.region ?_
  refine S.val hA (R.move rfl) rfl ?_; clear hA a; intro a hA
  refine S.val hA (R.eqlNil Try.underlying83 rfl rfl) rfl ?_; clear hA a; intro a hA
  refine S.done ?_
  replace hA : St 26 [(0, _), (2, _), (4, _)] a := hA.sub ((.cons rfl (.cons rfl (.cons rfl .nil))))
  refine Ends.condT hA rfl ?_
  refine Ends.seq ?_
  refine Ends.region ?_
  refine S.val hA (R.assign rfl) rfl ?_; clear hA a; intro a hA
  refine S.done ?_
  replace hA : St 26 [(0, _), (2, _)] a := hA.sub ((.cons rfl (.cons rfl .nil)))
  refine Ends.ret1 Try.func55 Try.results55 hA rfl ?_
  exact ⟨rfl, rfl⟩
set_option maxRecDepth 100000 in
set_option maxHeartbeats 400000 in
theorem pslot_nil  (w : World) :
    Calls Try.prog 56 #[.pointer none] w fun e w' => e = .returned (.int .i64 (-1)) ∧ w = w' := by
  have hM := Mem.start w
  refine Calls.of_ends (vs := [.pointer none]) Try.func56 rfl Try.ntmps56 rfl ?_
  intro a hA
  replace hA : St 16 [(0, _)] a := hA
  refine Ends.seq ?_
  refine Ends.region ?_
  refine S.val hA (R.assign rfl) rfl ?_; clear hA a; intro a hA
  refine S.done ?_
  replace hA : St 16 [(0, _), (2, _)] a := hA.sub ((.cons rfl (.cons rfl .nil)))
  refine Ends.seq ?_
  refine Ends.seq ?_
  refine Ends.region ?_
  refine S.val hA (R.move rfl) rfl ?_; clear hA a; intro a hA
  refine S.val hA (R.eqlNil Try.underlying83 rfl rfl) rfl ?_; clear hA a; intro a hA
  refine S.val hA (R.move rfl) rfl ?_; clear hA a; intro a hA
  refine S.no (dj := 5) hA (by kernel_rfl) rfl rfl rfl ?_; clear hA a; intro a hA
  refine S.no (dj := 5) hA (by kernel_rfl) rfl rfl rfl ?_; clear hA a; intro a hA
  refine S.no (dj := 5) hA (by kernel_rfl) rfl rfl rfl ?_; clear hA a; intro a hA
  refine S.no (dj := 5) hA (by kernel_rfl) rfl rfl rfl ?_; clear hA a; intro a hA
  refine S.no (dj := 5) hA (by kernel_rfl) rfl rfl rfl ?_; clear hA a; intro a hA
  refine S.val hA (R.pickT rfl rfl) rfl ?_; clear hA a; intro a hA
  refine S.done ?_
  replace hA : St 16 [(0, _), (2, _), (11, _)] a := hA.sub ((.cons rfl (.cons rfl (.cons rfl .nil))))
  refine Ends.condT hA rfl ?_
  refine Ends.seq ?_
  refine Ends.region ?_
  refine S.val hA (R.assign rfl) rfl ?_; clear hA a; intro a hA
  refine S.done ?_
  replace hA : St 16 [(0, _), (2, _)] a := hA.sub ((.cons rfl (.cons rfl .nil)))
  refine Ends.ret1 Try.func56 Try.results56 hA rfl ?_
  exact ⟨rfl, rfl⟩
set_option maxRecDepth 100000 in
set_option maxHeartbeats 400000 in
theorem ptake_low (p m nb ob ns ws : Nat) (bs : Int) (i : Int) (h : i < 0) (w : World) (hp : w.heap[p]? = some (.cells #[.pointer (some ⟨m, 0, none⟩), .int .i64 bs, .slice (some ⟨nb, 0, none⟩) ns ns, .slice (some ⟨ob, 0, none⟩) ws ws] 128 (0, 0))) :
    Calls Try.prog 50 #[.pointer (some ⟨p, 0, none⟩), .int .i64 i] w fun e w' => e = .returned (.pointer none) ∧ w = w' := by
  have hM := Mem.start w
  refine Calls.of_ends (vs := [.pointer (some ⟨p, 0, none⟩), .int .i64 i]) Try.func50 rfl Try.ntmps50 rfl ?_
  intro a hA
  replace hA : St 24 [(0, _), (1, _)] a := hA
  refine Ends.seq ?_
  refine Ends.region ?_
  refine S.val hA (R.assign rfl) rfl ?_; clear hA a; intro a hA
  refine S.done ?_
  replace hA : St 24 [(0, _), (1, _), (4, _)] a := hA.sub ((.cons rfl (.cons rfl (.cons rfl .nil))))
  refine Ends.seq ?_
  refine Ends.seq ?_
  refine Ends.region ?_
  refine S.val hA (R.move rfl) rfl ?_; clear hA a; intro a hA
  refine S.val hA (R.eqlNil Try.underlying72 rfl rfl) rfl ?_; clear hA a; intro a hA
  refine S.val hA (R.move rfl) rfl ?_; clear hA a; intro a hA
  refine S.valg (dj := 7) hA (by kernel_rfl) rfl (R.move rfl) rfl ?_; clear hA a; intro a hA
  refine S.valg (dj := 7) hA (by kernel_rfl) rfl (R.tt (R.lss rfl rfl) (by omega)) rfl ?_; clear hA a; intro a hA
  refine S.val hA (R.pickF rfl rfl) rfl ?_; clear hA a; intro a hA
  refine S.val hA (R.move rfl) rfl ?_; clear hA a; intro a hA
  refine S.no (dj := 11) hA (by kernel_rfl) rfl rfl rfl ?_; clear hA a; intro a hA
  refine S.no (dj := 11) hA (by kernel_rfl) rfl rfl rfl ?_; clear hA a; intro a hA
  refine S.no (dj := 11) hA (by kernel_rfl) rfl rfl rfl ?_; clear hA a; intro a hA
  refine S.no (dj := 11) hA (by kernel_rfl) rfl rfl rfl ?_; clear hA a; intro a hA
  refine S.no (dj := 11) hA (by kernel_rfl) rfl rfl rfl ?_; clear hA a; intro a hA
  refine S.no (dj := 11) hA (by kernel_rfl) rfl rfl rfl ?_; clear hA a; intro a hA
  refine S.no (dj := 11) hA (by kernel_rfl) rfl rfl rfl ?_; clear hA a; intro a hA
  refine S.val hA (R.pickT rfl rfl) rfl ?_; clear hA a; intro a hA
  refine S.done ?_
  replace hA : St 24 [(0, _), (1, _), (4, _), (19, _)] a := hA.sub ((.cons rfl (.cons rfl (.cons rfl (.cons rfl .nil)))))
  refine Ends.condT hA rfl ?_
  refine Ends.seq ?_
  refine Ends.region ?_
  refine S.val hA (R.assign rfl) rfl ?_; clear hA a; intro a hA
  refine S.done ?_
  replace hA : St 24 [(0, _), (1, _), (4, _)] a := hA.sub ((.cons rfl (.cons rfl (.cons rfl .nil))))
  refine Ends.ret1 Try.func50 Try.results50 hA rfl ?_
  exact ⟨rfl, rfl⟩
set_option maxRecDepth 100000 in
set_option maxHeartbeats 400000 in
theorem ptake_high (p m nb ob ns ws : Nat) (bs : Int) (i : Int) (h : 0 ≤ i ∧ ws ≤ i) (w : World) (hp : w.heap[p]? = some (.cells #[.pointer (some ⟨m, 0, none⟩), .int .i64 bs, .slice (some ⟨nb, 0, none⟩) ns ns, .slice (some ⟨ob, 0, none⟩) ws ws] 128 (0, 0))) :
    Calls Try.prog 50 #[.pointer (some ⟨p, 0, none⟩), .int .i64 i] w fun e w' => e = .returned (.pointer none) ∧ w = w' := by
  have hM := Mem.start w
  refine Calls.of_ends (vs := [.pointer (some ⟨p, 0, none⟩), .int .i64 i]) Try.func50 rfl Try.ntmps50 rfl ?_
  intro a hA
  replace hA : St 24 [(0, _), (1, _)] a := hA
  refine Ends.seq ?_
  refine Ends.region ?_
  refine S.val hA (R.assign rfl) rfl ?_; clear hA a; intro a hA
  refine S.done ?_
  replace hA : St 24 [(0, _), (1, _), (4, _)] a := hA.sub ((.cons rfl (.cons rfl (.cons rfl .nil))))
  refine Ends.seq ?_
  refine Ends.seq ?_
  refine Ends.region ?_
  refine S.val hA (R.move rfl) rfl ?_; clear hA a; intro a hA
  refine S.val hA (R.eqlNil Try.underlying72 rfl rfl) rfl ?_; clear hA a; intro a hA
  refine S.val hA (R.move rfl) rfl ?_; clear hA a; intro a hA
  refine S.valg (dj := 7) hA (by kernel_rfl) rfl (R.move rfl) rfl ?_; clear hA a; intro a hA
  refine S.valg (dj := 7) hA (by kernel_rfl) rfl (R.ff (R.lss rfl rfl) (by omega)) rfl ?_; clear hA a; intro a hA
  refine S.val hA (R.pickF rfl rfl) rfl ?_; clear hA a; intro a hA
  refine S.val hA (R.move rfl) rfl ?_; clear hA a; intro a hA
  refine S.valg (dj := 11) hA (by kernel_rfl) rfl (R.move rfl) rfl ?_; clear hA a; intro a hA
  refine S.valg (dj := 11) hA (by kernel_rfl) rfl (R.move rfl) rfl ?_; clear hA a; intro a hA
  refine S.valg (dj := 11) hA (by kernel_rfl) rfl (R.nilCheck rfl) rfl ?_; clear hA a; intro a hA
  refine S.valg (dj := 11) hA (by kernel_rfl) rfl (R.fieldAddr (q := 3) fi128_3 rfl rfl rfl) rfl ?_; clear hA a; intro a hA
  refine S.valg (dj := 11) hA (by kernel_rfl) rfl (R.load sz95 rfl (hM.cellB hp rfl)) rfl ?_; clear hA a; intro a hA
  refine S.valg (dj := 11) hA (by kernel_rfl) rfl (R.lenS Try.underlying95 rfl rfl) rfl ?_; clear hA a; intro a hA
  refine S.valg (dj := 11) hA (by kernel_rfl) rfl (R.tt (R.geq rfl rfl) (by omega)) rfl ?_; clear hA a; intro a hA
  refine S.val hA (R.pickF rfl rfl) rfl ?_; clear hA a; intro a hA
  refine S.done ?_
  replace hA : St 24 [(0, _), (1, _), (4, _), (19, _)] a := hA.sub ((.cons rfl (.cons rfl (.cons rfl (.cons rfl .nil)))))
  refine Ends.condT hA rfl ?_
  refine Ends.seq ?_
  refine Ends.region ?_
  refine S.val hA (R.assign rfl) rfl ?_; clear hA a; intro a hA
  refine S.done ?_
  replace hA : St 24 [(0, _), (1, _), (4, _)] a := hA.sub ((.cons rfl (.cons rfl (.cons rfl .nil))))
  refine Ends.ret1 Try.func50 Try.results50 hA rfl ?_
  exact ⟨rfl, rfl⟩
set_option maxRecDepth 100000 in
set_option maxHeartbeats 400000 in
theorem ptake_ok (p m nb ob ns ws : Nat) (bs : Int) (i : Int) (h : 0 ≤ i ∧ i < ws) (w : World) (hp : w.heap[p]? = some (.cells #[.pointer (some ⟨m, 0, none⟩), .int .i64 bs, .slice (some ⟨nb, 0, none⟩) ns ns, .slice (some ⟨ob, 0, none⟩) ws ws] 128 (0, 0))) :
    Calls Try.prog 50 #[.pointer (some ⟨p, 0, none⟩), .int .i64 i] w fun e w' => ∃ r, e = .returned (.pointer (some ⟨r, 0, none⟩)) ∧ Mem w nof [pt r #[.pointer (some ⟨p, 0, none⟩), .int .i64 i, .bool false, .int .i64 (-1), .int .i64 0, .int .i64 0, .int .i64 0] 131] w' := by
  have hM := Mem.start w
  refine Calls.of_ends (vs := [.pointer (some ⟨p, 0, none⟩), .int .i64 i]) Try.func50 rfl Try.ntmps50 rfl ?_
  intro a hA
  replace hA : St 24 [(0, _), (1, _)] a := hA
  refine Ends.seq ?_
  refine Ends.region ?_
  refine S.val hA (R.assign rfl) rfl ?_; clear hA a; intro a hA
  refine S.done ?_
  replace hA : St 24 [(0, _), (1, _), (4, _)] a := hA.sub ((.cons rfl (.cons rfl (.cons rfl .nil))))
  refine Ends.seq ?_
  refine Ends.seq ?_
  refine Ends.region ?_
  refine S.val hA (R.move rfl) rfl ?_; clear hA a; intro a hA
  refine S.val hA (R.eqlNil Try.underlying72 rfl rfl) rfl ?_; clear hA a; intro a hA
  refine S.val hA (R.move rfl) rfl ?_; clear hA a; intro a hA
  refine S.valg (dj := 7) hA (by kernel_rfl) rfl (R.move rfl) rfl ?_; clear hA a; intro a hA
  refine S.valg (dj := 7) hA (by kernel_rfl) rfl (R.ff (R.lss rfl rfl) (by omega)) rfl ?_; clear hA a; intro a hA
  refine S.val hA (R.pickF rfl rfl) rfl ?_; clear hA a; intro a hA
  refine S.val hA (R.move rfl) rfl ?_; clear hA a; intro a hA
  refine S.valg (dj := 11) hA (by kernel_rfl) rfl (R.move rfl) rfl ?_; clear hA a; intro a hA
  refine S.valg (dj := 11) hA (by kernel_rfl) rfl (R.move rfl) rfl ?_; clear hA a; intro a hA
  refine S.valg (dj := 11) hA (by kernel_rfl) rfl (R.nilCheck rfl) rfl ?_; clear hA a; intro a hA
  refine S.valg (dj := 11) hA (by kernel_rfl) rfl (R.fieldAddr (q := 3) fi128_3 rfl rfl rfl) rfl ?_; clear hA a; intro a hA
  refine S.valg (dj := 11) hA (by kernel_rfl) rfl (R.load sz95 rfl (hM.cellB hp rfl)) rfl ?_; clear hA a; intro a hA
  refine S.valg (dj := 11) hA (by kernel_rfl) rfl (R.lenS Try.underlying95 rfl rfl) rfl ?_; clear hA a; intro a hA
  refine S.valg (dj := 11) hA (by kernel_rfl) rfl (R.ff (R.geq rfl rfl) (by omega)) rfl ?_; clear hA a; intro a hA
  refine S.val hA (R.pickF rfl rfl) rfl ?_; clear hA a; intro a hA
  refine S.done ?_
  replace hA : St 24 [(0, _), (1, _), (4, _), (19, _)] a := hA.sub ((.cons rfl (.cons rfl (.cons rfl (.cons rfl .nil)))))
  refine Ends.condF hA rfl ?_
  refine Ends.skip ?_
  refine Ends.seq ?_
  refine Ends.region ?_
  refine S.val hA (R.move rfl) rfl ?_; clear hA a; intro a hA
  refine S.val hA (R.move rfl) rfl ?_; clear hA a; intro a hA
  refine S.val hA (R.build (cells := #[.pointer (some ⟨p, 0, none⟩), .int .i64 i, .bool false, .int .i64 (-1), .int .i64 0, .int .i64 0, .int .i64 0]) rfl (by kernel_rfl)) rfl ?_; clear hA a; intro a hA
  refine S.box hA hM rfl rfl ?_; clear hA hM a; intro b1 w1 hb2 hM a hA
  replace hM : Mem _ _ [pt b1 #[.pointer (some ⟨p, 0, none⟩), .int .i64 i, .bool false, .int .i64 (-1), .int .i64 0, .int .i64 0, .int .i64 0] 131] _ := hM
  refine S.val hA (R.assign rfl) rfl ?_; clear hA a; intro a hA
  refine S.done ?_
  replace hA : St 24 [(4, _)] a := hA.sub ((.cons rfl .nil))
  refine Ends.ret1 Try.func50 Try.results50 hA rfl ?_
  exact ⟨_, rfl, hM⟩
set_option maxRecDepth 100000 in
set_option maxHeartbeats 400000 in
theorem pnew_nil (bs n wk : Int) (hn : 1 ≤ n ∧ n ≤ 4096) (w : World) :
    Calls Try.prog 47 #[.pointer none, .int .i64 bs, .int .i64 n, .int .i64 wk] w fun e w' => e = .returned (.tuple #[.pointer none, .int .i64 1]) ∧ w = w' := by
  have hM := Mem.start w
  refine Calls.of_ends (vs := [.pointer none, .int .i64 bs, .int .i64 n, .int .i64 wk]) Try.func47 rfl Try.ntmps47 rfl ?_
  intro a hA
  replace hA : St 71 [(0, _), (1, _), (2, _), (3, _)] a := hA
  refine Ends.seq ?_
  refine Ends.region ?_
  refine S.val hA (R.assign rfl) rfl ?_; clear hA a; intro a hA
  refine S.val hA (R.assign rfl) rfl ?_; clear hA a; intro a hA
  refine S.done ?_
  replace hA : St 71 [(0, _), (1, _), (2, _), (3, _), (8, _), (9, _)] a := hA.sub ((.cons rfl (.cons rfl (.cons rfl (.cons rfl (.cons rfl (.cons rfl .nil)))))))
  refine Ends.seq ?_
  refine Ends.region ?_
  refine S.val hA (R.move rfl) rfl ?_; clear hA a; intro a hA
  refine S.call hA (R.callF Try.func57 rfl rfl rfl) rfl (pcells_ok n hn _) ?_; clear hA a
  rintro e w1 ⟨rfl, rfl⟩
  refine ⟨.int .i64 (n + 1), rfl, fun a hA => ?_⟩
  refine S.val hA (R.assign rfl) rfl ?_; clear hA a; intro a hA
  refine S.done ?_
  replace hA : St 71 [(0, _), (1, _), (2, _), (3, _), (8, _), (9, _), (10, _)] a := hA.sub ((.cons rfl (.cons rfl (.cons rfl (.cons rfl (.cons rfl (.cons rfl (.cons rfl .nil))))))))
  refine Ends.seq ?_
  refine Ends.seq ?_
  refine Ends.region ?_
  refine S.val hA (R.move rfl) rfl ?_; clear hA a; intro a hA
  refine S.val hA (R.eqlNil Try.underlying24 rfl rfl) rfl ?_; clear hA a; intro a hA
  refine S.val hA (R.move rfl) rfl ?_; clear hA a; intro a hA
  refine S.no (dj := 18) hA (by kernel_rfl) rfl rfl rfl ?_; clear hA a; intro a hA
  refine S.no (dj := 18) hA (by kernel_rfl) rfl rfl rfl ?_; clear hA a; intro a hA
  refine S.val hA (R.pickT rfl rfl) rfl ?_; clear hA a; intro a hA
  refine S.val hA (R.move rfl) rfl ?_; clear hA a; intro a hA
  refine S.no (dj := 22) hA (by kernel_rfl) rfl rfl rfl ?_; clear hA a; intro a hA
  refine S.no (dj := 22) hA (by kernel_rfl) rfl rfl rfl ?_; clear hA a; intro a hA
  refine S.val hA (R.pickT rfl rfl) rfl ?_; clear hA a; intro a hA
  refine S.val hA (R.move rfl) rfl ?_; clear hA a; intro a hA
  refine S.no (dj := 26) hA (by kernel_rfl) rfl rfl rfl ?_; clear hA a; intro a hA
  refine S.no (dj := 26) hA (by kernel_rfl) rfl rfl rfl ?_; clear hA a; intro a hA
  refine S.val hA (R.pickT rfl rfl) rfl ?_; clear hA a; intro a hA
  refine S.val hA (R.move rfl) rfl ?_; clear hA a; intro a hA
  refine S.no (dj := 30) hA (by kernel_rfl) rfl rfl rfl ?_; clear hA a; intro a hA
  refine S.no (dj := 30) hA (by kernel_rfl) rfl rfl rfl ?_; clear hA a; intro a hA
  refine S.val hA (R.pickT rfl rfl) rfl ?_; clear hA a; intro a hA
  refine S.val hA (R.move rfl) rfl ?_; clear hA a; intro a hA
  refine S.no (dj := 34) hA (by kernel_rfl) rfl rfl rfl ?_; clear hA a; intro a hA
  refine S.no (dj := 34) hA (by kernel_rfl) rfl rfl rfl ?_; clear hA a; intro a hA
  refine S.no (dj := 34) hA (by kernel_rfl) rfl rfl rfl ?_; clear hA a; intro a hA
  refine S.no (dj := 34) hA (by kernel_rfl) rfl rfl rfl ?_; clear hA a; intro a hA
  refine S.no (dj := 34) hA (by kernel_rfl) rfl rfl rfl ?_; clear hA a; intro a hA
  refine S.no (dj := 34) hA (by kernel_rfl) rfl rfl rfl ?_; clear hA a; intro a hA
  refine S.val hA (R.pickT rfl rfl) rfl ?_; clear hA a; intro a hA
  refine S.done ?_
  replace hA : St 71 [(0, _), (1, _), (2, _), (3, _), (8, _), (9, _), (41, _)] a := hA.sub ((.cons rfl (.cons rfl (.cons rfl (.cons rfl (.cons rfl (.cons rfl (.cons rfl .nil))))))))
  refine Ends.condT hA rfl ?_
  refine Ends.seq ?_
  refine Ends.region ?_
  refine S.val hA (R.assign rfl) rfl ?_; clear hA a; intro a hA
  refine S.val hA (R.assign rfl) rfl ?_; clear hA a; intro a hA
  refine S.done ?_
  replace hA : St 71 [(0, _), (1, _), (2, _), (3, _), (8, _), (9, _)] a := hA.sub ((.cons rfl (.cons rfl (.cons rfl (.cons rfl (.cons rfl (.cons rfl .nil)))))))
  refine Ends.ret2 Try.func47 Try.results47 hA rfl rfl ?_
  exact ⟨rfl, rfl⟩
set_option maxRecDepth 100000 in
set_option maxHeartbeats 400000 in
theorem pnew_badn (m c : Nat) (l : List Int) (s : Int) (o : CellOp) (hmc : m ≠ c) (bs n wk : Int) (hl : l.length ≤ 1000000) (hn : ¬ (1 ≤ n ∧ n ≤ 4096)) (w : World) (hM : Mem w (feet [memO m c l s o]) [memO m c l s o] w) :
    Calls Try.prog 47 #[.pointer (some ⟨m, 0, none⟩), .int .i64 bs, .int .i64 n, .int .i64 wk] w fun e w' => e = .returned (.tuple #[.pointer none, .int .i64 1]) ∧ Mem w (feet [memO m c l s o]) [memO m c l s o] w' := by
  have hM0 : True := trivial  -- have hM
  refine Calls.of_ends (vs := [.pointer (some ⟨m, 0, none⟩), .int .i64 bs, .int .i64 n, .int .i64 wk]) Try.func47 rfl Try.ntmps47 rfl ?_
  intro a hA
  replace hA : St 71 [(0, _), (1, _), (2, _), (3, _)] a := hA
  refine Ends.seq ?_
  refine Ends.region ?_
  refine S.val hA (R.assign rfl) rfl ?_; clear hA a; intro a hA
  refine S.val hA (R.assign rfl) rfl ?_; clear hA a; intro a hA
  refine S.done ?_
  replace hA : St 71 [(0, _), (1, _), (2, _), (3, _), (8, _), (9, _)] a := hA.sub ((.cons rfl (.cons rfl (.cons rfl (.cons rfl (.cons rfl (.cons rfl .nil)))))))
  refine Ends.seq ?_
  refine Ends.region ?_
  refine S.val hA (R.move rfl) rfl ?_; clear hA a; intro a hA
  refine S.call hA (R.callF Try.func57 rfl rfl rfl) rfl (pcells_bad n hn _) ?_; clear hA a
  rintro e w1 ⟨rfl, rfl⟩
  refine ⟨.int .i64 0, rfl, fun a hA => ?_⟩
  refine S.val hA (R.assign rfl) rfl ?_; clear hA a; intro a hA
  refine S.done ?_
  replace hA : St 71 [(0, _), (1, _), (2, _), (3, _), (8, _), (9, _), (10, _)] a := hA.sub ((.cons rfl (.cons rfl (.cons rfl (.cons rfl (.cons rfl (.cons rfl (.cons rfl .nil))))))))
  refine Ends.seq ?_
  refine Ends.seq ?_
  refine Ends.region ?_
  refine S.val hA (R.move rfl) rfl ?_; clear hA a; intro a hA
  refine S.val hA (R.eqlNil Try.underlying24 rfl rfl) rfl ?_; clear hA a; intro a hA
  refine S.val hA (R.move rfl) rfl ?_; clear hA a; intro a hA
  refine S.valg (dj := 18) hA (by kernel_rfl) rfl (R.move rfl) rfl ?_; clear hA a; intro a hA
  refine S.valg (dj := 18) hA (by kernel_rfl) rfl (R.tt (R.eql rfl rfl) (by first | decide | simp | omega)) rfl ?_; clear hA a; intro a hA
  refine S.val hA (R.pickF rfl rfl) rfl ?_; clear hA a; intro a hA
  refine S.val hA (R.move rfl) rfl ?_; clear hA a; intro a hA
  refine S.no (dj := 22) hA (by kernel_rfl) rfl rfl rfl ?_; clear hA a; intro a hA
  refine S.no (dj := 22) hA (by kernel_rfl) rfl rfl rfl ?_; clear hA a; intro a hA
  refine S.val hA (R.pickT rfl rfl) rfl ?_; clear hA a; intro a hA
  refine S.val hA (R.move rfl) rfl ?_; clear hA a; intro a hA
  refine S.no (dj := 26) hA (by kernel_rfl) rfl rfl rfl ?_; clear hA a; intro a hA
  refine S.no (dj := 26) hA (by kernel_rfl) rfl rfl rfl ?_; clear hA a; intro a hA
  refine S.val hA (R.pickT rfl rfl) rfl ?_; clear hA a; intro a hA
  refine S.val hA (R.move rfl) rfl ?_; clear hA a; intro a hA
  refine S.no (dj := 30) hA (by kernel_rfl) rfl rfl rfl ?_; clear hA a; intro a hA
  refine S.no (dj := 30) hA (by kernel_rfl) rfl rfl rfl ?_; clear hA a; intro a hA
  refine S.val hA (R.pickT rfl rfl) rfl ?_; clear hA a; intro a hA
  refine S.val hA (R.move rfl) rfl ?_; clear hA a; intro a hA
  refine S.no (dj := 34) hA (by kernel_rfl) rfl rfl rfl ?_; clear hA a; intro a hA
  refine S.no (dj := 34) hA (by kernel_rfl) rfl rfl rfl ?_; clear hA a; intro a hA
  refine S.no (dj := 34) hA (by kernel_rfl) rfl rfl rfl ?_; clear hA a; intro a hA
  refine S.no (dj := 34) hA (by kernel_rfl) rfl rfl rfl ?_; clear hA a; intro a hA
  refine S.no (dj := 34) hA (by kernel_rfl) rfl rfl rfl ?_; clear hA a; intro a hA
  refine S.no (dj := 34) hA (by kernel_rfl) rfl rfl rfl ?_; clear hA a; intro a hA
  refine S.val hA (R.pickT rfl rfl) rfl ?_; clear hA a; intro a hA
  refine S.done ?_
  replace hA : St 71 [(0, _), (1, _), (2, _), (3, _), (8, _), (9, _), (41, _)] a := hA.sub ((.cons rfl (.cons rfl (.cons rfl (.cons rfl (.cons rfl (.cons rfl (.cons rfl .nil))))))))
  refine Ends.condT hA rfl ?_
  refine Ends.seq ?_
  refine Ends.region ?_
  refine S.val hA (R.assign rfl) rfl ?_; clear hA a; intro a hA
  refine S.val hA (R.assign rfl) rfl ?_; clear hA a; intro a hA
  refine S.done ?_
  replace hA : St 71 [(0, _), (1, _), (2, _), (3, _), (8, _), (9, _)] a := hA.sub ((.cons rfl (.cons rfl (.cons rfl (.cons rfl (.cons rfl (.cons rfl .nil)))))))
  refine Ends.ret2 Try.func47 Try.results47 hA rfl rfl ?_
  exact ⟨rfl, hM⟩
set_option maxRecDepth 100000 in
set_option maxHeartbeats 400000 in
theorem pnew_badr (m c : Nat) (l : List Int) (s : Int) (o : CellOp) (hmc : m ≠ c) (bs n wk : Int) (hl : l.length ≤ 1000000) (hn : 1 ≤ n ∧ n ≤ 4096) (hbad : ¬ (1 ≤ wk ∧ wk ≤ 16 ∧ 0 ≤ bs ∧ bs + n + 1 ≤ l.length)) (w : World) (hM : Mem w (feet [memO m c l s o]) [memO m c l s o] w) :
    Calls Try.prog 47 #[.pointer (some ⟨m, 0, none⟩), .int .i64 bs, .int .i64 n, .int .i64 wk] w fun e w' => e = .returned (.tuple #[.pointer none, .int .i64 1]) ∧ Mem w (feet [memO m c l s o]) [memO m c l s o] w' := by
  have hM0 : True := trivial  -- have hM
  refine Calls.of_ends (vs := [.pointer (some ⟨m, 0, none⟩), .int .i64 bs, .int .i64 n, .int .i64 wk]) Try.func47 rfl Try.ntmps47 rfl ?_
  intro a hA
  replace hA : St 71 [(0, _), (1, _), (2, _), (3, _)] a := hA
  refine Ends.seq ?_
  refine Ends.region ?_
  refine S.val hA (R.assign rfl) rfl ?_; clear hA a; intro a hA
  refine S.val hA (R.assign rfl) rfl ?_; clear hA a; intro a hA
  refine S.done ?_
  replace hA : St 71 [(0, _), (1, _), (2, _), (3, _), (8, _), (9, _)] a := hA.sub ((.cons rfl (.cons rfl (.cons rfl (.cons rfl (.cons rfl (.cons rfl .nil)))))))
  refine Ends.seq ?_
  refine Ends.region ?_
  refine S.val hA (R.move rfl) rfl ?_; clear hA a; intro a hA
  refine S.call hA (R.callF Try.func57 rfl rfl rfl) rfl (pcells_ok n hn _) ?_; clear hA a
  rintro e w1 ⟨rfl, rfl⟩
  refine ⟨.int .i64 (n + 1), rfl, fun a hA => ?_⟩
  refine S.val hA (R.assign rfl) rfl ?_; clear hA a; intro a hA
  refine S.done ?_
  replace hA : St 71 [(0, _), (1, _), (2, _), (3, _), (8, _), (9, _), (10, _)] a := hA.sub ((.cons rfl (.cons rfl (.cons rfl (.cons rfl (.cons rfl (.cons rfl (.cons rfl .nil))))))))
  refine Ends.seq ?_
  refine Ends.seq ?_
  refine Ends.cut (fun (a : Act) (wv : World) => St 71 [(0, .pointer (some ⟨m, 0, none⟩)), (1, .int .i64 bs), (2, .int .i64 n), (3, .int .i64 wk), (8, .pointer none), (9, .int .i64 0), (41, .bool (decide ((((wk < 1 ∨ 16 < wk) ∨ bs < 0) ∨ (((l.length : Int)) - (n + 1)) < bs))))] a ∧ Mem w (feet [memO m c l s o]) [memO m c l s o] wv) ?_ (fun k2 hJ => ?_)
  · clear hA hM a; rintro a w2 ⟨hA, hM⟩
    refine Ends.ite hA rfl (fun hc1 => ?_) (fun hc1 => ?_)
    ·
      refine Ends.seq ?_
      refine Ends.region ?_
      refine S.val hA (R.assign rfl) rfl ?_; clear hA a; intro a hA
      refine S.val hA (R.assign rfl) rfl ?_; clear hA a; intro a hA
      refine S.done ?_
      replace hA : St 71 [(0, _), (1, _), (2, _), (3, _), (8, _), (9, _)] a := hA.sub ((.cons rfl (.cons rfl (.cons rfl (.cons rfl (.cons rfl (.cons rfl .nil)))))))
      refine Ends.ret2 Try.func47 Try.results47 hA rfl rfl ?_
      exact ⟨rfl, hM⟩
    · exfalso; omega
  ·
    refine Ends.region ?_
    refine S.val hA (R.move rfl) rfl ?_; clear hA a; intro a hA
    refine S.val hA (R.eqlNil Try.underlying24 rfl rfl) rfl ?_; clear hA a; intro a hA
    refine S.val hA (R.move rfl) rfl ?_; clear hA a; intro a hA
    refine S.valg (dj := 18) hA (by kernel_rfl) rfl (R.move rfl) rfl ?_; clear hA a; intro a hA
    refine S.valg (dj := 18) hA (by kernel_rfl) rfl (R.ff (R.eql rfl rfl) (by omega)) rfl ?_; clear hA a; intro a hA
    refine S.val hA (R.pickF rfl rfl) rfl ?_; clear hA a; intro a hA
    refine S.val hA (R.move rfl) rfl ?_; clear hA a; intro a hA
    refine S.valg (dj := 22) hA (by kernel_rfl) rfl (R.move rfl) rfl ?_; clear hA a; intro a hA
    refine S.valg (dj := 22) hA (by kernel_rfl) rfl (R.lss rfl rfl) rfl ?_; clear hA a; intro a hA
    refine S.val hA (R.pickF rfl rfl) rfl ?_; clear hA a; intro a hA
    refine S.val hA (R.move rfl) rfl ?_; clear hA a; intro a hA
    refine hA.split (d := 26) rfl ?_ ?_
    · clear hA; intro hg2 hA
      refine S.no (dj := 26) hA (by kernel_rfl) rfl rfl rfl ?_; clear hA a; intro a hA
      refine S.no (dj := 26) hA (by kernel_rfl) rfl rfl rfl ?_; clear hA a; intro a hA
      refine S.val hA (R.pickT rfl rfl) rfl ?_; clear hA a; intro a hA
      refine S.val hA (R.move rfl) rfl ?_; clear hA a; intro a hA
      refine S.no (dj := 30) hA (by kernel_rfl) rfl rfl rfl ?_; clear hA a; intro a hA
      refine S.no (dj := 30) hA (by kernel_rfl) rfl rfl rfl ?_; clear hA a; intro a hA
      refine S.val hA (R.pickT rfl rfl) rfl ?_; clear hA a; intro a hA
      refine S.val hA (R.move rfl) rfl ?_; clear hA a; intro a hA
      refine S.no (dj := 34) hA (by kernel_rfl) rfl rfl rfl ?_; clear hA a; intro a hA
      refine S.no (dj := 34) hA (by kernel_rfl) rfl rfl rfl ?_; clear hA a; intro a hA
      refine S.no (dj := 34) hA (by kernel_rfl) rfl rfl rfl ?_; clear hA a; intro a hA
      refine S.no (dj := 34) hA (by kernel_rfl) rfl rfl rfl ?_; clear hA a; intro a hA
      refine S.no (dj := 34) hA (by kernel_rfl) rfl rfl rfl ?_; clear hA a; intro a hA
      refine S.no (dj := 34) hA (by kernel_rfl) rfl rfl rfl ?_; clear hA a; intro a hA
      refine S.val hA (R.pickT rfl rfl) rfl ?_; clear hA a; intro a hA
      refine S.done ?_
      replace hA : St 71 [(0, _), (1, _), (2, _), (3, _), (8, _), (9, _), (41, _)] a := hA.sub ((.cons rfl (.cons rfl (.cons rfl (.cons rfl (.cons rfl (.cons rfl (.cons rfl .nil))))))))
      exact hJ _ _ ⟨hA.sub (.cons rfl (.cons rfl (.cons rfl (.cons rfl (.cons rfl (.cons rfl (.cons (by first | rfl | exact congrArg (fun b => some (Value.bool b)) (by simp [hg2])) .nil))))))), hM⟩
    · clear hA; intro hg2 hA
      refine S.valg (dj := 26) hA (by kernel_rfl) rfl (R.move rfl) rfl ?_; clear hA a; intro a hA
      refine S.valg (dj := 26) hA (by kernel_rfl) rfl (R.gtr rfl rfl) rfl ?_; clear hA a; intro a hA
      refine S.val hA (R.pickF rfl rfl) rfl ?_; clear hA a; intro a hA
      refine S.val hA (R.move rfl) rfl ?_; clear hA a; intro a hA
      refine hA.split (d := 30) rfl ?_ ?_
      · clear hA; intro hg3 hA
        refine S.no (dj := 30) hA (by kernel_rfl) rfl rfl rfl ?_; clear hA a; intro a hA
        refine S.no (dj := 30) hA (by kernel_rfl) rfl rfl rfl ?_; clear hA a; intro a hA
        refine S.val hA (R.pickT rfl rfl) rfl ?_; clear hA a; intro a hA
        refine S.val hA (R.move rfl) rfl ?_; clear hA a; intro a hA
        refine S.no (dj := 34) hA (by kernel_rfl) rfl rfl rfl ?_; clear hA a; intro a hA
        refine S.no (dj := 34) hA (by kernel_rfl) rfl rfl rfl ?_; clear hA a; intro a hA
        refine S.no (dj := 34) hA (by kernel_rfl) rfl rfl rfl ?_; clear hA a; intro a hA
        refine S.no (dj := 34) hA (by kernel_rfl) rfl rfl rfl ?_; clear hA a; intro a hA
        refine S.no (dj := 34) hA (by kernel_rfl) rfl rfl rfl ?_; clear hA a; intro a hA
        refine S.no (dj := 34) hA (by kernel_rfl) rfl rfl rfl ?_; clear hA a; intro a hA
        refine S.val hA (R.pickT rfl rfl) rfl ?_; clear hA a; intro a hA
        refine S.done ?_
        replace hA : St 71 [(0, _), (1, _), (2, _), (3, _), (8, _), (9, _), (41, _)] a := hA.sub ((.cons rfl (.cons rfl (.cons rfl (.cons rfl (.cons rfl (.cons rfl (.cons rfl .nil))))))))
        exact hJ _ _ ⟨hA.sub (.cons rfl (.cons rfl (.cons rfl (.cons rfl (.cons rfl (.cons rfl (.cons (by first | rfl | exact congrArg (fun b => some (Value.bool b)) (by simp [hg2, hg3])) .nil))))))), hM⟩
      · clear hA; intro hg3 hA
        refine S.valg (dj := 30) hA (by kernel_rfl) rfl (R.move rfl) rfl ?_; clear hA a; intro a hA
        refine S.valg (dj := 30) hA (by kernel_rfl) rfl (R.lss rfl rfl) rfl ?_; clear hA a; intro a hA
        refine S.val hA (R.pickF rfl rfl) rfl ?_; clear hA a; intro a hA
        refine S.val hA (R.move rfl) rfl ?_; clear hA a; intro a hA
        refine hA.split (d := 34) rfl ?_ ?_
        · clear hA; intro hg4 hA
          refine S.no (dj := 34) hA (by kernel_rfl) rfl rfl rfl ?_; clear hA a; intro a hA
          refine S.no (dj := 34) hA (by kernel_rfl) rfl rfl rfl ?_; clear hA a; intro a hA
          refine S.no (dj := 34) hA (by kernel_rfl) rfl rfl rfl ?_; clear hA a; intro a hA
          refine S.no (dj := 34) hA (by kernel_rfl) rfl rfl rfl ?_; clear hA a; intro a hA
          refine S.no (dj := 34) hA (by kernel_rfl) rfl rfl rfl ?_; clear hA a; intro a hA
          refine S.no (dj := 34) hA (by kernel_rfl) rfl rfl rfl ?_; clear hA a; intro a hA
          refine S.val hA (R.pickT rfl rfl) rfl ?_; clear hA a; intro a hA
          refine S.done ?_
          replace hA : St 71 [(0, _), (1, _), (2, _), (3, _), (8, _), (9, _), (41, _)] a := hA.sub ((.cons rfl (.cons rfl (.cons rfl (.cons rfl (.cons rfl (.cons rfl (.cons rfl .nil))))))))
          exact hJ _ _ ⟨hA.sub (.cons rfl (.cons rfl (.cons rfl (.cons rfl (.cons rfl (.cons rfl (.cons (by first | rfl | exact congrArg (fun b => some (Value.bool b)) (by simp [hg2, hg3, hg4])) .nil))))))), hM⟩
        · clear hA; intro hg4 hA
          refine S.valg (dj := 34) hA (by kernel_rfl) rfl (R.move rfl) rfl ?_; clear hA a; intro a hA
          refine S.valg (dj := 34) hA (by kernel_rfl) rfl (R.move rfl) rfl ?_; clear hA a; intro a hA
          refine S.callg (dj := 34) hA (by kernel_rfl) rfl (R.callF Try.func66 rfl rfl rfl) rfl (size_ok m c l s o hmc _ (hM.mem (k := 0) rfl)) ?_; clear hA a
          rintro e w3 ⟨rfl, rfl⟩
          refine ⟨.int .i64 ((l.length : Int)), rfl, fun a hA => ?_⟩
          refine S.valg (dj := 34) hA (by kernel_rfl) rfl (R.move rfl) rfl ?_; clear hA a; intro a hA
          refine S.valg (dj := 34) hA (by kernel_rfl) rfl (R.subI rfl rfl (r := ((l.length : Int)) - (n + 1)) rfl (by omega)) rfl ?_; clear hA a; intro a hA
          refine S.valg (dj := 34) hA (by kernel_rfl) rfl (R.gtr rfl rfl) rfl ?_; clear hA a; intro a hA
          refine S.val hA (R.pickF rfl rfl) rfl ?_; clear hA a; intro a hA
          refine S.done ?_
          replace hA : St 71 [(0, _), (1, _), (2, _), (3, _), (8, _), (9, _), (41, _)] a := hA.sub ((.cons rfl (.cons rfl (.cons rfl (.cons rfl (.cons rfl (.cons rfl (.cons rfl .nil))))))))
          exact hJ _ _ ⟨hA.sub (.cons rfl (.cons rfl (.cons rfl (.cons rfl (.cons rfl (.cons rfl (.cons (by first | rfl | exact congrArg (fun b => some (Value.bool b)) (by simp [hg2, hg3, hg4])) .nil))))))), hM⟩
set_option maxRecDepth 100000 in
set_option maxHeartbeats 400000 in
theorem pnew_ok (m c : Nat) (l : List Int) (s : Int) (o : CellOp) (hmc : m ≠ c) (bs n wk : Int) (hl : l.length ≤ 1000000) (hn : 1 ≤ n ∧ n ≤ 4096) (hwk : 1 ≤ wk ∧ wk ≤ 16) (hbs : 0 ≤ bs ∧ bs + n + 1 ≤ l.length) (hs : 0 ≤ s ∧ s ≤ 1000000) (w : World) (hM : Mem w (feet [memO m c l s o]) [memO m c l s o] w) :
    Calls Try.prog 47 #[.pointer (some ⟨m, 0, none⟩), .int .i64 bs, .int .i64 n, .int .i64 wk] w fun e w' => ∃ p nb ob op, e = .returned (.tuple #[.pointer (some ⟨p, 0, none⟩), .int .i64 0]) ∧ Mem w (feet [memO m c l s o]) [pt p #[.pointer (some ⟨m, 0, none⟩), .int .i64 bs, .slice (some ⟨nb, 0, none⟩) n.toNat n.toNat, .slice (some ⟨ob, 0, none⟩) wk.toNat wk.toNat] 128, pt nb (madeCells #[.slice none 0 0, .int .i64 0] (n.toNat * 2)) 77, pt ob (vals (nils wk.toNat)) 43, memO m c (linkL l bs n n.toNat) (s + 1 + n) op] w' := by
  have hM0 : True := trivial  -- have hM
  refine Calls.of_ends (vs := [.pointer (some ⟨m, 0, none⟩), .int .i64 bs, .int .i64 n, .int .i64 wk]) Try.func47 rfl Try.ntmps47 rfl ?_
  intro a hA
  replace hA : St 71 [(0, _), (1, _), (2, _), (3, _)] a := hA
  refine Ends.seq ?_
  refine Ends.region ?_
  refine S.val hA (R.assign rfl) rfl ?_; clear hA a; intro a hA
  refine S.val hA (R.assign rfl) rfl ?_; clear hA a; intro a hA
  refine S.done ?_
  replace hA : St 71 [(0, _), (1, _), (2, _), (3, _), (8, _), (9, _)] a := hA.sub ((.cons rfl (.cons rfl (.cons rfl (.cons rfl (.cons rfl (.cons rfl .nil)))))))
  refine Ends.seq ?_
  refine Ends.region ?_
  refine S.val hA (R.move rfl) rfl ?_; clear hA a; intro a hA
  refine S.call hA (R.callF Try.func57 rfl rfl rfl) rfl (pcells_ok n hn _) ?_; clear hA a
  rintro e w1 ⟨rfl, rfl⟩
  refine ⟨.int .i64 (n + 1), rfl, fun a hA => ?_⟩
  refine S.val hA (R.assign rfl) rfl ?_; clear hA a; intro a hA
  refine S.done ?_
  replace hA : St 71 [(0, _), (1, _), (2, _), (3, _), (8, _), (9, _), (10, _)] a := hA.sub ((.cons rfl (.cons rfl (.cons rfl (.cons rfl (.cons rfl (.cons rfl (.cons rfl .nil))))))))
  refine Ends.seq ?_
  refine Ends.seq ?_
  refine Ends.region ?_
  refine S.val hA (R.move rfl) rfl ?_; clear hA a; intro a hA
  refine S.val hA (R.eqlNil Try.underlying24 rfl rfl) rfl ?_; clear hA a; intro a hA
  refine S.val hA (R.move rfl) rfl ?_; clear hA a; intro a hA
  refine S.valg (dj := 18) hA (by kernel_rfl) rfl (R.move rfl) rfl ?_; clear hA a; intro a hA
  refine S.valg (dj := 18) hA (by kernel_rfl) rfl (R.ff (R.eql rfl rfl) (by omega)) rfl ?_; clear hA a; intro a hA
  refine S.val hA (R.pickF rfl rfl) rfl ?_; clear hA a; intro a hA
  refine S.val hA (R.move rfl) rfl ?_; clear hA a; intro a hA
  refine S.valg (dj := 22) hA (by kernel_rfl) rfl (R.move rfl) rfl ?_; clear hA a; intro a hA
  refine S.valg (dj := 22) hA (by kernel_rfl) rfl (R.ff (R.lss rfl rfl) (by omega)) rfl ?_; clear hA a; intro a hA
  refine S.val hA (R.pickF rfl rfl) rfl ?_; clear hA a; intro a hA
  refine S.val hA (R.move rfl) rfl ?_; clear hA a; intro a hA
  refine S.valg (dj := 26) hA (by kernel_rfl) rfl (R.move rfl) rfl ?_; clear hA a; intro a hA
  refine S.valg (dj := 26) hA (by kernel_rfl) rfl (R.ff (R.gtr rfl rfl) (by omega)) rfl ?_; clear hA a; intro a hA
  refine S.val hA (R.pickF rfl rfl) rfl ?_; clear hA a; intro a hA
  refine S.val hA (R.move rfl) rfl ?_; clear hA a; intro a hA
  refine S.valg (dj := 30) hA (by kernel_rfl) rfl (R.move rfl) rfl ?_; clear hA a; intro a hA
  refine S.valg (dj := 30) hA (by kernel_rfl) rfl (R.ff (R.lss rfl rfl) (by omega)) rfl ?_; clear hA a; intro a hA
  refine S.val hA (R.pickF rfl rfl) rfl ?_; clear hA a; intro a hA
  refine S.val hA (R.move rfl) rfl ?_; clear hA a; intro a hA
  refine S.valg (dj := 34) hA (by kernel_rfl) rfl (R.move rfl) rfl ?_; clear hA a; intro a hA
  refine S.valg (dj := 34) hA (by kernel_rfl) rfl (R.move rfl) rfl ?_; clear hA a; intro a hA
  refine S.callg (dj := 34) hA (by kernel_rfl) rfl (R.callF Try.func66 rfl rfl rfl) rfl (size_ok m c l s o hmc _ (hM.mem (k := 0) rfl)) ?_; clear hA a
  rintro e w2 ⟨rfl, rfl⟩
  refine ⟨.int .i64 ((l.length : Int)), rfl, fun a hA => ?_⟩
  refine S.valg (dj := 34) hA (by kernel_rfl) rfl (R.move rfl) rfl ?_; clear hA a; intro a hA
  refine S.valg (dj := 34) hA (by kernel_rfl) rfl (R.subI rfl rfl (r := ((l.length : Int)) - (n + 1)) rfl (by omega)) rfl ?_; clear hA a; intro a hA
  refine S.valg (dj := 34) hA (by kernel_rfl) rfl (R.ff (R.gtr rfl rfl) (by omega)) rfl ?_; clear hA a; intro a hA
  refine S.val hA (R.pickF rfl rfl) rfl ?_; clear hA a; intro a hA
  refine S.done ?_
  replace hA : St 71 [(0, _), (1, _), (2, _), (3, _), (8, _), (9, _), (41, _)] a := hA.sub ((.cons rfl (.cons rfl (.cons rfl (.cons rfl (.cons rfl (.cons rfl (.cons rfl .nil))))))))
  refine Ends.condF hA rfl ?_
  refine Ends.skip ?_
  refine Ends.seq ?_
  refine Ends.drawn (Mem w (feet [memO m c l s o]) []) (.cons (0, true) (.cons (1, true) (.cons (2, true) (.cons (4, true) (.fork 3 5 (.cons (5, false) (.cons (6, true) (.cons (7, false) (.cons (8, true) .nil)))) (.cons (3, false) (.cons (6, true) (.cons (7, false) (.cons (8, true) .nil))))))))) 9 mixed (by kernel_rfl) (by kernel_rfl) (by kernel_rfl) (hM.drop 0).drew ?_
  replace hM := hM.drew
  refine D.valF hA rfl (fun _ => R.move rfl) rfl ?_; clear hA a; intro a hA
  refine D.valF hA rfl (fun _ => R.move rfl) rfl ?_; clear hA a; intro a hA
  refine D.valF hA rfl (fun _ => R.move rfl) rfl ?_; clear hA a; intro a hA
  refine D.valF hA rfl (fun _ => R.move rfl) rfl ?_; clear hA a; intro a hA
  refine D.fork ?_ ?_
  ·
    refine D.make hA hM rfl Try.underlying126 info77 rfl rfl rfl (by omega) (by show (32 : Int) * _ ≤ _; omega) (by omega) rfl ?_; clear hA hM a; intro b1 w3 hb2 hM; refine ⟨(fun hM => (hM.drop 0)) hM.tail, fun a hA => ?_⟩
    replace hM : Mem _ _ [pt b1 ((madeCells #[.slice none 0 0, .int .i64 0] (n.toNat * 2))) 77, memO m c l s o] _ := hM
    refine D.make hA hM rfl Try.underlying95 info43 rfl rfl rfl (by omega) (by show (24 : Int) * _ ≤ _; omega) (by omega) rfl ?_; clear hA hM a; intro b3 w4 hb4 hM; refine ⟨(fun hM => ((hM.drop 1).drop 0)) hM.tail, fun a hA => ?_⟩
    replace hM : Mem _ _ [pt b3 (madeCells #[.slice none 0 0] (wk.toNat * 1)) 43, pt b1 ((madeCells #[.slice none 0 0, .int .i64 0] (n.toNat * 2))) 77, memO m c l s o] _ := hM
    rw [Nat.mul_one, made_vals] at hM
    replace hM : Mem _ _ [pt b3 ((vals (nils wk.toNat))) 43, pt b1 ((madeCells #[.slice none 0 0, .int .i64 0] (n.toNat * 2))) 77, memO m c l s o] _ := hM
    refine D.valF hA rfl (fun _ => R.build (cells := #[.pointer (some ⟨m, 0, none⟩), .int .i64 bs, .slice (some ⟨b1, 0, none⟩) n.toNat n.toNat, .slice (some ⟨b3, 0, none⟩) wk.toNat wk.toNat]) rfl (by kernel_rfl)) rfl ?_; clear hA a; intro a hA
    refine D.box hA hM rfl rfl rfl ?_; clear hA hM a; intro b5 w5 hb6 hM; refine ⟨(fun hM => (((hM.drop 2).drop 1).drop 0)) hM.tail, fun a hA => ?_⟩
    replace hM : Mem _ _ [pt b5 #[.pointer (some ⟨m, 0, none⟩), .int .i64 bs, .slice (some ⟨b1, 0, none⟩) n.toNat n.toNat, .slice (some ⟨b3, 0, none⟩) wk.toNat wk.toNat] 128, pt b3 ((vals (nils wk.toNat))) 43, pt b1 ((madeCells #[.slice none 0 0, .int .i64 0] (n.toNat * 2))) 77, memO m c l s o] _ := hM
    refine D.valF hA rfl (fun _ => R.assign rfl) rfl ?_; clear hA a; intro a hA
    refine D.done ?_
    replace hA : St 71 [(0, _), (1, _), (2, _), (8, _), (9, _), (11, _)] a := hA.sub ((.cons rfl (.cons rfl (.cons rfl (.cons rfl (.cons rfl (.cons rfl .nil)))))))
    refine Ends.seq ?_
    refine Ends.region ?_
    refine S.val hA (R.move rfl) rfl ?_; clear hA a; intro a hA
    refine S.val hA (R.move rfl) rfl ?_; clear hA a; intro a hA
    refine S.call hA (R.callF Try.func75 rfl rfl rfl) rfl (pack_in 0 0 (by omega) (by omega) _) ?_; clear hA a
    rintro e w6 ⟨rfl, rfl⟩
    refine ⟨.int .i64 1, rfl, fun a hA => ?_⟩
    refine S.call hA (R.callF Try.func67 rfl rfl rfl) rfl (set_ok m c l s o hmc bs 1 (by omega) (by omega) (by omega) _ (hM.mem (k := 3) rfl)) ?_; clear hA a
    rintro e w7 ⟨rfl, hn⟩
    replace hM : Mem _ _ [memO m c ((linkL l bs n 0)) (s + 1) ⟨2, bs, l.getD bs.toNat 0, 1, true⟩, pt b5 #[.pointer (some ⟨m, 0, none⟩), .int .i64 bs, .slice (some ⟨b1, 0, none⟩) n.toNat n.toNat, .slice (some ⟨b3, 0, none⟩) wk.toNat wk.toNat] 128, pt b3 ((vals (nils wk.toNat))) 43, pt b1 ((madeCells #[.slice none 0 0, .int .i64 0] (n.toNat * 2))) 77] _ := hM.callW (k := 3) rfl hn (fun _ h => h); clear hn
    refine ⟨.int .i64 0, rfl, fun a hA => ?_⟩
    refine S.done ?_
    replace hA : St 71 [(0, _), (2, _), (8, _), (9, _), (11, _)] a := hA.sub ((.cons rfl (.cons rfl (.cons rfl (.cons rfl (.cons rfl .nil))))))
    refine Ends.seq ?_
    refine Ends.seq ?_
    refine Ends.region ?_
    refine S.val hA (R.move rfl) rfl ?_; clear hA a; intro a hA
    refine S.val hA (R.move rfl) rfl ?_; clear hA a; intro a hA
    refine S.done ?_
    replace hA : St 71 [(0, _), (2, _), (8, _), (9, _), (11, _), (54, _), (55, _)] a := hA.sub ((.cons rfl (.cons rfl (.cons rfl (.cons rfl (.cons rfl (.cons rfl (.cons rfl .nil))))))))
    refine Ends.block ?_
    replace hM : Mem _ _ [memO m c ((linkL l bs n 0)) (s + 1 + ((0 : Nat) : Int)) ⟨2, bs, l.getD bs.toNat 0, 1, true⟩, pt b5 #[.pointer (some ⟨m, 0, none⟩), .int .i64 bs, .slice (some ⟨b1, 0, none⟩) n.toNat n.toNat, .slice (some ⟨b3, 0, none⟩) wk.toNat wk.toNat] 128, pt b3 ((vals (nils wk.toNat))) 43, pt b1 ((madeCells #[.slice none 0 0, .int .i64 0] (n.toNat * 2))) 77] _ := (show s + 1 + ((0 : Nat) : Int) = s + 1 by omega) ▸ hM
    refine Ends.loop (σ := Nat × CellOp) (fun (k, op) (a : Act) (wv : World) => St 71 [(0, .pointer (some ⟨m, 0, none⟩)), (2, .int .i64 n), (8, .pointer none), (9, .int .i64 0), (11, .pointer (some ⟨b5, 0, none⟩)), (54, .int .i64 n), (55, .int .i64 ((k : Int)))] a ∧ Mem w (feet [memO m c l s o]) [memO m c ((linkL l bs n k)) (s + 1 + k) op, pt b5 #[.pointer (some ⟨m, 0, none⟩), .int .i64 bs, .slice (some ⟨b1, 0, none⟩) n.toNat n.toNat, .slice (some ⟨b3, 0, none⟩) wk.toNat wk.toNat] 128, pt b3 ((vals (nils wk.toNat))) 43, pt b1 ((madeCells #[.slice none 0 0, .int .i64 0] (n.toNat * 2))) 77] wv ∧ ((k : Int) ≤ n)) (fun (k, op) => n.toNat - k) ((0, ⟨2, bs, l.getD bs.toNat 0, 1, true⟩)) ⟨hA.sub ((.cons rfl (.cons rfl (.cons rfl (.cons rfl (.cons rfl (.cons rfl (.cons rfl .nil)))))))), hM, (by omega)⟩ ?_
    clear hA hM a
    rintro ⟨k, op⟩ a w8 ⟨hA, hM, hk⟩ hNext
    refine Ends.seq ?_
    refine Ends.region ?_
    refine S.val hA (R.lss rfl rfl) rfl ?_; clear hA a; intro a hA
    refine S.done ?_
    replace hA : St 71 [(0, _), (2, _), (8, _), (9, _), (11, _), (54, _), (55, _), (56, _)] a := hA.sub ((.cons rfl (.cons rfl (.cons rfl (.cons rfl (.cons rfl (.cons rfl (.cons rfl (.cons rfl .nil)))))))))
    refine Ends.seq ?_
    refine Ends.ite hA rfl (fun hc7 => ?_) (fun hc7 => ?_)
    ·
      refine Ends.skip ?_
      refine Ends.seq ?_
      refine Ends.block ?_
      refine Ends.seq ?_
      refine Ends.region ?_
      refine S.val hA (R.move rfl) rfl ?_; clear hA a; intro a hA
      refine S.val hA (R.assign rfl) rfl ?_; clear hA a; intro a hA
      refine S.done ?_
      replace hA : St 71 [(0, _), (2, _), (8, _), (9, _), (11, _), (12, _), (54, _), (55, _), (56, _), (57, _)] a := hA.sub ((.cons rfl (.cons rfl (.cons rfl (.cons rfl (.cons rfl (.cons rfl (.cons rfl (.cons rfl (.cons rfl (.cons rfl .nil)))))))))))
      refine Ends.seq ?_
      refine Ends.region ?_
      refine S.val hA (R.move rfl) rfl ?_; clear hA a; intro a hA
      refine S.val hA (R.addI rfl rfl (r := ((k : Int)) + 1) rfl (by omega)) rfl ?_; clear hA a; intro a hA
      refine S.val hA (R.assign rfl) rfl ?_; clear hA a; intro a hA
      refine S.done ?_
      replace hA : St 71 [(0, _), (2, _), (8, _), (9, _), (11, _), (12, _), (13, _), (54, _), (55, _), (56, _), (57, _), (58, _), (59, _)] a := hA.sub ((.cons rfl (.cons rfl (.cons rfl (.cons rfl (.cons rfl (.cons rfl (.cons rfl (.cons rfl (.cons rfl (.cons rfl (.cons rfl (.cons rfl (.cons rfl .nil))))))))))))))
      refine Ends.seq ?_
      refine Ends.seq ?_
      refine Ends.region ?_
      refine S.val hA (R.move rfl) rfl ?_; clear hA a; intro a hA
      refine S.val hA (R.move rfl) rfl ?_; clear hA a; intro a hA
      refine S.val hA (R.eql rfl rfl) rfl ?_; clear hA a; intro a hA
      refine S.done ?_
      replace hA : St 71 [(0, _), (2, _), (8, _), (9, _), (11, _), (12, _), (13, _), (54, _), (55, _), (56, _), (57, _), (58, _), (59, _), (60, _), (61, _), (62, _)] a := hA.sub ((.cons rfl (.cons rfl (.cons rfl (.cons rfl (.cons rfl (.cons rfl (.cons rfl (.cons rfl (.cons rfl (.cons rfl (.cons rfl (.cons rfl (.cons rfl (.cons rfl (.cons rfl (.cons rfl .nil)))))))))))))))))
      refine Ends.ite hA rfl (fun hc8 => ?_) (fun hc8 => ?_)
      ·
        refine Ends.region ?_
        refine S.val hA (R.assign rfl) rfl ?_; clear hA a; intro a hA
        refine S.done ?_
        replace hA : St 71 [(0, _), (2, _), (8, _), (9, _), (11, _), (12, _), (13, _), (54, _), (55, _), (56, _), (57, _), (58, _), (59, _), (60, _), (61, _), (62, _)] a := hA.sub ((.cons rfl (.cons rfl (.cons rfl (.cons rfl (.cons rfl (.cons rfl (.cons rfl (.cons rfl (.cons rfl (.cons rfl (.cons rfl (.cons rfl (.cons rfl (.cons rfl (.cons rfl (.cons rfl .nil)))))))))))))))))
        refine Ends.region ?_
        refine S.val hA (R.move rfl) rfl ?_; clear hA a; intro a hA
        refine S.val hA (R.move rfl) rfl ?_; clear hA a; intro a hA
        refine S.val hA (R.move rfl) rfl ?_; clear hA a; intro a hA
        refine S.call hA (R.callF Try.func76 rfl rfl rfl) rfl (plink b5 m b1 b3 n.toNat wk.toNat bs ((k : Int)) (by omega) (by omega) _ (hM.block (k := 1) rfl)) ?_; clear hA a
        rintro e w9 ⟨rfl, rfl⟩
        refine ⟨.int .i64 (bs + 1 + ((k : Int))), rfl, fun a hA => ?_⟩
        refine S.val hA (R.move rfl) rfl ?_; clear hA a; intro a hA
        refine S.call hA (R.callF Try.func67 rfl rfl rfl) rfl (set_ok m c ((linkL l bs n k)) (s + 1 + k) op hmc (bs + 1 + ((k : Int))) (-1) (by omega) (by rw [linkL_len]; omega) (by omega) _ (hM.mem (k := 0) rfl)) ?_; clear hA a
        rintro e w10 ⟨rfl, hn⟩
        replace hM : Mem _ _ [memO m c (((linkL l bs n k).set (bs + 1 + ((k : Int))).toNat (-1))) (s + 1 + k + 1) ⟨2, bs + 1 + ((k : Int)), (linkL l bs n k).getD (bs + 1 + ((k : Int))).toNat 0, -1, true⟩, pt b5 #[.pointer (some ⟨m, 0, none⟩), .int .i64 bs, .slice (some ⟨b1, 0, none⟩) n.toNat n.toNat, .slice (some ⟨b3, 0, none⟩) wk.toNat wk.toNat] 128, pt b3 ((vals (nils wk.toNat))) 43, pt b1 ((madeCells #[.slice none 0 0, .int .i64 0] (n.toNat * 2))) 77] _ := hM.callW (k := 0) rfl hn (fun _ h => h); clear hn
        refine ⟨.int .i64 0, rfl, fun a hA => ?_⟩
        refine S.done ?_
        replace hA : St 71 [(0, _), (2, _), (8, _), (9, _), (11, _), (12, _), (13, _), (54, _), (55, _), (56, _), (57, _), (58, _), (59, _), (60, _), (61, _), (62, _), (63, _), (64, _), (65, _), (66, _), (67, _)] a := hA.sub ((.cons rfl (.cons rfl (.cons rfl (.cons rfl (.cons rfl (.cons rfl (.cons rfl (.cons rfl (.cons rfl (.cons rfl (.cons rfl (.cons rfl (.cons rfl (.cons rfl (.cons rfl (.cons rfl (.cons rfl (.cons rfl (.cons rfl (.cons rfl (.cons rfl .nil))))))))))))))))))))))
        refine Ends.inBlock ?_
        refine Ends.region ?_
        refine S.val hA (R.addI rfl rfl (r := ((k : Int)) + 1) rfl (by omega)) rfl ?_; clear hA a; intro a hA
        refine S.val hA (R.move rfl) rfl ?_; clear hA a; intro a hA
        refine S.done ?_
        replace hA : St 71 [(0, _), (2, _), (8, _), (9, _), (11, _), (12, _), (13, _), (54, _), (55, _), (56, _), (57, _), (58, _), (59, _), (60, _), (61, _), (62, _), (63, _), (64, _), (65, _), (66, _), (67, _), (69, _)] a := hA.sub ((.cons rfl (.cons rfl (.cons rfl (.cons rfl (.cons rfl (.cons rfl (.cons rfl (.cons rfl (.cons rfl (.cons rfl (.cons rfl (.cons rfl (.cons rfl (.cons rfl (.cons rfl (.cons rfl (.cons rfl (.cons rfl (.cons rfl (.cons rfl (.cons rfl (.cons rfl .nil)))))))))))))))))))))))
        rw [show ((linkL l bs n k).set (bs + 1 + ((k : Int))).toNat (-1)) = linkL l bs n (k + 1) by rw [linkL_succ, if_pos (by omega)], show s + 1 + (k : Int) + 1 = s + 1 + ((k + 1 : Nat) : Int) by omega] at hM
        exact hNext ((k + 1, ⟨2, bs + 1 + ((k : Int)), (linkL l bs n k).getD (bs + 1 + ((k : Int))).toNat 0, -1, true⟩)) _ _ ((by show n.toNat - (k + 1) < n.toNat - k; omega)) ⟨hA.sub ((.cons rfl (.cons rfl (.cons rfl (.cons rfl (.cons rfl (.cons rfl (.cons rfl .nil)))))))), hM, (by omega)⟩
      ·
        refine Ends.skip ?_
        refine Ends.region ?_
        refine S.val hA (R.move rfl) rfl ?_; clear hA a; intro a hA
        refine S.val hA (R.move rfl) rfl ?_; clear hA a; intro a hA
        refine S.val hA (R.move rfl) rfl ?_; clear hA a; intro a hA
        refine S.call hA (R.callF Try.func76 rfl rfl rfl) rfl (plink b5 m b1 b3 n.toNat wk.toNat bs ((k : Int)) (by omega) (by omega) _ (hM.block (k := 1) rfl)) ?_; clear hA a
        rintro e w11 ⟨rfl, rfl⟩
        refine ⟨.int .i64 (bs + 1 + ((k : Int))), rfl, fun a hA => ?_⟩
        refine S.val hA (R.move rfl) rfl ?_; clear hA a; intro a hA
        refine S.call hA (R.callF Try.func67 rfl rfl rfl) rfl (set_ok m c ((linkL l bs n k)) (s + 1 + k) op hmc (bs + 1 + ((k : Int))) (((k : Int)) + 1) (by omega) (by rw [linkL_len]; omega) (by omega) _ (hM.mem (k := 0) rfl)) ?_; clear hA a
        rintro e w12 ⟨rfl, hn⟩
        replace hM : Mem _ _ [memO m c (((linkL l bs n k).set (bs + 1 + ((k : Int))).toNat (((k : Int)) + 1))) (s + 1 + k + 1) ⟨2, bs + 1 + ((k : Int)), (linkL l bs n k).getD (bs + 1 + ((k : Int))).toNat 0, ((k : Int)) + 1, true⟩, pt b5 #[.pointer (some ⟨m, 0, none⟩), .int .i64 bs, .slice (some ⟨b1, 0, none⟩) n.toNat n.toNat, .slice (some ⟨b3, 0, none⟩) wk.toNat wk.toNat] 128, pt b3 ((vals (nils wk.toNat))) 43, pt b1 ((madeCells #[.slice none 0 0, .int .i64 0] (n.toNat * 2))) 77] _ := hM.callW (k := 0) rfl hn (fun _ h => h); clear hn
        refine ⟨.int .i64 0, rfl, fun a hA => ?_⟩
        refine S.done ?_
        replace hA : St 71 [(0, _), (2, _), (8, _), (9, _), (11, _), (12, _), (13, _), (54, _), (55, _), (56, _), (57, _), (58, _), (59, _), (60, _), (61, _), (62, _), (63, _), (64, _), (65, _), (66, _), (67, _)] a := hA.sub ((.cons rfl (.cons rfl (.cons rfl (.cons rfl (.cons rfl (.cons rfl (.cons rfl (.cons rfl (.cons rfl (.cons rfl (.cons rfl (.cons rfl (.cons rfl (.cons rfl (.cons rfl (.cons rfl (.cons rfl (.cons rfl (.cons rfl (.cons rfl (.cons rfl .nil))))))))))))))))))))))
        refine Ends.inBlock ?_
        refine Ends.region ?_
        refine S.val hA (R.addI rfl rfl (r := ((k : Int)) + 1) rfl (by omega)) rfl ?_; clear hA a; intro a hA
        refine S.val hA (R.move rfl) rfl ?_; clear hA a; intro a hA
        refine S.done ?_
        replace hA : St 71 [(0, _), (2, _), (8, _), (9, _), (11, _), (12, _), (13, _), (54, _), (55, _), (56, _), (57, _), (58, _), (59, _), (60, _), (61, _), (62, _), (63, _), (64, _), (65, _), (66, _), (67, _), (69, _)] a := hA.sub ((.cons rfl (.cons rfl (.cons rfl (.cons rfl (.cons rfl (.cons rfl (.cons rfl (.cons rfl (.cons rfl (.cons rfl (.cons rfl (.cons rfl (.cons rfl (.cons rfl (.cons rfl (.cons rfl (.cons rfl (.cons rfl (.cons rfl (.cons rfl (.cons rfl (.cons rfl .nil)))))))))))))))))))))))
        rw [show ((linkL l bs n k).set (bs + 1 + ((k : Int))).toNat (((k : Int)) + 1)) = linkL l bs n (k + 1) by rw [linkL_succ, if_neg (by omega)], show s + 1 + (k : Int) + 1 = s + 1 + ((k + 1 : Nat) : Int) by omega] at hM
        exact hNext ((k + 1, ⟨2, bs + 1 + ((k : Int)), (linkL l bs n k).getD (bs + 1 + ((k : Int))).toNat 0, ((k : Int)) + 1, true⟩)) _ _ ((by show n.toNat - (k + 1) < n.toNat - k; omega)) ⟨hA.sub ((.cons rfl (.cons rfl (.cons rfl (.cons rfl (.cons rfl (.cons rfl (.cons rfl .nil)))))))), hM, (by omega)⟩
    ·
      have hkn : k = n.toNat := by omega
      subst hkn
      refine Ends.exit rfl ?_
      replace hA : St 71 [(8, _), (9, _), (11, _)] a := hA.sub ((.cons rfl (.cons rfl (.cons rfl .nil))))
      refine Ends.seq ?_
      refine Ends.region ?_
      refine S.val hA (R.move rfl) rfl ?_; clear hA a; intro a hA
      refine S.val hA (R.assign rfl) rfl ?_; clear hA a; intro a hA
      refine S.val hA (R.assign rfl) rfl ?_; clear hA a; intro a hA
      refine S.done ?_
      replace hA : St 71 [(8, _), (9, _)] a := hA.sub ((.cons rfl (.cons rfl .nil)))
      refine Ends.ret2 Try.func47 Try.results47 hA rfl rfl ?_
      replace hM := hM.front (k := 2) rfl
      replace hM := hM.front (k := 3) rfl
      replace hM := hM.front (k := 3) rfl
      replace hM : Mem _ _ [pt b5 #[.pointer (some ⟨m, 0, none⟩), .int .i64 bs, .slice (some ⟨b1, 0, none⟩) n.toNat n.toNat, .slice (some ⟨b3, 0, none⟩) wk.toNat wk.toNat] 128, pt b1 ((madeCells #[.slice none 0 0, .int .i64 0] (n.toNat * 2))) 77, pt b3 ((vals (nils wk.toNat))) 43, memO m c ((linkL l bs n n.toNat)) (s + 1 + ((n.toNat : Nat) : Int)) op] _ := hM
      rw [show s + 1 + ((n.toNat : Nat) : Int) = s + 1 + n by omega] at hM
      exact ⟨_, _, _, _, rfl, hM⟩
  ·
    refine D.make hA hM rfl Try.underlying95 info43 rfl rfl rfl (by omega) (by show (24 : Int) * _ ≤ _; omega) (by omega) rfl ?_; clear hA hM a; intro b9 w13 hb10 hM; refine ⟨(fun hM => (hM.drop 0)) hM.tail, fun a hA => ?_⟩
    replace hM : Mem _ _ [pt b9 (madeCells #[.slice none 0 0] (wk.toNat * 1)) 43, memO m c l s o] _ := hM
    rw [Nat.mul_one, made_vals] at hM
    replace hM : Mem _ _ [pt b9 ((vals (nils wk.toNat))) 43, memO m c l s o] _ := hM
    refine D.make hA hM rfl Try.underlying126 info77 rfl rfl rfl (by omega) (by show (32 : Int) * _ ≤ _; omega) (by omega) rfl ?_; clear hA hM a; intro b11 w14 hb12 hM; refine ⟨(fun hM => ((hM.drop 1).drop 0)) hM.tail, fun a hA => ?_⟩
    replace hM : Mem _ _ [pt b11 ((madeCells #[.slice none 0 0, .int .i64 0] (n.toNat * 2))) 77, pt b9 ((vals (nils wk.toNat))) 43, memO m c l s o] _ := hM
    refine D.valF hA rfl (fun _ => R.build (cells := #[.pointer (some ⟨m, 0, none⟩), .int .i64 bs, .slice (some ⟨b11, 0, none⟩) n.toNat n.toNat, .slice (some ⟨b9, 0, none⟩) wk.toNat wk.toNat]) rfl (by kernel_rfl)) rfl ?_; clear hA a; intro a hA
    refine D.box hA hM rfl rfl rfl ?_; clear hA hM a; intro b13 w15 hb14 hM; refine ⟨(fun hM => (((hM.drop 2).drop 1).drop 0)) hM.tail, fun a hA => ?_⟩
    replace hM : Mem _ _ [pt b13 #[.pointer (some ⟨m, 0, none⟩), .int .i64 bs, .slice (some ⟨b11, 0, none⟩) n.toNat n.toNat, .slice (some ⟨b9, 0, none⟩) wk.toNat wk.toNat] 128, pt b11 ((madeCells #[.slice none 0 0, .int .i64 0] (n.toNat * 2))) 77, pt b9 ((vals (nils wk.toNat))) 43, memO m c l s o] _ := hM
    refine D.valF hA rfl (fun _ => R.assign rfl) rfl ?_; clear hA a; intro a hA
    refine D.done ?_
    replace hA : St 71 [(0, _), (1, _), (2, _), (8, _), (9, _), (11, _)] a := hA.sub ((.cons rfl (.cons rfl (.cons rfl (.cons rfl (.cons rfl (.cons rfl .nil)))))))
    refine Ends.seq ?_
    refine Ends.region ?_
    refine S.val hA (R.move rfl) rfl ?_; clear hA a; intro a hA
    refine S.val hA (R.move rfl) rfl ?_; clear hA a; intro a hA
    refine S.call hA (R.callF Try.func75 rfl rfl rfl) rfl (pack_in 0 0 (by omega) (by omega) _) ?_; clear hA a
    rintro e w16 ⟨rfl, rfl⟩
    refine ⟨.int .i64 1, rfl, fun a hA => ?_⟩
    refine S.call hA (R.callF Try.func67 rfl rfl rfl) rfl (set_ok m c l s o hmc bs 1 (by omega) (by omega) (by omega) _ (hM.mem (k := 3) rfl)) ?_; clear hA a
    rintro e w17 ⟨rfl, hn⟩
    replace hM : Mem _ _ [memO m c ((linkL l bs n 0)) (s + 1) ⟨2, bs, l.getD bs.toNat 0, 1, true⟩, pt b13 #[.pointer (some ⟨m, 0, none⟩), .int .i64 bs, .slice (some ⟨b11, 0, none⟩) n.toNat n.toNat, .slice (some ⟨b9, 0, none⟩) wk.toNat wk.toNat] 128, pt b11 ((madeCells #[.slice none 0 0, .int .i64 0] (n.toNat * 2))) 77, pt b9 ((vals (nils wk.toNat))) 43] _ := hM.callW (k := 3) rfl hn (fun _ h => h); clear hn
    refine ⟨.int .i64 0, rfl, fun a hA => ?_⟩
    refine S.done ?_
    replace hA : St 71 [(0, _), (2, _), (8, _), (9, _), (11, _)] a := hA.sub ((.cons rfl (.cons rfl (.cons rfl (.cons rfl (.cons rfl .nil))))))
    refine Ends.seq ?_
    refine Ends.seq ?_
    refine Ends.region ?_
    refine S.val hA (R.move rfl) rfl ?_; clear hA a; intro a hA
    refine S.val hA (R.move rfl) rfl ?_; clear hA a; intro a hA
    refine S.done ?_
    replace hA : St 71 [(0, _), (2, _), (8, _), (9, _), (11, _), (54, _), (55, _)] a := hA.sub ((.cons rfl (.cons rfl (.cons rfl (.cons rfl (.cons rfl (.cons rfl (.cons rfl .nil))))))))
    refine Ends.block ?_
    replace hM : Mem _ _ [memO m c ((linkL l bs n 0)) (s + 1 + ((0 : Nat) : Int)) ⟨2, bs, l.getD bs.toNat 0, 1, true⟩, pt b13 #[.pointer (some ⟨m, 0, none⟩), .int .i64 bs, .slice (some ⟨b11, 0, none⟩) n.toNat n.toNat, .slice (some ⟨b9, 0, none⟩) wk.toNat wk.toNat] 128, pt b11 ((madeCells #[.slice none 0 0, .int .i64 0] (n.toNat * 2))) 77, pt b9 ((vals (nils wk.toNat))) 43] _ := (show s + 1 + ((0 : Nat) : Int) = s + 1 by omega) ▸ hM
    refine Ends.loop (σ := Nat × CellOp) (fun (k, op) (a : Act) (wv : World) => St 71 [(0, .pointer (some ⟨m, 0, none⟩)), (2, .int .i64 n), (8, .pointer none), (9, .int .i64 0), (11, .pointer (some ⟨b13, 0, none⟩)), (54, .int .i64 n), (55, .int .i64 ((k : Int)))] a ∧ Mem w (feet [memO m c l s o]) [memO m c ((linkL l bs n k)) (s + 1 + k) op, pt b13 #[.pointer (some ⟨m, 0, none⟩), .int .i64 bs, .slice (some ⟨b11, 0, none⟩) n.toNat n.toNat, .slice (some ⟨b9, 0, none⟩) wk.toNat wk.toNat] 128, pt b11 ((madeCells #[.slice none 0 0, .int .i64 0] (n.toNat * 2))) 77, pt b9 ((vals (nils wk.toNat))) 43] wv ∧ ((k : Int) ≤ n)) (fun (k, op) => n.toNat - k) ((0, ⟨2, bs, l.getD bs.toNat 0, 1, true⟩)) ⟨hA.sub ((.cons rfl (.cons rfl (.cons rfl (.cons rfl (.cons rfl (.cons rfl (.cons rfl .nil)))))))), hM, (by omega)⟩ ?_
    clear hA hM a
    rintro ⟨k, op⟩ a w18 ⟨hA, hM, hk⟩ hNext
    refine Ends.seq ?_
    refine Ends.region ?_
    refine S.val hA (R.lss rfl rfl) rfl ?_; clear hA a; intro a hA
    refine S.done ?_
    replace hA : St 71 [(0, _), (2, _), (8, _), (9, _), (11, _), (54, _), (55, _), (56, _)] a := hA.sub ((.cons rfl (.cons rfl (.cons rfl (.cons rfl (.cons rfl (.cons rfl (.cons rfl (.cons rfl .nil)))))))))
    refine Ends.seq ?_
    refine Ends.ite hA rfl (fun hc15 => ?_) (fun hc15 => ?_)
    ·
      refine Ends.skip ?_
      refine Ends.seq ?_
      refine Ends.block ?_
      refine Ends.seq ?_
      refine Ends.region ?_
      refine S.val hA (R.move rfl) rfl ?_; clear hA a; intro a hA
      refine S.val hA (R.assign rfl) rfl ?_; clear hA a; intro a hA
      refine S.done ?_
      replace hA : St 71 [(0, _), (2, _), (8, _), (9, _), (11, _), (12, _), (54, _), (55, _), (56, _), (57, _)] a := hA.sub ((.cons rfl (.cons rfl (.cons rfl (.cons rfl (.cons rfl (.cons rfl (.cons rfl (.cons rfl (.cons rfl (.cons rfl .nil)))))))))))
      refine Ends.seq ?_
      refine Ends.region ?_
      refine S.val hA (R.move rfl) rfl ?_; clear hA a; intro a hA
      refine S.val hA (R.addI rfl rfl (r := ((k : Int)) + 1) rfl (by omega)) rfl ?_; clear hA a; intro a hA
      refine S.val hA (R.assign rfl) rfl ?_; clear hA a; intro a hA
      refine S.done ?_
      replace hA : St 71 [(0, _), (2, _), (8, _), (9, _), (11, _), (12, _), (13, _), (54, _), (55, _), (56, _), (57, _), (58, _), (59, _)] a := hA.sub ((.cons rfl (.cons rfl (.cons rfl (.cons rfl (.cons rfl (.cons rfl (.cons rfl (.cons rfl (.cons rfl (.cons rfl (.cons rfl (.cons rfl (.cons rfl .nil))))))))))))))
      refine Ends.seq ?_
      refine Ends.seq ?_
      refine Ends.region ?_
      refine S.val hA (R.move rfl) rfl ?_; clear hA a; intro a hA
      refine S.val hA (R.move rfl) rfl ?_; clear hA a; intro a hA
      refine S.val hA (R.eql rfl rfl) rfl ?_; clear hA a; intro a hA
      refine S.done ?_
      replace hA : St 71 [(0, _), (2, _), (8, _), (9, _), (11, _), (12, _), (13, _), (54, _), (55, _), (56, _), (57, _), (58, _), (59, _), (60, _), (61, _), (62, _)] a := hA.sub ((.cons rfl (.cons rfl (.cons rfl (.cons rfl (.cons rfl (.cons rfl (.cons rfl (.cons rfl (.cons rfl (.cons rfl (.cons rfl (.cons rfl (.cons rfl (.cons rfl (.cons rfl (.cons rfl .nil)))))))))))))))))
      refine Ends.ite hA rfl (fun hc16 => ?_) (fun hc16 => ?_)
      ·
        refine Ends.region ?_
        refine S.val hA (R.assign rfl) rfl ?_; clear hA a; intro a hA
        refine S.done ?_
        replace hA : St 71 [(0, _), (2, _), (8, _), (9, _), (11, _), (12, _), (13, _), (54, _), (55, _), (56, _), (57, _), (58, _), (59, _), (60, _), (61, _), (62, _)] a := hA.sub ((.cons rfl (.cons rfl (.cons rfl (.cons rfl (.cons rfl (.cons rfl (.cons rfl (.cons rfl (.cons rfl (.cons rfl (.cons rfl (.cons rfl (.cons rfl (.cons rfl (.cons rfl (.cons rfl .nil)))))))))))))))))
        refine Ends.region ?_
        refine S.val hA (R.move rfl) rfl ?_; clear hA a; intro a hA
        refine S.val hA (R.move rfl) rfl ?_; clear hA a; intro a hA
        refine S.val hA (R.move rfl) rfl ?_; clear hA a; intro a hA
        refine S.call hA (R.callF Try.func76 rfl rfl rfl) rfl (plink b13 m b11 b9 n.toNat wk.toNat bs ((k : Int)) (by omega) (by omega) _ (hM.block (k := 1) rfl)) ?_; clear hA a
        rintro e w19 ⟨rfl, rfl⟩
        refine ⟨.int .i64 (bs + 1 + ((k : Int))), rfl, fun a hA => ?_⟩
        refine S.val hA (R.move rfl) rfl ?_; clear hA a; intro a hA
        refine S.call hA (R.callF Try.func67 rfl rfl rfl) rfl (set_ok m c ((linkL l bs n k)) (s + 1 + k) op hmc (bs + 1 + ((k : Int))) (-1) (by omega) (by rw [linkL_len]; omega) (by omega) _ (hM.mem (k := 0) rfl)) ?_; clear hA a
        rintro e w20 ⟨rfl, hn⟩
        replace hM : Mem _ _ [memO m c (((linkL l bs n k).set (bs + 1 + ((k : Int))).toNat (-1))) (s + 1 + k + 1) ⟨2, bs + 1 + ((k : Int)), (linkL l bs n k).getD (bs + 1 + ((k : Int))).toNat 0, -1, true⟩, pt b13 #[.pointer (some ⟨m, 0, none⟩), .int .i64 bs, .slice (some ⟨b11, 0, none⟩) n.toNat n.toNat, .slice (some ⟨b9, 0, none⟩) wk.toNat wk.toNat] 128, pt b11 ((madeCells #[.slice none 0 0, .int .i64 0] (n.toNat * 2))) 77, pt b9 ((vals (nils wk.toNat))) 43] _ := hM.callW (k := 0) rfl hn (fun _ h => h); clear hn
        refine ⟨.int .i64 0, rfl, fun a hA => ?_⟩
        refine S.done ?_
        replace hA : St 71 [(0, _), (2, _), (8, _), (9, _), (11, _), (12, _), (13, _), (54, _), (55, _), (56, _), (57, _), (58, _), (59, _), (60, _), (61, _), (62, _), (63, _), (64, _), (65, _), (66, _), (67, _)] a := hA.sub ((.cons rfl (.cons rfl (.cons rfl (.cons rfl (.cons rfl (.cons rfl (.cons rfl (.cons rfl (.cons rfl (.cons rfl (.cons rfl (.cons rfl (.cons rfl (.cons rfl (.cons rfl (.cons rfl (.cons rfl (.cons rfl (.cons rfl (.cons rfl (.cons rfl .nil))))))))))))))))))))))
        refine Ends.inBlock ?_
        refine Ends.region ?_
        refine S.val hA (R.addI rfl rfl (r := ((k : Int)) + 1) rfl (by omega)) rfl ?_; clear hA a; intro a hA
        refine S.val hA (R.move rfl) rfl ?_; clear hA a; intro a hA
        refine S.done ?_
        replace hA : St 71 [(0, _), (2, _), (8, _), (9, _), (11, _), (12, _), (13, _), (54, _), (55, _), (56, _), (57, _), (58, _), (59, _), (60, _), (61, _), (62, _), (63, _), (64, _), (65, _), (66, _), (67, _), (69, _)] a := hA.sub ((.cons rfl (.cons rfl (.cons rfl (.cons rfl (.cons rfl (.cons rfl (.cons rfl (.cons rfl (.cons rfl (.cons rfl (.cons rfl (.cons rfl (.cons rfl (.cons rfl (.cons rfl (.cons rfl (.cons rfl (.cons rfl (.cons rfl (.cons rfl (.cons rfl (.cons rfl .nil)))))))))))))))))))))))
        rw [show ((linkL l bs n k).set (bs + 1 + ((k : Int))).toNat (-1)) = linkL l bs n (k + 1) by rw [linkL_succ, if_pos (by omega)], show s + 1 + (k : Int) + 1 = s + 1 + ((k + 1 : Nat) : Int) by omega] at hM
        exact hNext ((k + 1, ⟨2, bs + 1 + ((k : Int)), (linkL l bs n k).getD (bs + 1 + ((k : Int))).toNat 0, -1, true⟩)) _ _ ((by show n.toNat - (k + 1) < n.toNat - k; omega)) ⟨hA.sub ((.cons rfl (.cons rfl (.cons rfl (.cons rfl (.cons rfl (.cons rfl (.cons rfl .nil)))))))), hM, (by omega)⟩
      ·
        refine Ends.skip ?_
        refine Ends.region ?_
        refine S.val hA (R.move rfl) rfl ?_; clear hA a; intro a hA
        refine S.val hA (R.move rfl) rfl ?_; clear hA a; intro a hA
        refine S.val hA (R.move rfl) rfl ?_; clear hA a; intro a hA
        refine S.call hA (R.callF Try.func76 rfl rfl rfl) rfl (plink b13 m b11 b9 n.toNat wk.toNat bs ((k : Int)) (by omega) (by omega) _ (hM.block (k := 1) rfl)) ?_; clear hA a
        rintro e w21 ⟨rfl, rfl⟩
        refine ⟨.int .i64 (bs + 1 + ((k : Int))), rfl, fun a hA => ?_⟩
        refine S.val hA (R.move rfl) rfl ?_; clear hA a; intro a hA
        refine S.call hA (R.callF Try.func67 rfl rfl rfl) rfl (set_ok m c ((linkL l bs n k)) (s + 1 + k) op hmc (bs + 1 + ((k : Int))) (((k : Int)) + 1) (by omega) (by rw [linkL_len]; omega) (by omega) _ (hM.mem (k := 0) rfl)) ?_; clear hA a
        rintro e w22 ⟨rfl, hn⟩
        replace hM : Mem _ _ [memO m c (((linkL l bs n k).set (bs + 1 + ((k : Int))).toNat (((k : Int)) + 1))) (s + 1 + k + 1) ⟨2, bs + 1 + ((k : Int)), (linkL l bs n k).getD (bs + 1 + ((k : Int))).toNat 0, ((k : Int)) + 1, true⟩, pt b13 #[.pointer (some ⟨m, 0, none⟩), .int .i64 bs, .slice (some ⟨b11, 0, none⟩) n.toNat n.toNat, .slice (some ⟨b9, 0, none⟩) wk.toNat wk.toNat] 128, pt b11 ((madeCells #[.slice none 0 0, .int .i64 0] (n.toNat * 2))) 77, pt b9 ((vals (nils wk.toNat))) 43] _ := hM.callW (k := 0) rfl hn (fun _ h => h); clear hn
        refine ⟨.int .i64 0, rfl, fun a hA => ?_⟩
        refine S.done ?_
        replace hA : St 71 [(0, _), (2, _), (8, _), (9, _), (11, _), (12, _), (13, _), (54, _), (55, _), (56, _), (57, _), (58, _), (59, _), (60, _), (61, _), (62, _), (63, _), (64, _), (65, _), (66, _), (67, _)] a := hA.sub ((.cons rfl (.cons rfl (.cons rfl (.cons rfl (.cons rfl (.cons rfl (.cons rfl (.cons rfl (.cons rfl (.cons rfl (.cons rfl (.cons rfl (.cons rfl (.cons rfl (.cons rfl (.cons rfl (.cons rfl (.cons rfl (.cons rfl (.cons rfl (.cons rfl .nil))))))))))))))))))))))
        refine Ends.inBlock ?_
        refine Ends.region ?_
        refine S.val hA (R.addI rfl rfl (r := ((k : Int)) + 1) rfl (by omega)) rfl ?_; clear hA a; intro a hA
        refine S.val hA (R.move rfl) rfl ?_; clear hA a; intro a hA
        refine S.done ?_
        replace hA : St 71 [(0, _), (2, _), (8, _), (9, _), (11, _), (12, _), (13, _), (54, _), (55, _), (56, _), (57, _), (58, _), (59, _), (60, _), (61, _), (62, _), (63, _), (64, _), (65, _), (66, _), (67, _), (69, _)] a := hA.sub ((.cons rfl (.cons rfl (.cons rfl (.cons rfl (.cons rfl (.cons rfl (.cons rfl (.cons rfl (.cons rfl (.cons rfl (.cons rfl (.cons rfl (.cons rfl (.cons rfl (.cons rfl (.cons rfl (.cons rfl (.cons rfl (.cons rfl (.cons rfl (.cons rfl (.cons rfl .nil)))))))))))))))))))))))
        rw [show ((linkL l bs n k).set (bs + 1 + ((k : Int))).toNat (((k : Int)) + 1)) = linkL l bs n (k + 1) by rw [linkL_succ, if_neg (by omega)], show s + 1 + (k : Int) + 1 = s + 1 + ((k + 1 : Nat) : Int) by omega] at hM
        exact hNext ((k + 1, ⟨2, bs + 1 + ((k : Int)), (linkL l bs n k).getD (bs + 1 + ((k : Int))).toNat 0, ((k : Int)) + 1, true⟩)) _ _ ((by show n.toNat - (k + 1) < n.toNat - k; omega)) ⟨hA.sub ((.cons rfl (.cons rfl (.cons rfl (.cons rfl (.cons rfl (.cons rfl (.cons rfl .nil)))))))), hM, (by omega)⟩
    ·
      have hkn : k = n.toNat := by omega
      subst hkn
      refine Ends.exit rfl ?_
      replace hA : St 71 [(8, _), (9, _), (11, _)] a := hA.sub ((.cons rfl (.cons rfl (.cons rfl .nil))))
      refine Ends.seq ?_
      refine Ends.region ?_
      refine S.val hA (R.move rfl) rfl ?_; clear hA a; intro a hA
      refine S.val hA (R.assign rfl) rfl ?_; clear hA a; intro a hA
      refine S.val hA (R.assign rfl) rfl ?_; clear hA a; intro a hA
      refine S.done ?_
      replace hA : St 71 [(8, _), (9, _)] a := hA.sub ((.cons rfl (.cons rfl .nil)))
      refine Ends.ret2 Try.func47 Try.results47 hA rfl rfl ?_
      replace hM := hM.front (k := 3) rfl
      replace hM := hM.front (k := 3) rfl
      replace hM := hM.front (k := 3) rfl
      replace hM : Mem _ _ [pt b13 #[.pointer (some ⟨m, 0, none⟩), .int .i64 bs, .slice (some ⟨b11, 0, none⟩) n.toNat n.toNat, .slice (some ⟨b9, 0, none⟩) wk.toNat wk.toNat] 128, pt b11 ((madeCells #[.slice none 0 0, .int .i64 0] (n.toNat * 2))) 77, pt b9 ((vals (nils wk.toNat))) 43, memO m c ((linkL l bs n n.toNat)) (s + 1 + ((n.toNat : Nat) : Int)) op] _ := hM
      rw [show s + 1 + ((n.toNat : Nat) : Int) = s + 1 + n by omega] at hM
      exact ⟨_, _, _, _, rfl, hM⟩
set_option maxRecDepth 100000 in
set_option maxHeartbeats 400000 in
theorem pshared_new (p m c nb ob ws : Nat) (bs n : Int) (l : List Int) (s : Int) (o : CellOp) (hmc : m ≠ c) (hl : l.length ≤ 1000000) (hn : 1 ≤ n ∧ n ≤ 4096) (hb : 0 ≤ bs ∧ bs + n + 1 ≤ l.length) (w : World) (hM : Mem w (feet [pt p #[.pointer (some ⟨m, 0, none⟩), .int .i64 bs, .slice (some ⟨nb, 0, none⟩) n.toNat n.toNat, .slice (some ⟨ob, 0, none⟩) ws ws] 128, memO m c ((linkL l bs n n.toNat)) s o]) [pt p #[.pointer (some ⟨m, 0, none⟩), .int .i64 bs, .slice (some ⟨nb, 0, none⟩) n.toNat n.toNat, .slice (some ⟨ob, 0, none⟩) ws ws] 128, memO m c ((linkL l bs n n.toNat)) s o] w) :
    Calls Try.prog 53 #[.pointer (some ⟨p, 0, none⟩)] w fun e w' => ∃ a2 c2, e = .returned (.slice a2 n.toNat c2) ∧ Mem w (feet [pt p #[.pointer (some ⟨m, 0, none⟩), .int .i64 bs, .slice (some ⟨nb, 0, none⟩) n.toNat n.toNat, .slice (some ⟨ob, 0, none⟩) ws ws] 128, memO m c ((linkL l bs n n.toNat)) s o]) [pt p #[.pointer (some ⟨m, 0, none⟩), .int .i64 bs, .slice (some ⟨nb, 0, none⟩) n.toNat n.toNat, .slice (some ⟨ob, 0, none⟩) ws ws] 128, memO m c ((linkL l bs n n.toNat)) s o] w' := by
  have hM0 : True := trivial  -- have hM
  have htop := linkL_top l bs n hb.1 n.toNat (by omega)
  refine Calls.of_ends (vs := [.pointer (some ⟨p, 0, none⟩)]) Try.func53 rfl Try.ntmps53 rfl ?_
  intro a hA
  replace hA : St 46 [(0, _)] a := hA
  refine Ends.seq ?_
  refine Ends.region ?_
  refine S.val hA (R.assign rfl) rfl ?_; clear hA a; intro a hA
  refine S.done ?_
  replace hA : St 46 [(0, _), (2, _)] a := hA.sub ((.cons rfl (.cons rfl .nil)))
  refine Ends.seq ?_
  refine Ends.seq ?_
  refine Ends.region ?_
  refine S.val hA (R.move rfl) rfl ?_; clear hA a; intro a hA
  refine S.val hA (R.eqlNil Try.underlying72 rfl rfl) rfl ?_; clear hA a; intro a hA
  refine S.done ?_
  replace hA : St 46 [(0, _), (2, _), (7, _)] a := hA.sub ((.cons rfl (.cons rfl (.cons rfl .nil))))
  refine Ends.condF hA rfl ?_
  refine Ends.skip ?_
  refine Ends.seq ?_
  refine Ends.drawn (Mem w (feet [pt p #[.pointer (some ⟨m, 0, none⟩), .int .i64 bs, .slice (some ⟨nb, 0, none⟩) n.toNat n.toNat, .slice (some ⟨ob, 0, none⟩) ws ws] 128, memO m c ((linkL l bs n n.toNat)) s o]) [pt p #[.pointer (some ⟨m, 0, none⟩), .int .i64 bs, .slice (some ⟨nb, 0, none⟩) n.toNat n.toNat, .slice (some ⟨ob, 0, none⟩) ws ws] 128]) (.cons (0, true) (.cons (1, true) (.cons (2, true) (.cons (3, true) (.cons (4, true) (.cons (5, true) (.cons (6, true) (.cons (7, true) (.cons (8, false) (.cons (9, false) (.cons (10, true) (.cons (11, true) (.cons (12, true) (.cons (13, true) (.cons (14, true) .nil))))))))))))))) 15 mixed (by kernel_rfl) (by kernel_rfl) (by kernel_rfl) (hM.drop 1).drew ?_
  replace hM := hM.drew
  refine D.valF hA rfl (fun _ => R.move rfl) rfl ?_; clear hA a; intro a hA
  refine D.valF hA rfl (fun _ => R.nilCheck rfl) rfl ?_; clear hA a; intro a hA
  refine D.valF hA rfl (fun _ => R.fieldAddr (q := 0) fi128_0 rfl rfl rfl) rfl ?_; clear hA a; intro a hA
  refine D.val hA rfl (by kernel_rfl) (fun _ hM => R.load sz24 rfl (hM.cell (k := 0) rfl rfl)) rfl ?_; clear hA a; intro a hA
  refine D.valF hA rfl (fun _ => R.move rfl) rfl ?_; clear hA a; intro a hA
  refine D.valF hA rfl (fun _ => R.nilCheck rfl) rfl ?_; clear hA a; intro a hA
  refine D.valF hA rfl (fun _ => R.fieldAddr (q := 1) fi128_1 rfl rfl rfl) rfl ?_; clear hA a; intro a hA
  refine D.val hA rfl (by kernel_rfl) (fun _ hM => R.load sz3 rfl (hM.cell (k := 0) rfl rfl)) rfl ?_; clear hA a; intro a hA
  refine D.call hA rfl (R.callF Try.func64 rfl rfl rfl) rfl (peek_ok m c ((linkL l bs n n.toNat)) s o hmc bs (by omega) (by rw [linkL_len]; omega) _ (hM.mem (k := 1) rfl)) ?_; clear hA a
  rintro e w1 ⟨rfl, rfl⟩
  refine ⟨.int .i64 ((linkL l bs n n.toNat).getD bs.toNat 0), rfl, (hM.drop 1), fun a hA => ?_⟩
  refine D.call hA rfl (R.callF Try.func77 rfl rfl rfl) rfl (unpack_any ((linkL l bs n n.toNat).getD bs.toNat 0) (by rw [htop]; decide) (by rw [htop]; decide) _) ?_; clear hA a
  rintro e w2 ⟨rfl, rfl⟩
  refine ⟨.tuple #[.int .i64 (((linkL l bs n n.toNat).getD bs.toNat 0) / 4294967296 % 1073741824), .int .i64 (((linkL l bs n n.toNat).getD bs.toNat 0) % 4294967296 - 1)], rfl, (hM.drop 1), fun a hA => ?_⟩
  refine D.valF hA rfl (fun _ => R.move rfl) rfl ?_; clear hA a; intro a hA
  refine D.valF hA rfl (fun _ => R.extract (v := .int .i64 (((linkL l bs n n.toNat).getD bs.toNat 0) / 4294967296 % 1073741824)) rfl rfl) rfl ?_; clear hA a; intro a hA
  refine D.valF hA rfl (fun _ => R.extract (v := .int .i64 (((linkL l bs n n.toNat).getD bs.toNat 0) % 4294967296 - 1)) rfl rfl) rfl ?_; clear hA a; intro a hA
  refine D.valF hA rfl (fun _ => R.assign rfl) rfl ?_; clear hA a; intro a hA
  refine D.valF hA rfl (fun _ => R.assign rfl) rfl ?_; clear hA a; intro a hA
  refine D.done ?_
  replace hA : St 46 [(0, _), (2, _), (4, _)] a := hA.sub ((.cons rfl (.cons rfl (.cons rfl .nil))))
  refine Ends.seq ?_
  refine Ends.region ?_
  refine S.val hA (R.assign rfl) rfl ?_; clear hA a; intro a hA
  refine S.done ?_
  replace hA : St 46 [(0, _), (2, _), (4, _), (5, _)] a := hA.sub ((.cons rfl (.cons rfl (.cons rfl (.cons rfl .nil)))))
  refine Ends.seq ?_
  refine Ends.block ?_
  replace hM := hM.ownNil 3 1
  replace hM : Mem _ _ [own 3 1 (.slice none ((([] : List Int)).length) 0) ((([] : List Int)).length) ((([] : List Int)).map (Value.int .i64)), pt p #[.pointer (some ⟨m, 0, none⟩), .int .i64 bs, .slice (some ⟨nb, 0, none⟩) n.toNat n.toNat, .slice (some ⟨ob, 0, none⟩) ws ws] 128, memO m c ((linkL l bs n n.toNat)) s o] _ := hM
  refine Ends.loop (σ := Nat × Int × Option Addr × List Int × Nat) (fun (k, at_, av, X, cap) (a : Act) (wv : World) => St 46 [(0, .pointer (some ⟨p, 0, none⟩)), (2, .slice none 0 0), (4, .int .i64 at_), (5, .slice av X.length cap)] a ∧ Mem w (feet [pt p #[.pointer (some ⟨m, 0, none⟩), .int .i64 bs, .slice (some ⟨nb, 0, none⟩) n.toNat n.toNat, .slice (some ⟨ob, 0, none⟩) ws ws] 128, memO m c ((linkL l bs n n.toNat)) s o]) [own 3 1 (.slice av X.length cap) X.length (X.map (Value.int .i64)), pt p #[.pointer (some ⟨m, 0, none⟩), .int .i64 bs, .slice (some ⟨nb, 0, none⟩) n.toNat n.toNat, .slice (some ⟨ob, 0, none⟩) ws ws] 128, memO m c ((linkL l bs n n.toNat)) s o] wv ∧ ((k : Int) ≤ n) ∧ (X.length = k) ∧ ((at_ = k ∧ k < n) ∨ (at_ = -1 ∧ k = n))) (fun (k, at_, av, X, cap) => n.toNat + 1 - k) ((0, ((linkL l bs n n.toNat).getD bs.toNat 0) % 4294967296 - 1, none, [], 0)) ⟨hA.sub ((.cons rfl (.cons rfl (.cons rfl (.cons rfl .nil))))), hM, (by omega), rfl, (by rw [htop]; omega)⟩ ?_
  clear hA hM a
  rintro ⟨k, at_, av, X, cap⟩ a w3 ⟨hA, hM, hk, hX, hat⟩ hNext
  refine Ends.seq ?_
  refine Ends.seq ?_
  refine Ends.cut (fun (a : Act) (wv : World) => St 46 [(0, .pointer (some ⟨p, 0, none⟩)), (2, .slice none 0 0), (4, .int .i64 at_), (5, .slice av X.length cap), (32, .bool (decide ((0 ≤ at_ ∧ ((X.length : Int)) ≤ ((n.toNat : Int))))))] a ∧ Mem w (feet [pt p #[.pointer (some ⟨m, 0, none⟩), .int .i64 bs, .slice (some ⟨nb, 0, none⟩) n.toNat n.toNat, .slice (some ⟨ob, 0, none⟩) ws ws] 128, memO m c ((linkL l bs n n.toNat)) s o]) [own 3 1 (.slice av X.length cap) X.length (X.map (Value.int .i64)), pt p #[.pointer (some ⟨m, 0, none⟩), .int .i64 bs, .slice (some ⟨nb, 0, none⟩) n.toNat n.toNat, .slice (some ⟨ob, 0, none⟩) ws ws] 128, memO m c ((linkL l bs n n.toNat)) s o] wv) ?_ (fun k2 hJ => ?_)
  · clear hA hM a; rintro a w4 ⟨hA, hM⟩
    refine Ends.ite hA rfl (fun hc1 => ?_) (fun hc1 => ?_)
    ·
      refine Ends.skip ?_
      refine Ends.block ?_
      refine Ends.seq ?_
      refine Ends.region ?_
      refine S.val hA (R.move rfl) rfl ?_; clear hA a; intro a hA
      refine S.val hA (R.move rfl) rfl ?_; clear hA a; intro a hA
      refine S.buildSl (cells := #[.int .i64 at_]) hA hM Try.underlying43 info3 rfl rfl rfl rfl (by kernel_rfl) rfl ?_; clear hA hM a; intro b2 w5 hb3 hM a hA
      replace hM : Mem _ _ [pt b2 #[.int .i64 at_] 3, own 3 1 (.slice av X.length cap) X.length (X.map (Value.int .i64)), pt p #[.pointer (some ⟨m, 0, none⟩), .int .i64 bs, .slice (some ⟨nb, 0, none⟩) n.toNat n.toNat, .slice (some ⟨ob, 0, none⟩) ws ws] 128, memO m c ((linkL l bs n n.toNat)) s o] _ := hM
      refine S.append (k := 1) (k2 := 0) hA hM rfl rfl Try.underlying43 info3 rfl rfl rfl rfl rfl rfl rfl rfl rfl (by first | omega | (show _ ≤ (9223372036854775807 : Nat); omega) | (show (X.length + 1) * 8 ≤ _; omega) | (unfold maxLen; omega)) (by first | omega | (show _ ≤ (9223372036854775807 : Nat); omega) | (show (X.length + 1) * 8 ≤ _; omega) | (unfold maxLen; omega)) rfl ?_; clear hA hM a; intro a4 c5 w6 hM a hA
      replace hM : Mem _ _ [pt b2 #[.int .i64 at_] 3, own 3 1 (.slice a4 (X.length + 1) c5) (X.length + 1) (X.map (Value.int .i64) ++ [.int .i64 at_]), pt p #[.pointer (some ⟨m, 0, none⟩), .int .i64 bs, .slice (some ⟨nb, 0, none⟩) n.toNat n.toNat, .slice (some ⟨ob, 0, none⟩) ws ws] 128, memO m c ((linkL l bs n n.toNat)) s o] _ := hM
      have hl6 : X.length + 1 = (X ++ [at_]).length := by simp
      rw [hl6, show X.map (Value.int .i64) ++ [.int .i64 at_] = (X ++ [at_]).map (Value.int .i64) by simp] at hM; rw [hl6] at hA
      clear hl6
      replace hM := hM.drop 0
      replace hM : Mem _ _ [own 3 1 (.slice a4 (((X ++ [at_])).length) c5) (((X ++ [at_])).length) (((X ++ [at_])).map (Value.int .i64)), pt p #[.pointer (some ⟨m, 0, none⟩), .int .i64 bs, .slice (some ⟨nb, 0, none⟩) n.toNat n.toNat, .slice (some ⟨ob, 0, none⟩) ws ws] 128, memO m c ((linkL l bs n n.toNat)) s o] _ := hM
      refine S.val hA (R.assign rfl) rfl ?_; clear hA a; intro a hA
      refine S.done ?_
      replace hA : St 46 [(0, _), (2, _), (4, _), (5, _), (32, _), (33, _), (34, _), (35, _), (36, _)] a := hA.sub ((.cons rfl (.cons rfl (.cons rfl (.cons rfl (.cons rfl (.cons rfl (.cons rfl (.cons rfl (.cons rfl .nil))))))))))
      refine Ends.drawn (Mem w (feet [pt p #[.pointer (some ⟨m, 0, none⟩), .int .i64 bs, .slice (some ⟨nb, 0, none⟩) n.toNat n.toNat, .slice (some ⟨ob, 0, none⟩) ws ws] 128, memO m c ((linkL l bs n n.toNat)) s o]) [own 3 1 (.slice a4 (((X ++ [at_])).length) c5) (((X ++ [at_])).length) (((X ++ [at_])).map (Value.int .i64)), pt p #[.pointer (some ⟨m, 0, none⟩), .int .i64 bs, .slice (some ⟨nb, 0, none⟩) n.toNat n.toNat, .slice (some ⟨ob, 0, none⟩) ws ws] 128]) (.cons (0, true) (.cons (1, true) (.cons (2, true) (.cons (3, true) (.cons (4, true) (.cons (5, true) (.cons (6, false) (.cons (7, false) (.cons (8, true) .nil))))))))) 9 mixed (by kernel_rfl) (by kernel_rfl) (by kernel_rfl) (hM.drop 2).drew ?_
      replace hM := hM.drew
      refine D.valF hA rfl (fun _ => R.move rfl) rfl ?_; clear hA a; intro a hA
      refine D.valF hA rfl (fun _ => R.nilCheck rfl) rfl ?_; clear hA a; intro a hA
      refine D.valF hA rfl (fun _ => R.fieldAddr (q := 0) fi128_0 rfl rfl rfl) rfl ?_; clear hA a; intro a hA
      refine D.val hA rfl (by kernel_rfl) (fun _ hM => R.load sz24 rfl (hM.cell (k := 1) rfl rfl)) rfl ?_; clear hA a; intro a hA
      refine D.valF hA rfl (fun _ => R.move rfl) rfl ?_; clear hA a; intro a hA
      refine D.valF hA rfl (fun _ => R.move rfl) rfl ?_; clear hA a; intro a hA
      refine D.call hA rfl (R.callF Try.func76 rfl rfl rfl) rfl (plink p m nb ob n.toNat ws bs at_ (by omega) (by omega) _ (hM.block (k := 1) rfl)) ?_; clear hA a
      rintro e w7 ⟨rfl, rfl⟩
      refine ⟨.int .i64 (bs + 1 + at_), rfl, (hM.drop 2), fun a hA => ?_⟩
      refine D.call hA rfl (R.callF Try.func64 rfl rfl rfl) rfl (peek_ok m c ((linkL l bs n n.toNat)) s o hmc (bs + 1 + at_) (by omega) (by rw [linkL_len]; omega) _ (hM.mem (k := 2) rfl)) ?_; clear hA a
      rintro e w8 ⟨rfl, rfl⟩
      refine ⟨.int .i64 ((linkL l bs n n.toNat).getD (bs + 1 + at_).toNat 0), rfl, (hM.drop 2), fun a hA => ?_⟩
      refine D.valF hA rfl (fun _ => R.assign rfl) rfl ?_; clear hA a; intro a hA
      refine D.done ?_
      replace hA : St 46 [(0, _), (2, _), (4, _), (5, _), (32, _), (33, _), (34, _), (35, _), (36, _), (37, _), (38, _), (39, _), (40, _), (41, _), (42, _), (43, _), (44, _)] a := hA.sub ((.cons rfl (.cons rfl (.cons rfl (.cons rfl (.cons rfl (.cons rfl (.cons rfl (.cons rfl (.cons rfl (.cons rfl (.cons rfl (.cons rfl (.cons rfl (.cons rfl (.cons rfl (.cons rfl (.cons rfl .nil))))))))))))))))))
      refine Ends.inBlock ?_
      have hn1 := linkL_at l bs n hb.1 n.toNat (by omega) k (by omega)
      obtain rfl : at_ = (k : Int) := by omega
      exact hNext ((k + 1, (linkL l bs n n.toNat).getD (bs + 1 + (k : Int)).toNat 0, a4, (X ++ [(k : Int)]), c5)) _ _ ((by show n.toNat + 1 - (k + 1) < n.toNat + 1 - k; omega)) ⟨hA.sub ((.cons rfl (.cons rfl (.cons rfl (.cons rfl .nil))))), hM, (by omega), (by simp; omega), (by rw [hn1]; split <;> omega)⟩
    ·
      refine Ends.exit rfl ?_
      replace hA : St 46 [(2, _), (5, _)] a := hA.sub ((.cons rfl (.cons rfl .nil)))
      refine Ends.seq ?_
      refine Ends.region ?_
      refine S.val hA (R.move rfl) rfl ?_; clear hA a; intro a hA
      refine S.val hA (R.assign rfl) rfl ?_; clear hA a; intro a hA
      refine S.done ?_
      replace hA : St 46 [(2, _)] a := hA.sub ((.cons rfl .nil))
      refine Ends.ret1 Try.func53 Try.results53 hA rfl ?_
      replace hM := hM.front (k := 2) rfl
      replace hM := hM.front (k := 2) rfl
      replace hM : Mem _ _ [pt p #[.pointer (some ⟨m, 0, none⟩), .int .i64 bs, .slice (some ⟨nb, 0, none⟩) n.toNat n.toNat, .slice (some ⟨ob, 0, none⟩) ws ws] 128, memO m c ((linkL l bs n n.toNat)) s o, own 3 1 (.slice av X.length cap) X.length (X.map (Value.int .i64))] _ := hM
      have hXn : X.length = n.toNat := by omega
      exact ⟨av, cap, by rw [hXn], hM.firstN 2⟩
  ·
    refine Ends.region ?_
    refine S.val hA (R.move rfl) rfl ?_; clear hA a; intro a hA
    refine S.val hA (R.geq rfl rfl) rfl ?_; clear hA a; intro a hA
    refine S.val hA (R.move rfl) rfl ?_; clear hA a; intro a hA
    refine hA.split (d := 23) rfl ?_ ?_
    · clear hA; intro hg7 hA
      refine S.valg (dj := 23) hA (by kernel_rfl) rfl (R.move rfl) rfl ?_; clear hA a; intro a hA
      refine S.valg (dj := 23) hA (by kernel_rfl) rfl (R.lenS Try.underlying43 rfl rfl) rfl ?_; clear hA a; intro a hA
      refine S.valg (dj := 23) hA (by kernel_rfl) rfl (R.move rfl) rfl ?_; clear hA a; intro a hA
      refine S.valg (dj := 23) hA (by kernel_rfl) rfl (R.nilCheck rfl) rfl ?_; clear hA a; intro a hA
      refine S.valg (dj := 23) hA (by kernel_rfl) rfl (R.fieldAddr (q := 2) fi128_2 rfl rfl rfl) rfl ?_; clear hA a; intro a hA
      refine S.valg (dj := 23) hA (by kernel_rfl) rfl (R.load sz126 rfl (hM.cell (k := 1) rfl rfl)) rfl ?_; clear hA a; intro a hA
      refine S.valg (dj := 23) hA (by kernel_rfl) rfl (R.lenS Try.underlying126 rfl rfl) rfl ?_; clear hA a; intro a hA
      refine S.valg (dj := 23) hA (by kernel_rfl) rfl (R.leq rfl rfl) rfl ?_; clear hA a; intro a hA
      refine S.val hA (R.pickT rfl rfl) rfl ?_; clear hA a; intro a hA
      refine S.done ?_
      replace hA : St 46 [(0, _), (2, _), (4, _), (5, _), (32, _)] a := hA.sub ((.cons rfl (.cons rfl (.cons rfl (.cons rfl (.cons rfl .nil))))))
      exact hJ _ _ ⟨hA.sub (.cons rfl (.cons rfl (.cons rfl (.cons rfl (.cons (by first | rfl | exact congrArg (fun b => some (Value.bool b)) (by simp [hg7])) .nil))))), hM⟩
    · clear hA; intro hg7 hA
      refine S.no (dj := 23) hA (by kernel_rfl) rfl rfl rfl ?_; clear hA a; intro a hA
      refine S.no (dj := 23) hA (by kernel_rfl) rfl rfl rfl ?_; clear hA a; intro a hA
      refine S.no (dj := 23) hA (by kernel_rfl) rfl rfl rfl ?_; clear hA a; intro a hA
      refine S.no (dj := 23) hA (by kernel_rfl) rfl rfl rfl ?_; clear hA a; intro a hA
      refine S.no (dj := 23) hA (by kernel_rfl) rfl rfl rfl ?_; clear hA a; intro a hA
      refine S.no (dj := 23) hA (by kernel_rfl) rfl rfl rfl ?_; clear hA a; intro a hA
      refine S.no (dj := 23) hA (by kernel_rfl) rfl rfl rfl ?_; clear hA a; intro a hA
      refine S.no (dj := 23) hA (by kernel_rfl) rfl rfl rfl ?_; clear hA a; intro a hA
      refine S.val hA (R.pickF rfl rfl) rfl ?_; clear hA a; intro a hA
      refine S.done ?_
      replace hA : St 46 [(0, _), (2, _), (4, _), (5, _), (32, _)] a := hA.sub ((.cons rfl (.cons rfl (.cons rfl (.cons rfl (.cons rfl .nil))))))
      exact hJ _ _ ⟨hA.sub (.cons rfl (.cons rfl (.cons rfl (.cons rfl (.cons (by first | rfl | exact congrArg (fun b => some (Value.bool b)) (by simp [hg7])) .nil))))), hM⟩
theorem phas_no (p m nb ob ns ws : Nat) (bs : Int) (i : Int) (h : ¬ (0 ≤ i ∧ i < ns)) (w : World) (hp : w.heap[p]? = some (.cells #[.pointer (some ⟨m, 0, none⟩), .int .i64 bs, .slice (some ⟨nb, 0, none⟩) ns ns, .slice (some ⟨ob, 0, none⟩) ws ws] 128 (0, 0))) : Calls Try.prog 73 #[.pointer (some ⟨p, 0, none⟩), .int .i64 i] w fun e w' => e = .returned (.bool false) ∧ w = w' := by
  by_cases h0 : i < 0
  · exact phas_low p m nb ob ns ws bs i h0 w hp
  · exact phas_high p m nb ob ns ws bs i (by omega) w hp
set_option maxRecDepth 100000 in
set_option maxHeartbeats 400000 in
theorem pgive_slot (p m nb ob ns ws : Nat) (bs : Int) (i j : Int) (h : ¬ (0 ≤ j ∧ j < ns)) (w : World) (hp : w.heap[p]? = some (.cells #[.pointer (some ⟨m, 0, none⟩), .int .i64 bs, .slice (some ⟨nb, 0, none⟩) ns ns, .slice (some ⟨ob, 0, none⟩) ws ws] 128 (0, 0))) :
    Calls Try.prog 51 #[.pointer (some ⟨p, 0, none⟩), .int .i64 i, .int .i64 j] w fun e w' => e = .returned (.pointer none) ∧ w = w' := by
  have hM := Mem.start w
  refine Calls.of_ends (vs := [.pointer (some ⟨p, 0, none⟩), .int .i64 i, .int .i64 j]) Try.func51 rfl Try.ntmps51 rfl ?_
  intro a hA
  replace hA : St 29 [(0, _), (1, _), (2, _)] a := hA
  refine Ends.seq ?_
  refine Ends.region ?_
  refine S.val hA (R.assign rfl) rfl ?_; clear hA a; intro a hA
  refine S.done ?_
  replace hA : St 29 [(0, _), (1, _), (2, _), (6, _)] a := hA.sub ((.cons rfl (.cons rfl (.cons rfl (.cons rfl .nil)))))
  refine Ends.seq ?_
  refine Ends.seq ?_
  refine Ends.region ?_
  refine S.val hA (R.move rfl) rfl ?_; clear hA a; intro a hA
  refine S.val hA (R.move rfl) rfl ?_; clear hA a; intro a hA
  refine S.call hA (R.callF Try.func73 rfl rfl rfl) rfl (phas_no p m nb ob ns ws bs j h _ hp) ?_; clear hA a
  rintro e w1 ⟨rfl, rfl⟩
  refine ⟨.bool false, rfl, fun a hA => ?_⟩
  refine S.val hA (R.not rfl) rfl ?_; clear hA a; intro a hA
  refine S.val hA (R.move rfl) rfl ?_; clear hA a; intro a hA
  refine S.no (dj := 11) hA (by kernel_rfl) rfl rfl rfl ?_; clear hA a; intro a hA
  refine S.no (dj := 11) hA (by kernel_rfl) rfl rfl rfl ?_; clear hA a; intro a hA
  refine S.val hA (R.pickT rfl rfl) rfl ?_; clear hA a; intro a hA
  refine S.val hA (R.move rfl) rfl ?_; clear hA a; intro a hA
  refine S.no (dj := 15) hA (by kernel_rfl) rfl rfl rfl ?_; clear hA a; intro a hA
  refine S.no (dj := 15) hA (by kernel_rfl) rfl rfl rfl ?_; clear hA a; intro a hA
  refine S.no (dj := 15) hA (by kernel_rfl) rfl rfl rfl ?_; clear hA a; intro a hA
  refine S.no (dj := 15) hA (by kernel_rfl) rfl rfl rfl ?_; clear hA a; intro a hA
  refine S.no (dj := 15) hA (by kernel_rfl) rfl rfl rfl ?_; clear hA a; intro a hA
  refine S.no (dj := 15) hA (by kernel_rfl) rfl rfl rfl ?_; clear hA a; intro a hA
  refine S.no (dj := 15) hA (by kernel_rfl) rfl rfl rfl ?_; clear hA a; intro a hA
  refine S.val hA (R.pickT rfl rfl) rfl ?_; clear hA a; intro a hA
  refine S.done ?_
  replace hA : St 29 [(0, _), (1, _), (2, _), (6, _), (23, _)] a := hA.sub ((.cons rfl (.cons rfl (.cons rfl (.cons rfl (.cons rfl .nil))))))
  refine Ends.condT hA rfl ?_
  refine Ends.seq ?_
  refine Ends.region ?_
  refine S.val hA (R.assign rfl) rfl ?_; clear hA a; intro a hA
  refine S.done ?_
  replace hA : St 29 [(0, _), (1, _), (2, _), (6, _)] a := hA.sub ((.cons rfl (.cons rfl (.cons rfl (.cons rfl .nil)))))
  refine Ends.ret1 Try.func51 Try.results51 hA rfl ?_
  exact ⟨rfl, rfl⟩
set_option maxRecDepth 100000 in
set_option maxHeartbeats 400000 in
theorem pgive_low (p m nb ob ns ws : Nat) (bs : Int) (i j : Int) (h : 0 ≤ j ∧ j < ns) (hi : i < 0) (w : World) (hp : w.heap[p]? = some (.cells #[.pointer (some ⟨m, 0, none⟩), .int .i64 bs, .slice (some ⟨nb, 0, none⟩) ns ns, .slice (some ⟨ob, 0, none⟩) ws ws] 128 (0, 0))) :
    Calls Try.prog 51 #[.pointer (some ⟨p, 0, none⟩), .int .i64 i, .int .i64 j] w fun e w' => e = .returned (.pointer none) ∧ w = w' := by
  have hM := Mem.start w
  refine Calls.of_ends (vs := [.pointer (some ⟨p, 0, none⟩), .int .i64 i, .int .i64 j]) Try.func51 rfl Try.ntmps51 rfl ?_
  intro a hA
  replace hA : St 29 [(0, _), (1, _), (2, _)] a := hA
  refine Ends.seq ?_
  refine Ends.region ?_
  refine S.val hA (R.assign rfl) rfl ?_; clear hA a; intro a hA
  refine S.done ?_
  replace hA : St 29 [(0, _), (1, _), (2, _), (6, _)] a := hA.sub ((.cons rfl (.cons rfl (.cons rfl (.cons rfl .nil)))))
  refine Ends.seq ?_
  refine Ends.seq ?_
  refine Ends.region ?_
  refine S.val hA (R.move rfl) rfl ?_; clear hA a; intro a hA
  refine S.val hA (R.move rfl) rfl ?_; clear hA a; intro a hA
  refine S.call hA (R.callF Try.func73 rfl rfl rfl) rfl (phas_yes p m nb ob ns ws bs j h _ hp) ?_; clear hA a
  rintro e w1 ⟨rfl, rfl⟩
  refine ⟨.bool true, rfl, fun a hA => ?_⟩
  refine S.val hA (R.not rfl) rfl ?_; clear hA a; intro a hA
  refine S.val hA (R.move rfl) rfl ?_; clear hA a; intro a hA
  refine S.valg (dj := 11) hA (by kernel_rfl) rfl (R.move rfl) rfl ?_; clear hA a; intro a hA
  refine S.valg (dj := 11) hA (by kernel_rfl) rfl (R.tt (R.lss rfl rfl) (by omega)) rfl ?_; clear hA a; intro a hA
  refine S.val hA (R.pickF rfl rfl) rfl ?_; clear hA a; intro a hA
  refine S.val hA (R.move rfl) rfl ?_; clear hA a; intro a hA
  refine S.no (dj := 15) hA (by kernel_rfl) rfl rfl rfl ?_; clear hA a; intro a hA
  refine S.no (dj := 15) hA (by kernel_rfl) rfl rfl rfl ?_; clear hA a; intro a hA
  refine S.no (dj := 15) hA (by kernel_rfl) rfl rfl rfl ?_; clear hA a; intro a hA
  refine S.no (dj := 15) hA (by kernel_rfl) rfl rfl rfl ?_; clear hA a; intro a hA
  refine S.no (dj := 15) hA (by kernel_rfl) rfl rfl rfl ?_; clear hA a; intro a hA
  refine S.no (dj := 15) hA (by kernel_rfl) rfl rfl rfl ?_; clear hA a; intro a hA
  refine S.no (dj := 15) hA (by kernel_rfl) rfl rfl rfl ?_; clear hA a; intro a hA
  refine S.val hA (R.pickT rfl rfl) rfl ?_; clear hA a; intro a hA
  refine S.done ?_
  replace hA : St 29 [(0, _), (1, _), (2, _), (6, _), (23, _)] a := hA.sub ((.cons rfl (.cons rfl (.cons rfl (.cons rfl (.cons rfl .nil))))))
  refine Ends.condT hA rfl ?_
  refine Ends.seq ?_
  refine Ends.region ?_
  refine S.val hA (R.assign rfl) rfl ?_; clear hA a; intro a hA
  refine S.done ?_
  replace hA : St 29 [(0, _), (1, _), (2, _), (6, _)] a := hA.sub ((.cons rfl (.cons rfl (.cons rfl (.cons rfl .nil)))))
  refine Ends.ret1 Try.func51 Try.results51 hA rfl ?_
  exact ⟨rfl, rfl⟩
set_option maxRecDepth 100000 in
set_option maxHeartbeats 400000 in
theorem pgive_high (p m nb ob ns ws : Nat) (bs : Int) (i j : Int) (h : 0 ≤ j ∧ j < ns) (hi : 0 ≤ i ∧ ws ≤ i) (w : World) (hp : w.heap[p]? = some (.cells #[.pointer (some ⟨m, 0, none⟩), .int .i64 bs, .slice (some ⟨nb, 0, none⟩) ns ns, .slice (some ⟨ob, 0, none⟩) ws ws] 128 (0, 0))) :
    Calls Try.prog 51 #[.pointer (some ⟨p, 0, none⟩), .int .i64 i, .int .i64 j] w fun e w' => e = .returned (.pointer none) ∧ w = w' := by
  have hM := Mem.start w
  refine Calls.of_ends (vs := [.pointer (some ⟨p, 0, none⟩), .int .i64 i, .int .i64 j]) Try.func51 rfl Try.ntmps51 rfl ?_
  intro a hA
  replace hA : St 29 [(0, _), (1, _), (2, _)] a := hA
  refine Ends.seq ?_
  refine Ends.region ?_
  refine S.val hA (R.assign rfl) rfl ?_; clear hA a; intro a hA
  refine S.done ?_
  replace hA : St 29 [(0, _), (1, _), (2, _), (6, _)] a := hA.sub ((.cons rfl (.cons rfl (.cons rfl (.cons rfl .nil)))))
  refine Ends.seq ?_
  refine Ends.seq ?_
  refine Ends.region ?_
  refine S.val hA (R.move rfl) rfl ?_; clear hA a; intro a hA
  refine S.val hA (R.move rfl) rfl ?_; clear hA a; intro a hA
  refine S.call hA (R.callF Try.func73 rfl rfl rfl) rfl (phas_yes p m nb ob ns ws bs j h _ hp) ?_; clear hA a
  rintro e w1 ⟨rfl, rfl⟩
  refine ⟨.bool true, rfl, fun a hA => ?_⟩
  refine S.val hA (R.not rfl) rfl ?_; clear hA a; intro a hA
  refine S.val hA (R.move rfl) rfl ?_; clear hA a; intro a hA
  refine S.valg (dj := 11) hA (by kernel_rfl) rfl (R.move rfl) rfl ?_; clear hA a; intro a hA
  refine S.valg (dj := 11) hA (by kernel_rfl) rfl (R.ff (R.lss rfl rfl) (by omega)) rfl ?_; clear hA a; intro a hA
  refine S.val hA (R.pickF rfl rfl) rfl ?_; clear hA a; intro a hA
  refine S.val hA (R.move rfl) rfl ?_; clear hA a; intro a hA
  refine S.valg (dj := 15) hA (by kernel_rfl) rfl (R.move rfl) rfl ?_; clear hA a; intro a hA
  refine S.valg (dj := 15) hA (by kernel_rfl) rfl (R.move rfl) rfl ?_; clear hA a; intro a hA
  refine S.valg (dj := 15) hA (by kernel_rfl) rfl (R.nilCheck rfl) rfl ?_; clear hA a; intro a hA
  refine S.valg (dj := 15) hA (by kernel_rfl) rfl (R.fieldAddr (q := 3) fi128_3 rfl rfl rfl) rfl ?_; clear hA a; intro a hA
  refine S.valg (dj := 15) hA (by kernel_rfl) rfl (R.load sz95 rfl (hM.cellB hp rfl)) rfl ?_; clear hA a; intro a hA
  refine S.valg (dj := 15) hA (by kernel_rfl) rfl (R.lenS Try.underlying95 rfl rfl) rfl ?_; clear hA a; intro a hA
  refine S.valg (dj := 15) hA (by kernel_rfl) rfl (R.tt (R.geq rfl rfl) (by omega)) rfl ?_; clear hA a; intro a hA
  refine S.val hA (R.pickF rfl rfl) rfl ?_; clear hA a; intro a hA
  refine S.done ?_
  replace hA : St 29 [(0, _), (1, _), (2, _), (6, _), (23, _)] a := hA.sub ((.cons rfl (.cons rfl (.cons rfl (.cons rfl (.cons rfl .nil))))))
  refine Ends.condT hA rfl ?_
  refine Ends.seq ?_
  refine Ends.region ?_
  refine S.val hA (R.assign rfl) rfl ?_; clear hA a; intro a hA
  refine S.done ?_
  replace hA : St 29 [(0, _), (1, _), (2, _), (6, _)] a := hA.sub ((.cons rfl (.cons rfl (.cons rfl (.cons rfl .nil)))))
  refine Ends.ret1 Try.func51 Try.results51 hA rfl ?_
  exact ⟨rfl, rfl⟩
end Go.Proofs.Ytjjbognomeplbaa
