/-
  kurganref03.Read; the law DigitReads.
-/
import Derived.Test.YtdbbigjoloinpaaDoorDigW
namespace Go.Proofs.YtdbbigjoloinpaaDoor
open Go.RowKit

set_option maxRecDepth 100000 in
set_option maxHeartbeats 400000 in
theorem rdig_any (c : Int) (w : World) :
    Calls Tryd.prog 30 #[.int .u8 c] w fun e w' => e = .returned (.bool (decide (48 ≤ c ∧ c ≤ 57))) ∧ Below w.heap.size w w' := by
  have hM := Mem.start w
  refine Calls.of_ends (vs := [.int .u8 c]) Tryd.func30 rfl Tryd.ntmps30 rfl ?_
  intro a hA
  replace hA : St 9 [(0, _)] a := hA
  refine Ends.seq ?_
  refine Ends.region ?_
  refine S.val hA (R.assign rfl) rfl ?_; clear hA a; intro a hA
  refine S.done ?_
  replace hA : St 9 [(0, _)] a := hA.sub ((.cons rfl .nil))
  refine Ends.seq ?_
  refine Ends.cut (fun (a : Act) (wv : World) => St 9 [(2, .bool (decide ((48 ≤ c ∧ c ≤ 57))))] a ∧ Mem w nof [] wv) ?_ (fun k2 hJ => ?_)
  · clear hA hM a; rintro a w1 ⟨hA, hM⟩
    refine Ends.ret1 Tryd.func30 Tryd.results30 hA rfl ?_
    exact ⟨rfl, hM.nilL.below⟩
  ·
    refine Ends.region ?_
    refine S.val hA (R.move rfl) rfl ?_; clear hA a; intro a hA
    refine S.val hA (R.geq rfl rfl) rfl ?_; clear hA a; intro a hA
    refine S.val hA (R.move rfl) rfl ?_; clear hA a; intro a hA
    refine hA.split (d := 5) rfl ?_ ?_
    · clear hA; intro hg1 hA
      refine S.valg (dj := 5) hA (by kernel_rfl) rfl (R.move rfl) rfl ?_; clear hA a; intro a hA
      refine S.valg (dj := 5) hA (by kernel_rfl) rfl (R.leq rfl rfl) rfl ?_; clear hA a; intro a hA
      refine S.val hA (R.pickT rfl rfl) rfl ?_; clear hA a; intro a hA
      refine S.val hA (R.assign rfl) rfl ?_; clear hA a; intro a hA
      refine S.done ?_
      replace hA : St 9 [(2, _)] a := hA.sub ((.cons rfl .nil))
      exact hJ _ _ ⟨hA.sub (.cons (by first | rfl | exact congrArg (fun b => some (Value.bool b)) (by first | (simp; done) | simp [hg1])) .nil), hM⟩
    · clear hA; intro hg1 hA
      refine S.no (dj := 5) hA (by kernel_rfl) rfl rfl rfl ?_; clear hA a; intro a hA
      refine S.no (dj := 5) hA (by kernel_rfl) rfl rfl rfl ?_; clear hA a; intro a hA
      refine S.val hA (R.pickF rfl rfl) rfl ?_; clear hA a; intro a hA
      refine S.val hA (R.assign rfl) rfl ?_; clear hA a; intro a hA
      refine S.done ?_
      replace hA : St 9 [(2, _)] a := hA.sub ((.cons rfl .nil))
      exact hJ _ _ ⟨hA.sub (.cons (by first | rfl | exact congrArg (fun b => some (Value.bool b)) (by first | (simp; done) | simp [hg1])) .nil), hM⟩
set_option maxRecDepth 100000 in
set_option maxHeartbeats 400000 in
theorem rread_out (s : ByteArray) (p : Int) (h : p < 0 ∨ (s.size : Int) < p) (w : World) :
    Calls Tryd.prog 20 #[.string s, .int .i64 p] w fun e w' => e = .returned (.tuple #[.int .i64 (0), .int .i64 (0), .int .i64 (1)]) ∧ Below w.heap.size w w' := by
  have hM := Mem.start w
  refine Calls.of_ends (vs := [.string s, .int .i64 p]) Tryd.func20 rfl Tryd.ntmps20 rfl ?_
  intro a hA
  replace hA : St 66 [(0, _), (1, _)] a := hA
  refine Ends.seq ?_
  refine Ends.region ?_
  refine S.val hA (R.assign rfl) rfl ?_; clear hA a; intro a hA
  refine S.val hA (R.assign rfl) rfl ?_; clear hA a; intro a hA
  refine S.val hA (R.assign rfl) rfl ?_; clear hA a; intro a hA
  refine S.done ?_
  replace hA : St 66 [(0, _), (1, _)] a := hA.sub ((.cons rfl (.cons rfl .nil)))
  refine Ends.seq ?_
  refine Ends.seq ?_
  refine Ends.cut (fun (a : Act) (wv : World) => St 66 [(0, .string s), (1, .int .i64 p), (17, .bool (decide ((p < 0 ∨ ((s.size : Int)) < p))))] a ∧ Mem w nof [] wv) ?_ (fun k2 hJ => ?_)
  · clear hA hM a; rintro a w1 ⟨hA, hM⟩
    refine Ends.ite hA rfl (fun hc1 => ?_) (fun hc1 => ?_)
    ·
      refine Ends.seq ?_
      refine Ends.region ?_
      refine S.val hA (R.assign rfl) rfl ?_; clear hA a; intro a hA
      refine S.val hA (R.assign rfl) rfl ?_; clear hA a; intro a hA
      refine S.val hA (R.assign rfl) rfl ?_; clear hA a; intro a hA
      refine S.done ?_
      replace hA : St 66 [(0, _), (1, _), (4, _), (5, _), (6, _)] a := hA.sub ((.cons rfl (.cons rfl (.cons rfl (.cons rfl (.cons rfl .nil))))))
      refine Ends.ret3 Tryd.func20 Tryd.results20 hA rfl rfl rfl ?_
      exact ⟨rfl, hM.nilL.below⟩
    · exfalso; omega
  ·
    refine Ends.region ?_
    refine S.val hA (R.move rfl) rfl ?_; clear hA a; intro a hA
    refine S.val hA (R.lss rfl rfl) rfl ?_; clear hA a; intro a hA
    refine S.val hA (R.move rfl) rfl ?_; clear hA a; intro a hA
    refine hA.split (d := 12) rfl ?_ ?_
    · clear hA; intro hg2 hA
      refine S.no (dj := 12) hA (by kernel_rfl) rfl rfl rfl ?_; clear hA a; intro a hA
      refine S.no (dj := 12) hA (by kernel_rfl) rfl rfl rfl ?_; clear hA a; intro a hA
      refine S.no (dj := 12) hA (by kernel_rfl) rfl rfl rfl ?_; clear hA a; intro a hA
      refine S.no (dj := 12) hA (by kernel_rfl) rfl rfl rfl ?_; clear hA a; intro a hA
      refine S.val hA (R.pickT rfl rfl) rfl ?_; clear hA a; intro a hA
      refine S.done ?_
      replace hA : St 66 [(0, _), (1, _), (17, _)] a := hA.sub ((.cons rfl (.cons rfl (.cons rfl .nil))))
      exact hJ _ _ ⟨hA.sub (.cons rfl (.cons rfl (.cons (by first | rfl | exact congrArg (fun b => some (Value.bool b)) (by first | (simp; done) | simp [hg2])) .nil))), hM⟩
    · clear hA; intro hg2 hA
      refine S.valg (dj := 12) hA (by kernel_rfl) rfl (R.move rfl) rfl ?_; clear hA a; intro a hA
      refine S.valg (dj := 12) hA (by kernel_rfl) rfl (R.move rfl) rfl ?_; clear hA a; intro a hA
      refine S.valg (dj := 12) hA (by kernel_rfl) rfl (R.lenStr Tryd.underlying9 rfl rfl) rfl ?_; clear hA a; intro a hA
      refine S.valg (dj := 12) hA (by kernel_rfl) rfl (R.gtr rfl rfl) rfl ?_; clear hA a; intro a hA
      refine S.val hA (R.pickF rfl rfl) rfl ?_; clear hA a; intro a hA
      refine S.done ?_
      replace hA : St 66 [(0, _), (1, _), (17, _)] a := hA.sub ((.cons rfl (.cons rfl (.cons rfl .nil))))
      exact hJ _ _ ⟨hA.sub (.cons rfl (.cons rfl (.cons (by first | rfl | exact congrArg (fun b => some (Value.bool b)) (by first | (simp; done) | simp [hg2])) .nil))), hM⟩
theorem rdig_yes (c : Int) (h : 48 ≤ c ∧ c ≤ 57) (w : World) : Calls Tryd.prog 30 #[.int .u8 c] w fun e w' => e = .returned (.bool true) ∧ Below w.heap.size w w' :=
  (rdig_any c w).mono fun e w' ⟨he, hb⟩ => ⟨by rw [he, decide_eq_true h], hb⟩
theorem rdig_no (c : Int) (h : ¬ (48 ≤ c ∧ c ≤ 57)) (w : World) : Calls Tryd.prog 30 #[.int .u8 c] w fun e w' => e = .returned (.bool false) ∧ Below w.heap.size w w' :=
  (rdig_any c w).mono fun e w' ⟨he, hb⟩ => ⟨by rw [he, decide_eq_false h], hb⟩
set_option maxRecDepth 100000 in
set_option maxHeartbeats 400000 in
theorem rread_none (s : ByteArray) (x k : Nat) (hx : x ≤ s.size) (hk : dgs s x = k) (hsz : s.size ≤ 9223372036854775807) (h : k = 0) (w : World) :
    Calls Tryd.prog 20 #[.string s, .int .i64 ((x : Int))] w fun e w' => e = .returned (.tuple #[.int .i64 (0), .int .i64 (0), .int .i64 (4)]) ∧ Below w.heap.size w w' := by
  have hdg : ∀ j, j < k → dig s (x + j) := fun j hj => (dgs_spec s x).1 j (by omega)
  have hle := dgs_le s hx
  rw [hk] at hle
  have hM := Mem.start w
  refine Calls.of_ends (vs := [.string s, .int .i64 ((x : Int))]) Tryd.func20 rfl Tryd.ntmps20 rfl ?_
  intro a hA
  replace hA : St 66 [(0, _), (1, _)] a := hA
  refine Ends.seq ?_
  refine Ends.region ?_
  refine S.val hA (R.assign rfl) rfl ?_; clear hA a; intro a hA
  refine S.val hA (R.assign rfl) rfl ?_; clear hA a; intro a hA
  refine S.val hA (R.assign rfl) rfl ?_; clear hA a; intro a hA
  refine S.done ?_
  replace hA : St 66 [(0, _), (1, _)] a := hA.sub ((.cons rfl (.cons rfl .nil)))
  refine Ends.seq ?_
  refine Ends.seq ?_
  refine Ends.region ?_
  refine S.val hA (R.move rfl) rfl ?_; clear hA a; intro a hA
  refine S.val hA (R.ff (R.lss rfl rfl) (by first | omega | (simp; done))) rfl ?_; clear hA a; intro a hA
  refine S.val hA (R.move rfl) rfl ?_; clear hA a; intro a hA
  refine S.valg (dj := 12) hA (by kernel_rfl) rfl (R.move rfl) rfl ?_; clear hA a; intro a hA
  refine S.valg (dj := 12) hA (by kernel_rfl) rfl (R.move rfl) rfl ?_; clear hA a; intro a hA
  refine S.valg (dj := 12) hA (by kernel_rfl) rfl (R.lenStr Tryd.underlying9 rfl rfl) rfl ?_; clear hA a; intro a hA
  refine S.valg (dj := 12) hA (by kernel_rfl) rfl (R.ff (R.gtr rfl rfl) (by first | omega | (simp; done))) rfl ?_; clear hA a; intro a hA
  refine S.val hA (R.pickF rfl rfl) rfl ?_; clear hA a; intro a hA
  refine S.done ?_
  replace hA : St 66 [(0, _), (1, _), (17, _)] a := hA.sub ((.cons rfl (.cons rfl (.cons rfl .nil))))
  refine Ends.condF hA rfl ?_
  refine Ends.skip ?_
  refine Ends.seq ?_
  refine Ends.region ?_
  refine S.val hA (R.move rfl) rfl ?_; clear hA a; intro a hA
  refine S.val hA (R.assign rfl) rfl ?_; clear hA a; intro a hA
  refine S.done ?_
  replace hA : St 66 [(0, _), (1, _), (7, _)] a := hA.sub ((.cons rfl (.cons rfl (.cons rfl .nil))))
  refine Ends.seq ?_
  refine Ends.block ?_
  refine Ends.loop (σ := Nat) (fun q (a : Act) (wv : World) => St 66 [(0, .string s), (1, .int .i64 ((x : Int))), (7, .int .i64 ((x : Int) + (q : Int)))] a ∧ Mem w nof [] wv ∧ (x + q ≤ s.size) ∧ (∀ j, j < q → dig s (x + j))) (fun q => s.size - (x + q)) 0 ⟨hA.sub ((.cons rfl (.cons rfl (.cons rfl .nil)))), hM, (by omega), (fun j hj => absurd hj (Nat.not_lt_zero j))⟩ ?_
  clear hA hM a
  rintro q a w1 ⟨hA, hM, hq, hd⟩ hNext
  refine Ends.seq ?_
  refine Ends.seq ?_
  by_cases hs1 : dig s (x + q)
  ·
    have hdq := hs1
    have hdq1 := hdq.1
    have hdq2 := hdq.2
    refine Ends.region ?_
    refine S.val hA (R.move rfl) rfl ?_; clear hA a; intro a hA
    refine S.val hA (R.move rfl) rfl ?_; clear hA a; intro a hA
    refine S.val hA (R.lenStr Tryd.underlying9 rfl rfl) rfl ?_; clear hA a; intro a hA
    refine S.val hA (R.tt (R.lss rfl rfl) (by first | omega | (simp; done))) rfl ?_; clear hA a; intro a hA
    refine S.val hA (R.move rfl) rfl ?_; clear hA a; intro a hA
    refine S.valg (dj := 23) hA (by kernel_rfl) rfl (R.move rfl) rfl ?_; clear hA a; intro a hA
    refine S.valg (dj := 23) hA (by kernel_rfl) rfl (R.move rfl) rfl ?_; clear hA a; intro a hA
    refine S.valg (dj := 23) hA (by kernel_rfl) rfl (R.to (v := .int .u8 (byt s (x + q))) (R.idxS Tryd.underlying9 rfl rfl (by first | omega | (simp; done))) (by first | rfl | (congr 2; done) | (congr 2; omega))) rfl ?_; clear hA a; intro a hA
    refine S.callg (dj := 23) hA (by kernel_rfl) rfl (R.callF Tryd.func30 rfl rfl rfl) rfl ((rdig_yes (byt s (x + q)) hdq2 _)) ?_; clear hA a
    rintro e w2 ⟨rfl, hb⟩
    replace hM := hM.callB hb; clear hb
    refine ⟨.bool true, rfl, fun a hA => ?_⟩
    refine S.val hA (R.pickT rfl rfl) rfl ?_; clear hA a; intro a hA
    refine S.done ?_
    replace hA : St 66 [(0, _), (1, _), (7, _), (28, _)] a := hA.sub ((.cons rfl (.cons rfl (.cons rfl (.cons rfl .nil)))))
    refine Ends.condT hA rfl ?_
    refine Ends.skip ?_
    refine Ends.block ?_
    refine Ends.region ?_
    refine S.val hA (R.move rfl) rfl ?_; clear hA a; intro a hA
    refine S.val hA (R.addI rfl rfl (r := ((x : Int) + (q : Int)) + 1) rfl (by first | omega | (simp; done))) rfl ?_; clear hA a; intro a hA
    refine S.val hA (R.assign rfl) rfl ?_; clear hA a; intro a hA
    refine S.done ?_
    replace hA : St 66 [(0, _), (1, _), (7, _)] a := hA.sub ((.cons rfl (.cons rfl (.cons rfl .nil))))
    refine Ends.inBlock ?_
    have hdl := (hs1).1
    exact hNext ((q + 1)) _ _ ((by show s.size - (x + (q + 1)) < s.size - (x + q); omega)) ⟨hA.sub ((.cons rfl (.cons rfl (.cons rfl .nil)))), hM, (by omega), (fun j hj => by rcases Nat.lt_or_ge j q with g | g; exact hd j g; have e : j = q := (by omega); exact e ▸ hs1)⟩
  ·
    have hkq : q = k := by rw [← hk]; exact (dgs_uniq hd hs1).symm
    by_cases hs2 : x + q < s.size
    ·
      refine Ends.region ?_
      refine S.val hA (R.move rfl) rfl ?_; clear hA a; intro a hA
      refine S.val hA (R.move rfl) rfl ?_; clear hA a; intro a hA
      refine S.val hA (R.lenStr Tryd.underlying9 rfl rfl) rfl ?_; clear hA a; intro a hA
      refine S.val hA (R.tt (R.lss rfl rfl) (by first | omega | (simp; done))) rfl ?_; clear hA a; intro a hA
      refine S.val hA (R.move rfl) rfl ?_; clear hA a; intro a hA
      refine S.valg (dj := 23) hA (by kernel_rfl) rfl (R.move rfl) rfl ?_; clear hA a; intro a hA
      refine S.valg (dj := 23) hA (by kernel_rfl) rfl (R.move rfl) rfl ?_; clear hA a; intro a hA
      refine S.valg (dj := 23) hA (by kernel_rfl) rfl (R.to (v := .int .u8 (byt s (x + q))) (R.idxS Tryd.underlying9 rfl rfl (by first | omega | (simp; done))) (by first | rfl | (congr 2; done) | (congr 2; omega))) rfl ?_; clear hA a; intro a hA
      refine S.callg (dj := 23) hA (by kernel_rfl) rfl (R.callF Tryd.func30 rfl rfl rfl) rfl ((rdig_no (byt s (x + q)) (fun h => hs1 ⟨hs2, h⟩) _)) ?_; clear hA a
      rintro e w3 ⟨rfl, hb⟩
      replace hM := hM.callB hb; clear hb
      refine ⟨.bool false, rfl, fun a hA => ?_⟩
      refine S.val hA (R.pickT rfl rfl) rfl ?_; clear hA a; intro a hA
      refine S.done ?_
      replace hA : St 66 [(0, _), (1, _), (7, _), (28, _)] a := hA.sub ((.cons rfl (.cons rfl (.cons rfl (.cons rfl .nil)))))
      refine Ends.condF hA rfl ?_
      refine Ends.exit rfl ?_
      replace hA : St 66 [(0, _), (1, _), (7, _)] a := hA.sub ((.cons rfl (.cons rfl (.cons rfl .nil))))
      refine Ends.seq ?_
      refine Ends.seq ?_
      refine Ends.region ?_
      refine S.val hA (R.move rfl) rfl ?_; clear hA a; intro a hA
      refine S.val hA (R.move rfl) rfl ?_; clear hA a; intro a hA
      refine S.val hA (R.tt (R.eql rfl rfl) (by first | omega | (simp; done))) rfl ?_; clear hA a; intro a hA
      refine S.val hA (R.move rfl) rfl ?_; clear hA a; intro a hA
      refine S.no (dj := 34) hA (by kernel_rfl) rfl rfl rfl ?_; clear hA a; intro a hA
      refine S.no (dj := 34) hA (by kernel_rfl) rfl rfl rfl ?_; clear hA a; intro a hA
      refine S.no (dj := 34) hA (by kernel_rfl) rfl rfl rfl ?_; clear hA a; intro a hA
      refine S.no (dj := 34) hA (by kernel_rfl) rfl rfl rfl ?_; clear hA a; intro a hA
      refine S.no (dj := 34) hA (by kernel_rfl) rfl rfl rfl ?_; clear hA a; intro a hA
      refine S.noU (dj := 39) hA (by kernel_rfl) rfl rfl ?_; clear hA a; intro a hA
      refine S.noU (dj := 39) hA (by kernel_rfl) rfl rfl ?_; clear hA a; intro a hA
      refine S.noU (dj := 39) hA (by kernel_rfl) rfl rfl ?_; clear hA a; intro a hA
      refine S.noU (dj := 39) hA (by kernel_rfl) rfl rfl ?_; clear hA a; intro a hA
      refine S.no (dj := 34) hA (by kernel_rfl) rfl rfl rfl ?_; clear hA a; intro a hA
      refine S.val hA (R.pickT rfl rfl) rfl ?_; clear hA a; intro a hA
      refine S.done ?_
      replace hA : St 66 [(0, _), (1, _), (7, _), (45, _)] a := hA.sub ((.cons rfl (.cons rfl (.cons rfl (.cons rfl .nil)))))
      refine Ends.condT hA rfl ?_
      refine Ends.seq ?_
      refine Ends.region ?_
      refine S.val hA (R.assign rfl) rfl ?_; clear hA a; intro a hA
      refine S.val hA (R.assign rfl) rfl ?_; clear hA a; intro a hA
      refine S.val hA (R.assign rfl) rfl ?_; clear hA a; intro a hA
      refine S.done ?_
      replace hA : St 66 [(0, _), (1, _), (4, _), (5, _), (6, _), (7, _)] a := hA.sub ((.cons rfl (.cons rfl (.cons rfl (.cons rfl (.cons rfl (.cons rfl .nil)))))))
      refine Ends.ret3 Tryd.func20 Tryd.results20 hA rfl rfl rfl ?_
      exact ⟨rfl, hM.nilL.below⟩
    ·
      refine Ends.region ?_
      refine S.val hA (R.move rfl) rfl ?_; clear hA a; intro a hA
      refine S.val hA (R.move rfl) rfl ?_; clear hA a; intro a hA
      refine S.val hA (R.lenStr Tryd.underlying9 rfl rfl) rfl ?_; clear hA a; intro a hA
      refine S.val hA (R.ff (R.lss rfl rfl) (by first | omega | (simp; done))) rfl ?_; clear hA a; intro a hA
      refine S.val hA (R.move rfl) rfl ?_; clear hA a; intro a hA
      refine S.no (dj := 23) hA (by kernel_rfl) rfl rfl rfl ?_; clear hA a; intro a hA
      refine S.no (dj := 23) hA (by kernel_rfl) rfl rfl rfl ?_; clear hA a; intro a hA
      refine S.no (dj := 23) hA (by kernel_rfl) rfl rfl rfl ?_; clear hA a; intro a hA
      refine S.no (dj := 23) hA (by kernel_rfl) rfl rfl rfl ?_; clear hA a; intro a hA
      refine S.val hA (R.pickF rfl rfl) rfl ?_; clear hA a; intro a hA
      refine S.done ?_
      replace hA : St 66 [(0, _), (1, _), (7, _), (28, _)] a := hA.sub ((.cons rfl (.cons rfl (.cons rfl (.cons rfl .nil)))))
      refine Ends.condF hA rfl ?_
      refine Ends.exit rfl ?_
      replace hA : St 66 [(0, _), (1, _), (7, _)] a := hA.sub ((.cons rfl (.cons rfl (.cons rfl .nil))))
      refine Ends.seq ?_
      refine Ends.seq ?_
      refine Ends.region ?_
      refine S.val hA (R.move rfl) rfl ?_; clear hA a; intro a hA
      refine S.val hA (R.move rfl) rfl ?_; clear hA a; intro a hA
      refine S.val hA (R.tt (R.eql rfl rfl) (by first | omega | (simp; done))) rfl ?_; clear hA a; intro a hA
      refine S.val hA (R.move rfl) rfl ?_; clear hA a; intro a hA
      refine S.no (dj := 34) hA (by kernel_rfl) rfl rfl rfl ?_; clear hA a; intro a hA
      refine S.no (dj := 34) hA (by kernel_rfl) rfl rfl rfl ?_; clear hA a; intro a hA
      refine S.no (dj := 34) hA (by kernel_rfl) rfl rfl rfl ?_; clear hA a; intro a hA
      refine S.no (dj := 34) hA (by kernel_rfl) rfl rfl rfl ?_; clear hA a; intro a hA
      refine S.no (dj := 34) hA (by kernel_rfl) rfl rfl rfl ?_; clear hA a; intro a hA
      refine S.noU (dj := 39) hA (by kernel_rfl) rfl rfl ?_; clear hA a; intro a hA
      refine S.noU (dj := 39) hA (by kernel_rfl) rfl rfl ?_; clear hA a; intro a hA
      refine S.noU (dj := 39) hA (by kernel_rfl) rfl rfl ?_; clear hA a; intro a hA
      refine S.noU (dj := 39) hA (by kernel_rfl) rfl rfl ?_; clear hA a; intro a hA
      refine S.no (dj := 34) hA (by kernel_rfl) rfl rfl rfl ?_; clear hA a; intro a hA
      refine S.val hA (R.pickT rfl rfl) rfl ?_; clear hA a; intro a hA
      refine S.done ?_
      replace hA : St 66 [(0, _), (1, _), (7, _), (45, _)] a := hA.sub ((.cons rfl (.cons rfl (.cons rfl (.cons rfl .nil)))))
      refine Ends.condT hA rfl ?_
      refine Ends.seq ?_
      refine Ends.region ?_
      refine S.val hA (R.assign rfl) rfl ?_; clear hA a; intro a hA
      refine S.val hA (R.assign rfl) rfl ?_; clear hA a; intro a hA
      refine S.val hA (R.assign rfl) rfl ?_; clear hA a; intro a hA
      refine S.done ?_
      replace hA : St 66 [(0, _), (1, _), (4, _), (5, _), (6, _), (7, _)] a := hA.sub ((.cons rfl (.cons rfl (.cons rfl (.cons rfl (.cons rfl (.cons rfl .nil)))))))
      refine Ends.ret3 Tryd.func20 Tryd.results20 hA rfl rfl rfl ?_
      exact ⟨rfl, hM.nilL.below⟩
set_option maxRecDepth 100000 in
set_option maxHeartbeats 400000 in
theorem rread_nul (s : ByteArray) (x k : Nat) (hx : x ≤ s.size) (hk : dgs s x = k) (hsz : s.size ≤ 9223372036854775807) (h : 1 < k) (h0 : byt s x = 48) (w : World) :
    Calls Tryd.prog 20 #[.string s, .int .i64 ((x : Int))] w fun e w' => e = .returned (.tuple #[.int .i64 (0), .int .i64 (0), .int .i64 (4)]) ∧ Below w.heap.size w w' := by
  have hdg : ∀ j, j < k → dig s (x + j) := fun j hj => (dgs_spec s x).1 j (by omega)
  have hle := dgs_le s hx
  rw [hk] at hle
  have hM := Mem.start w
  refine Calls.of_ends (vs := [.string s, .int .i64 ((x : Int))]) Tryd.func20 rfl Tryd.ntmps20 rfl ?_
  intro a hA
  replace hA : St 66 [(0, _), (1, _)] a := hA
  refine Ends.seq ?_
  refine Ends.region ?_
  refine S.val hA (R.assign rfl) rfl ?_; clear hA a; intro a hA
  refine S.val hA (R.assign rfl) rfl ?_; clear hA a; intro a hA
  refine S.val hA (R.assign rfl) rfl ?_; clear hA a; intro a hA
  refine S.done ?_
  replace hA : St 66 [(0, _), (1, _)] a := hA.sub ((.cons rfl (.cons rfl .nil)))
  refine Ends.seq ?_
  refine Ends.seq ?_
  refine Ends.region ?_
  refine S.val hA (R.move rfl) rfl ?_; clear hA a; intro a hA
  refine S.val hA (R.ff (R.lss rfl rfl) (by first | omega | (simp; done))) rfl ?_; clear hA a; intro a hA
  refine S.val hA (R.move rfl) rfl ?_; clear hA a; intro a hA
  refine S.valg (dj := 12) hA (by kernel_rfl) rfl (R.move rfl) rfl ?_; clear hA a; intro a hA
  refine S.valg (dj := 12) hA (by kernel_rfl) rfl (R.move rfl) rfl ?_; clear hA a; intro a hA
  refine S.valg (dj := 12) hA (by kernel_rfl) rfl (R.lenStr Tryd.underlying9 rfl rfl) rfl ?_; clear hA a; intro a hA
  refine S.valg (dj := 12) hA (by kernel_rfl) rfl (R.ff (R.gtr rfl rfl) (by first | omega | (simp; done))) rfl ?_; clear hA a; intro a hA
  refine S.val hA (R.pickF rfl rfl) rfl ?_; clear hA a; intro a hA
  refine S.done ?_
  replace hA : St 66 [(0, _), (1, _), (17, _)] a := hA.sub ((.cons rfl (.cons rfl (.cons rfl .nil))))
  refine Ends.condF hA rfl ?_
  refine Ends.skip ?_
  refine Ends.seq ?_
  refine Ends.region ?_
  refine S.val hA (R.move rfl) rfl ?_; clear hA a; intro a hA
  refine S.val hA (R.assign rfl) rfl ?_; clear hA a; intro a hA
  refine S.done ?_
  replace hA : St 66 [(0, _), (1, _), (7, _)] a := hA.sub ((.cons rfl (.cons rfl (.cons rfl .nil))))
  refine Ends.seq ?_
  refine Ends.block ?_
  refine Ends.loop (σ := Nat) (fun q (a : Act) (wv : World) => St 66 [(0, .string s), (1, .int .i64 ((x : Int))), (7, .int .i64 ((x : Int) + (q : Int)))] a ∧ Mem w nof [] wv ∧ (x + q ≤ s.size) ∧ (∀ j, j < q → dig s (x + j))) (fun q => s.size - (x + q)) 0 ⟨hA.sub ((.cons rfl (.cons rfl (.cons rfl .nil)))), hM, (by omega), (fun j hj => absurd hj (Nat.not_lt_zero j))⟩ ?_
  clear hA hM a
  rintro q a w1 ⟨hA, hM, hq, hd⟩ hNext
  refine Ends.seq ?_
  refine Ends.seq ?_
  by_cases hs1 : dig s (x + q)
  ·
    have hdq := hs1
    have hdq1 := hdq.1
    have hdq2 := hdq.2
    refine Ends.region ?_
    refine S.val hA (R.move rfl) rfl ?_; clear hA a; intro a hA
    refine S.val hA (R.move rfl) rfl ?_; clear hA a; intro a hA
    refine S.val hA (R.lenStr Tryd.underlying9 rfl rfl) rfl ?_; clear hA a; intro a hA
    refine S.val hA (R.tt (R.lss rfl rfl) (by first | omega | (simp; done))) rfl ?_; clear hA a; intro a hA
    refine S.val hA (R.move rfl) rfl ?_; clear hA a; intro a hA
    refine S.valg (dj := 23) hA (by kernel_rfl) rfl (R.move rfl) rfl ?_; clear hA a; intro a hA
    refine S.valg (dj := 23) hA (by kernel_rfl) rfl (R.move rfl) rfl ?_; clear hA a; intro a hA
    refine S.valg (dj := 23) hA (by kernel_rfl) rfl (R.to (v := .int .u8 (byt s (x + q))) (R.idxS Tryd.underlying9 rfl rfl (by first | omega | (simp; done))) (by first | rfl | (congr 2; done) | (congr 2; omega))) rfl ?_; clear hA a; intro a hA
    refine S.callg (dj := 23) hA (by kernel_rfl) rfl (R.callF Tryd.func30 rfl rfl rfl) rfl ((rdig_yes (byt s (x + q)) hdq2 _)) ?_; clear hA a
    rintro e w2 ⟨rfl, hb⟩
    replace hM := hM.callB hb; clear hb
    refine ⟨.bool true, rfl, fun a hA => ?_⟩
    refine S.val hA (R.pickT rfl rfl) rfl ?_; clear hA a; intro a hA
    refine S.done ?_
    replace hA : St 66 [(0, _), (1, _), (7, _), (28, _)] a := hA.sub ((.cons rfl (.cons rfl (.cons rfl (.cons rfl .nil)))))
    refine Ends.condT hA rfl ?_
    refine Ends.skip ?_
    refine Ends.block ?_
    refine Ends.region ?_
    refine S.val hA (R.move rfl) rfl ?_; clear hA a; intro a hA
    refine S.val hA (R.addI rfl rfl (r := ((x : Int) + (q : Int)) + 1) rfl (by first | omega | (simp; done))) rfl ?_; clear hA a; intro a hA
    refine S.val hA (R.assign rfl) rfl ?_; clear hA a; intro a hA
    refine S.done ?_
    replace hA : St 66 [(0, _), (1, _), (7, _)] a := hA.sub ((.cons rfl (.cons rfl (.cons rfl .nil))))
    refine Ends.inBlock ?_
    have hdl := (hs1).1
    exact hNext ((q + 1)) _ _ ((by show s.size - (x + (q + 1)) < s.size - (x + q); omega)) ⟨hA.sub ((.cons rfl (.cons rfl (.cons rfl .nil)))), hM, (by omega), (fun j hj => by rcases Nat.lt_or_ge j q with g | g; exact hd j g; have e : j = q := (by omega); exact e ▸ hs1)⟩
  ·
    have hkq : q = k := by rw [← hk]; exact (dgs_uniq hd hs1).symm
    by_cases hs2 : x + q < s.size
    ·
      refine Ends.region ?_
      refine S.val hA (R.move rfl) rfl ?_; clear hA a; intro a hA
      refine S.val hA (R.move rfl) rfl ?_; clear hA a; intro a hA
      refine S.val hA (R.lenStr Tryd.underlying9 rfl rfl) rfl ?_; clear hA a; intro a hA
      refine S.val hA (R.tt (R.lss rfl rfl) (by first | omega | (simp; done))) rfl ?_; clear hA a; intro a hA
      refine S.val hA (R.move rfl) rfl ?_; clear hA a; intro a hA
      refine S.valg (dj := 23) hA (by kernel_rfl) rfl (R.move rfl) rfl ?_; clear hA a; intro a hA
      refine S.valg (dj := 23) hA (by kernel_rfl) rfl (R.move rfl) rfl ?_; clear hA a; intro a hA
      refine S.valg (dj := 23) hA (by kernel_rfl) rfl (R.to (v := .int .u8 (byt s (x + q))) (R.idxS Tryd.underlying9 rfl rfl (by first | omega | (simp; done))) (by first | rfl | (congr 2; done) | (congr 2; omega))) rfl ?_; clear hA a; intro a hA
      refine S.callg (dj := 23) hA (by kernel_rfl) rfl (R.callF Tryd.func30 rfl rfl rfl) rfl ((rdig_no (byt s (x + q)) (fun h => hs1 ⟨hs2, h⟩) _)) ?_; clear hA a
      rintro e w3 ⟨rfl, hb⟩
      replace hM := hM.callB hb; clear hb
      refine ⟨.bool false, rfl, fun a hA => ?_⟩
      refine S.val hA (R.pickT rfl rfl) rfl ?_; clear hA a; intro a hA
      refine S.done ?_
      replace hA : St 66 [(0, _), (1, _), (7, _), (28, _)] a := hA.sub ((.cons rfl (.cons rfl (.cons rfl (.cons rfl .nil)))))
      refine Ends.condF hA rfl ?_
      refine Ends.exit rfl ?_
      replace hA : St 66 [(0, _), (1, _), (7, _)] a := hA.sub ((.cons rfl (.cons rfl (.cons rfl .nil))))
      refine Ends.seq ?_
      refine Ends.seq ?_
      refine Ends.region ?_
      refine S.val hA (R.move rfl) rfl ?_; clear hA a; intro a hA
      refine S.val hA (R.move rfl) rfl ?_; clear hA a; intro a hA
      refine S.val hA (R.ff (R.eql rfl rfl) (by first | omega | (simp; done))) rfl ?_; clear hA a; intro a hA
      refine S.val hA (R.move rfl) rfl ?_; clear hA a; intro a hA
      refine S.valg (dj := 34) hA (by kernel_rfl) rfl (R.move rfl) rfl ?_; clear hA a; intro a hA
      refine S.valg (dj := 34) hA (by kernel_rfl) rfl (R.move rfl) rfl ?_; clear hA a; intro a hA
      refine S.valg (dj := 34) hA (by kernel_rfl) rfl (R.subI rfl rfl (r := ((x : Int) + (q : Int)) - ((x : Int))) rfl (by first | omega | (simp; done))) rfl ?_; clear hA a; intro a hA
      refine S.valg (dj := 34) hA (by kernel_rfl) rfl (R.tt (R.gtr rfl rfl) (by first | omega | (simp; done))) rfl ?_; clear hA a; intro a hA
      refine S.valg (dj := 34) hA (by kernel_rfl) rfl (R.move rfl) rfl ?_; clear hA a; intro a hA
      refine S.valg (dj := 39) hA (by kernel_rfl) rfl (R.move rfl) rfl ?_; clear hA a; intro a hA
      refine S.valg (dj := 39) hA (by kernel_rfl) rfl (R.move rfl) rfl ?_; clear hA a; intro a hA
      refine S.valg (dj := 39) hA (by kernel_rfl) rfl (R.to (v := .int .u8 (byt s x)) (R.idxS Tryd.underlying9 rfl rfl (by first | omega | (simp; done))) (by first | rfl | (congr 2; done) | (congr 2; omega))) rfl ?_; clear hA a; intro a hA
      refine S.valg (dj := 39) hA (by kernel_rfl) rfl (R.tt (R.eql rfl rfl) (by first | omega | (simp; done))) rfl ?_; clear hA a; intro a hA
      refine S.valg (dj := 34) hA (by kernel_rfl) rfl (R.pickT rfl rfl) rfl ?_; clear hA a; intro a hA
      refine S.val hA (R.pickF rfl rfl) rfl ?_; clear hA a; intro a hA
      refine S.done ?_
      replace hA : St 66 [(0, _), (1, _), (7, _), (45, _)] a := hA.sub ((.cons rfl (.cons rfl (.cons rfl (.cons rfl .nil)))))
      refine Ends.condT hA rfl ?_
      refine Ends.seq ?_
      refine Ends.region ?_
      refine S.val hA (R.assign rfl) rfl ?_; clear hA a; intro a hA
      refine S.val hA (R.assign rfl) rfl ?_; clear hA a; intro a hA
      refine S.val hA (R.assign rfl) rfl ?_; clear hA a; intro a hA
      refine S.done ?_
      replace hA : St 66 [(0, _), (1, _), (4, _), (5, _), (6, _), (7, _)] a := hA.sub ((.cons rfl (.cons rfl (.cons rfl (.cons rfl (.cons rfl (.cons rfl .nil)))))))
      refine Ends.ret3 Tryd.func20 Tryd.results20 hA rfl rfl rfl ?_
      exact ⟨rfl, hM.nilL.below⟩
    ·
      refine Ends.region ?_
      refine S.val hA (R.move rfl) rfl ?_; clear hA a; intro a hA
      refine S.val hA (R.move rfl) rfl ?_; clear hA a; intro a hA
      refine S.val hA (R.lenStr Tryd.underlying9 rfl rfl) rfl ?_; clear hA a; intro a hA
      refine S.val hA (R.ff (R.lss rfl rfl) (by first | omega | (simp; done))) rfl ?_; clear hA a; intro a hA
      refine S.val hA (R.move rfl) rfl ?_; clear hA a; intro a hA
      refine S.no (dj := 23) hA (by kernel_rfl) rfl rfl rfl ?_; clear hA a; intro a hA
      refine S.no (dj := 23) hA (by kernel_rfl) rfl rfl rfl ?_; clear hA a; intro a hA
      refine S.no (dj := 23) hA (by kernel_rfl) rfl rfl rfl ?_; clear hA a; intro a hA
      refine S.no (dj := 23) hA (by kernel_rfl) rfl rfl rfl ?_; clear hA a; intro a hA
      refine S.val hA (R.pickF rfl rfl) rfl ?_; clear hA a; intro a hA
      refine S.done ?_
      replace hA : St 66 [(0, _), (1, _), (7, _), (28, _)] a := hA.sub ((.cons rfl (.cons rfl (.cons rfl (.cons rfl .nil)))))
      refine Ends.condF hA rfl ?_
      refine Ends.exit rfl ?_
      replace hA : St 66 [(0, _), (1, _), (7, _)] a := hA.sub ((.cons rfl (.cons rfl (.cons rfl .nil))))
      refine Ends.seq ?_
      refine Ends.seq ?_
      refine Ends.region ?_
      refine S.val hA (R.move rfl) rfl ?_; clear hA a; intro a hA
      refine S.val hA (R.move rfl) rfl ?_; clear hA a; intro a hA
      refine S.val hA (R.ff (R.eql rfl rfl) (by first | omega | (simp; done))) rfl ?_; clear hA a; intro a hA
      refine S.val hA (R.move rfl) rfl ?_; clear hA a; intro a hA
      refine S.valg (dj := 34) hA (by kernel_rfl) rfl (R.move rfl) rfl ?_; clear hA a; intro a hA
      refine S.valg (dj := 34) hA (by kernel_rfl) rfl (R.move rfl) rfl ?_; clear hA a; intro a hA
      refine S.valg (dj := 34) hA (by kernel_rfl) rfl (R.subI rfl rfl (r := ((x : Int) + (q : Int)) - ((x : Int))) rfl (by first | omega | (simp; done))) rfl ?_; clear hA a; intro a hA
      refine S.valg (dj := 34) hA (by kernel_rfl) rfl (R.tt (R.gtr rfl rfl) (by first | omega | (simp; done))) rfl ?_; clear hA a; intro a hA
      refine S.valg (dj := 34) hA (by kernel_rfl) rfl (R.move rfl) rfl ?_; clear hA a; intro a hA
      refine S.valg (dj := 39) hA (by kernel_rfl) rfl (R.move rfl) rfl ?_; clear hA a; intro a hA
      refine S.valg (dj := 39) hA (by kernel_rfl) rfl (R.move rfl) rfl ?_; clear hA a; intro a hA
      refine S.valg (dj := 39) hA (by kernel_rfl) rfl (R.to (v := .int .u8 (byt s x)) (R.idxS Tryd.underlying9 rfl rfl (by first | omega | (simp; done))) (by first | rfl | (congr 2; done) | (congr 2; omega))) rfl ?_; clear hA a; intro a hA
      refine S.valg (dj := 39) hA (by kernel_rfl) rfl (R.tt (R.eql rfl rfl) (by first | omega | (simp; done))) rfl ?_; clear hA a; intro a hA
      refine S.valg (dj := 34) hA (by kernel_rfl) rfl (R.pickT rfl rfl) rfl ?_; clear hA a; intro a hA
      refine S.val hA (R.pickF rfl rfl) rfl ?_; clear hA a; intro a hA
      refine S.done ?_
      replace hA : St 66 [(0, _), (1, _), (7, _), (45, _)] a := hA.sub ((.cons rfl (.cons rfl (.cons rfl (.cons rfl .nil)))))
      refine Ends.condT hA rfl ?_
      refine Ends.seq ?_
      refine Ends.region ?_
      refine S.val hA (R.assign rfl) rfl ?_; clear hA a; intro a hA
      refine S.val hA (R.assign rfl) rfl ?_; clear hA a; intro a hA
      refine S.val hA (R.assign rfl) rfl ?_; clear hA a; intro a hA
      refine S.done ?_
      replace hA : St 66 [(0, _), (1, _), (4, _), (5, _), (6, _), (7, _)] a := hA.sub ((.cons rfl (.cons rfl (.cons rfl (.cons rfl (.cons rfl (.cons rfl .nil)))))))
      refine Ends.ret3 Tryd.func20 Tryd.results20 hA rfl rfl rfl ?_
      exact ⟨rfl, hM.nilL.below⟩
set_option maxRecDepth 100000 in
set_option maxHeartbeats 400000 in
theorem rread_big (s : ByteArray) (x k : Nat) (hx : x ≤ s.size) (hk : dgs s x = k) (hsz : s.size ≤ 9223372036854775807) (h : 18 < k) (h0 : byt s x ≠ 48) (w : World) :
    Calls Tryd.prog 20 #[.string s, .int .i64 ((x : Int))] w fun e w' => e = .returned (.tuple #[.int .i64 (0), .int .i64 (0), .int .i64 (5)]) ∧ Below w.heap.size w w' := by
  have hdg : ∀ j, j < k → dig s (x + j) := fun j hj => (dgs_spec s x).1 j (by omega)
  have hle := dgs_le s hx
  rw [hk] at hle
  have hM := Mem.start w
  refine Calls.of_ends (vs := [.string s, .int .i64 ((x : Int))]) Tryd.func20 rfl Tryd.ntmps20 rfl ?_
  intro a hA
  replace hA : St 66 [(0, _), (1, _)] a := hA
  refine Ends.seq ?_
  refine Ends.region ?_
  refine S.val hA (R.assign rfl) rfl ?_; clear hA a; intro a hA
  refine S.val hA (R.assign rfl) rfl ?_; clear hA a; intro a hA
  refine S.val hA (R.assign rfl) rfl ?_; clear hA a; intro a hA
  refine S.done ?_
  replace hA : St 66 [(0, _), (1, _)] a := hA.sub ((.cons rfl (.cons rfl .nil)))
  refine Ends.seq ?_
  refine Ends.seq ?_
  refine Ends.region ?_
  refine S.val hA (R.move rfl) rfl ?_; clear hA a; intro a hA
  refine S.val hA (R.ff (R.lss rfl rfl) (by first | omega | (simp; done))) rfl ?_; clear hA a; intro a hA
  refine S.val hA (R.move rfl) rfl ?_; clear hA a; intro a hA
  refine S.valg (dj := 12) hA (by kernel_rfl) rfl (R.move rfl) rfl ?_; clear hA a; intro a hA
  refine S.valg (dj := 12) hA (by kernel_rfl) rfl (R.move rfl) rfl ?_; clear hA a; intro a hA
  refine S.valg (dj := 12) hA (by kernel_rfl) rfl (R.lenStr Tryd.underlying9 rfl rfl) rfl ?_; clear hA a; intro a hA
  refine S.valg (dj := 12) hA (by kernel_rfl) rfl (R.ff (R.gtr rfl rfl) (by first | omega | (simp; done))) rfl ?_; clear hA a; intro a hA
  refine S.val hA (R.pickF rfl rfl) rfl ?_; clear hA a; intro a hA
  refine S.done ?_
  replace hA : St 66 [(0, _), (1, _), (17, _)] a := hA.sub ((.cons rfl (.cons rfl (.cons rfl .nil))))
  refine Ends.condF hA rfl ?_
  refine Ends.skip ?_
  refine Ends.seq ?_
  refine Ends.region ?_
  refine S.val hA (R.move rfl) rfl ?_; clear hA a; intro a hA
  refine S.val hA (R.assign rfl) rfl ?_; clear hA a; intro a hA
  refine S.done ?_
  replace hA : St 66 [(0, _), (1, _), (7, _)] a := hA.sub ((.cons rfl (.cons rfl (.cons rfl .nil))))
  refine Ends.seq ?_
  refine Ends.block ?_
  refine Ends.loop (σ := Nat) (fun q (a : Act) (wv : World) => St 66 [(0, .string s), (1, .int .i64 ((x : Int))), (7, .int .i64 ((x : Int) + (q : Int)))] a ∧ Mem w nof [] wv ∧ (x + q ≤ s.size) ∧ (∀ j, j < q → dig s (x + j))) (fun q => s.size - (x + q)) 0 ⟨hA.sub ((.cons rfl (.cons rfl (.cons rfl .nil)))), hM, (by omega), (fun j hj => absurd hj (Nat.not_lt_zero j))⟩ ?_
  clear hA hM a
  rintro q a w1 ⟨hA, hM, hq, hd⟩ hNext
  refine Ends.seq ?_
  refine Ends.seq ?_
  by_cases hs1 : dig s (x + q)
  ·
    have hdq := hs1
    have hdq1 := hdq.1
    have hdq2 := hdq.2
    refine Ends.region ?_
    refine S.val hA (R.move rfl) rfl ?_; clear hA a; intro a hA
    refine S.val hA (R.move rfl) rfl ?_; clear hA a; intro a hA
    refine S.val hA (R.lenStr Tryd.underlying9 rfl rfl) rfl ?_; clear hA a; intro a hA
    refine S.val hA (R.tt (R.lss rfl rfl) (by first | omega | (simp; done))) rfl ?_; clear hA a; intro a hA
    refine S.val hA (R.move rfl) rfl ?_; clear hA a; intro a hA
    refine S.valg (dj := 23) hA (by kernel_rfl) rfl (R.move rfl) rfl ?_; clear hA a; intro a hA
    refine S.valg (dj := 23) hA (by kernel_rfl) rfl (R.move rfl) rfl ?_; clear hA a; intro a hA
    refine S.valg (dj := 23) hA (by kernel_rfl) rfl (R.to (v := .int .u8 (byt s (x + q))) (R.idxS Tryd.underlying9 rfl rfl (by first | omega | (simp; done))) (by first | rfl | (congr 2; done) | (congr 2; omega))) rfl ?_; clear hA a; intro a hA
    refine S.callg (dj := 23) hA (by kernel_rfl) rfl (R.callF Tryd.func30 rfl rfl rfl) rfl ((rdig_yes (byt s (x + q)) hdq2 _)) ?_; clear hA a
    rintro e w2 ⟨rfl, hb⟩
    replace hM := hM.callB hb; clear hb
    refine ⟨.bool true, rfl, fun a hA => ?_⟩
    refine S.val hA (R.pickT rfl rfl) rfl ?_; clear hA a; intro a hA
    refine S.done ?_
    replace hA : St 66 [(0, _), (1, _), (7, _), (28, _)] a := hA.sub ((.cons rfl (.cons rfl (.cons rfl (.cons rfl .nil)))))
    refine Ends.condT hA rfl ?_
    refine Ends.skip ?_
    refine Ends.block ?_
    refine Ends.region ?_
    refine S.val hA (R.move rfl) rfl ?_; clear hA a; intro a hA
    refine S.val hA (R.addI rfl rfl (r := ((x : Int) + (q : Int)) + 1) rfl (by first | omega | (simp; done))) rfl ?_; clear hA a; intro a hA
    refine S.val hA (R.assign rfl) rfl ?_; clear hA a; intro a hA
    refine S.done ?_
    replace hA : St 66 [(0, _), (1, _), (7, _)] a := hA.sub ((.cons rfl (.cons rfl (.cons rfl .nil))))
    refine Ends.inBlock ?_
    have hdl := (hs1).1
    exact hNext ((q + 1)) _ _ ((by show s.size - (x + (q + 1)) < s.size - (x + q); omega)) ⟨hA.sub ((.cons rfl (.cons rfl (.cons rfl .nil)))), hM, (by omega), (fun j hj => by rcases Nat.lt_or_ge j q with g | g; exact hd j g; have e : j = q := (by omega); exact e ▸ hs1)⟩
  ·
    have hkq : q = k := by rw [← hk]; exact (dgs_uniq hd hs1).symm
    by_cases hs2 : x + q < s.size
    ·
      refine Ends.region ?_
      refine S.val hA (R.move rfl) rfl ?_; clear hA a; intro a hA
      refine S.val hA (R.move rfl) rfl ?_; clear hA a; intro a hA
      refine S.val hA (R.lenStr Tryd.underlying9 rfl rfl) rfl ?_; clear hA a; intro a hA
      refine S.val hA (R.tt (R.lss rfl rfl) (by first | omega | (simp; done))) rfl ?_; clear hA a; intro a hA
      refine S.val hA (R.move rfl) rfl ?_; clear hA a; intro a hA
      refine S.valg (dj := 23) hA (by kernel_rfl) rfl (R.move rfl) rfl ?_; clear hA a; intro a hA
      refine S.valg (dj := 23) hA (by kernel_rfl) rfl (R.move rfl) rfl ?_; clear hA a; intro a hA
      refine S.valg (dj := 23) hA (by kernel_rfl) rfl (R.to (v := .int .u8 (byt s (x + q))) (R.idxS Tryd.underlying9 rfl rfl (by first | omega | (simp; done))) (by first | rfl | (congr 2; done) | (congr 2; omega))) rfl ?_; clear hA a; intro a hA
      refine S.callg (dj := 23) hA (by kernel_rfl) rfl (R.callF Tryd.func30 rfl rfl rfl) rfl ((rdig_no (byt s (x + q)) (fun h => hs1 ⟨hs2, h⟩) _)) ?_; clear hA a
      rintro e w3 ⟨rfl, hb⟩
      replace hM := hM.callB hb; clear hb
      refine ⟨.bool false, rfl, fun a hA => ?_⟩
      refine S.val hA (R.pickT rfl rfl) rfl ?_; clear hA a; intro a hA
      refine S.done ?_
      replace hA : St 66 [(0, _), (1, _), (7, _), (28, _)] a := hA.sub ((.cons rfl (.cons rfl (.cons rfl (.cons rfl .nil)))))
      refine Ends.condF hA rfl ?_
      refine Ends.exit rfl ?_
      replace hA : St 66 [(0, _), (1, _), (7, _)] a := hA.sub ((.cons rfl (.cons rfl (.cons rfl .nil))))
      refine Ends.seq ?_
      refine Ends.seq ?_
      refine Ends.region ?_
      refine S.val hA (R.move rfl) rfl ?_; clear hA a; intro a hA
      refine S.val hA (R.move rfl) rfl ?_; clear hA a; intro a hA
      refine S.val hA (R.ff (R.eql rfl rfl) (by first | omega | (simp; done))) rfl ?_; clear hA a; intro a hA
      refine S.val hA (R.move rfl) rfl ?_; clear hA a; intro a hA
      refine S.valg (dj := 34) hA (by kernel_rfl) rfl (R.move rfl) rfl ?_; clear hA a; intro a hA
      refine S.valg (dj := 34) hA (by kernel_rfl) rfl (R.move rfl) rfl ?_; clear hA a; intro a hA
      refine S.valg (dj := 34) hA (by kernel_rfl) rfl (R.subI rfl rfl (r := ((x : Int) + (q : Int)) - ((x : Int))) rfl (by first | omega | (simp; done))) rfl ?_; clear hA a; intro a hA
      refine S.valg (dj := 34) hA (by kernel_rfl) rfl (R.tt (R.gtr rfl rfl) (by first | omega | (simp; done))) rfl ?_; clear hA a; intro a hA
      refine S.valg (dj := 34) hA (by kernel_rfl) rfl (R.move rfl) rfl ?_; clear hA a; intro a hA
      refine S.valg (dj := 39) hA (by kernel_rfl) rfl (R.move rfl) rfl ?_; clear hA a; intro a hA
      refine S.valg (dj := 39) hA (by kernel_rfl) rfl (R.move rfl) rfl ?_; clear hA a; intro a hA
      refine S.valg (dj := 39) hA (by kernel_rfl) rfl (R.to (v := .int .u8 (byt s x)) (R.idxS Tryd.underlying9 rfl rfl (by first | omega | (simp; done))) (by first | rfl | (congr 2; done) | (congr 2; omega))) rfl ?_; clear hA a; intro a hA
      refine S.valg (dj := 39) hA (by kernel_rfl) rfl (R.ff (R.eql rfl rfl) (by first | omega | (simp; done))) rfl ?_; clear hA a; intro a hA
      refine S.valg (dj := 34) hA (by kernel_rfl) rfl (R.pickT rfl rfl) rfl ?_; clear hA a; intro a hA
      refine S.val hA (R.pickF rfl rfl) rfl ?_; clear hA a; intro a hA
      refine S.done ?_
      replace hA : St 66 [(0, _), (1, _), (7, _), (45, _)] a := hA.sub ((.cons rfl (.cons rfl (.cons rfl (.cons rfl .nil)))))
      refine Ends.condF hA rfl ?_
      refine Ends.skip ?_
      refine Ends.seq ?_
      refine Ends.seq ?_
      refine Ends.region ?_
      refine S.val hA (R.move rfl) rfl ?_; clear hA a; intro a hA
      refine S.val hA (R.move rfl) rfl ?_; clear hA a; intro a hA
      refine S.val hA (R.subI rfl rfl (r := ((x : Int) + (q : Int)) - ((x : Int))) rfl (by first | omega | (simp; done))) rfl ?_; clear hA a; intro a hA
      refine S.val hA (R.tt (R.gtr rfl rfl) (by first | omega | (simp; done))) rfl ?_; clear hA a; intro a hA
      refine S.done ?_
      replace hA : St 66 [(0, _), (1, _), (7, _), (49, _)] a := hA.sub ((.cons rfl (.cons rfl (.cons rfl (.cons rfl .nil)))))
      refine Ends.condT hA rfl ?_
      refine Ends.seq ?_
      refine Ends.region ?_
      refine S.val hA (R.assign rfl) rfl ?_; clear hA a; intro a hA
      refine S.val hA (R.assign rfl) rfl ?_; clear hA a; intro a hA
      refine S.val hA (R.assign rfl) rfl ?_; clear hA a; intro a hA
      refine S.done ?_
      replace hA : St 66 [(0, _), (1, _), (4, _), (5, _), (6, _), (7, _)] a := hA.sub ((.cons rfl (.cons rfl (.cons rfl (.cons rfl (.cons rfl (.cons rfl .nil)))))))
      refine Ends.ret3 Tryd.func20 Tryd.results20 hA rfl rfl rfl ?_
      exact ⟨rfl, hM.nilL.below⟩
    ·
      refine Ends.region ?_
      refine S.val hA (R.move rfl) rfl ?_; clear hA a; intro a hA
      refine S.val hA (R.move rfl) rfl ?_; clear hA a; intro a hA
      refine S.val hA (R.lenStr Tryd.underlying9 rfl rfl) rfl ?_; clear hA a; intro a hA
      refine S.val hA (R.ff (R.lss rfl rfl) (by first | omega | (simp; done))) rfl ?_; clear hA a; intro a hA
      refine S.val hA (R.move rfl) rfl ?_; clear hA a; intro a hA
      refine S.no (dj := 23) hA (by kernel_rfl) rfl rfl rfl ?_; clear hA a; intro a hA
      refine S.no (dj := 23) hA (by kernel_rfl) rfl rfl rfl ?_; clear hA a; intro a hA
      refine S.no (dj := 23) hA (by kernel_rfl) rfl rfl rfl ?_; clear hA a; intro a hA
      refine S.no (dj := 23) hA (by kernel_rfl) rfl rfl rfl ?_; clear hA a; intro a hA
      refine S.val hA (R.pickF rfl rfl) rfl ?_; clear hA a; intro a hA
      refine S.done ?_
      replace hA : St 66 [(0, _), (1, _), (7, _), (28, _)] a := hA.sub ((.cons rfl (.cons rfl (.cons rfl (.cons rfl .nil)))))
      refine Ends.condF hA rfl ?_
      refine Ends.exit rfl ?_
      replace hA : St 66 [(0, _), (1, _), (7, _)] a := hA.sub ((.cons rfl (.cons rfl (.cons rfl .nil))))
      refine Ends.seq ?_
      refine Ends.seq ?_
      refine Ends.region ?_
      refine S.val hA (R.move rfl) rfl ?_; clear hA a; intro a hA
      refine S.val hA (R.move rfl) rfl ?_; clear hA a; intro a hA
      refine S.val hA (R.ff (R.eql rfl rfl) (by first | omega | (simp; done))) rfl ?_; clear hA a; intro a hA
      refine S.val hA (R.move rfl) rfl ?_; clear hA a; intro a hA
      refine S.valg (dj := 34) hA (by kernel_rfl) rfl (R.move rfl) rfl ?_; clear hA a; intro a hA
      refine S.valg (dj := 34) hA (by kernel_rfl) rfl (R.move rfl) rfl ?_; clear hA a; intro a hA
      refine S.valg (dj := 34) hA (by kernel_rfl) rfl (R.subI rfl rfl (r := ((x : Int) + (q : Int)) - ((x : Int))) rfl (by first | omega | (simp; done))) rfl ?_; clear hA a; intro a hA
      refine S.valg (dj := 34) hA (by kernel_rfl) rfl (R.tt (R.gtr rfl rfl) (by first | omega | (simp; done))) rfl ?_; clear hA a; intro a hA
      refine S.valg (dj := 34) hA (by kernel_rfl) rfl (R.move rfl) rfl ?_; clear hA a; intro a hA
      refine S.valg (dj := 39) hA (by kernel_rfl) rfl (R.move rfl) rfl ?_; clear hA a; intro a hA
      refine S.valg (dj := 39) hA (by kernel_rfl) rfl (R.move rfl) rfl ?_; clear hA a; intro a hA
      refine S.valg (dj := 39) hA (by kernel_rfl) rfl (R.to (v := .int .u8 (byt s x)) (R.idxS Tryd.underlying9 rfl rfl (by first | omega | (simp; done))) (by first | rfl | (congr 2; done) | (congr 2; omega))) rfl ?_; clear hA a; intro a hA
      refine S.valg (dj := 39) hA (by kernel_rfl) rfl (R.ff (R.eql rfl rfl) (by first | omega | (simp; done))) rfl ?_; clear hA a; intro a hA
      refine S.valg (dj := 34) hA (by kernel_rfl) rfl (R.pickT rfl rfl) rfl ?_; clear hA a; intro a hA
      refine S.val hA (R.pickF rfl rfl) rfl ?_; clear hA a; intro a hA
      refine S.done ?_
      replace hA : St 66 [(0, _), (1, _), (7, _), (45, _)] a := hA.sub ((.cons rfl (.cons rfl (.cons rfl (.cons rfl .nil)))))
      refine Ends.condF hA rfl ?_
      refine Ends.skip ?_
      refine Ends.seq ?_
      refine Ends.seq ?_
      refine Ends.region ?_
      refine S.val hA (R.move rfl) rfl ?_; clear hA a; intro a hA
      refine S.val hA (R.move rfl) rfl ?_; clear hA a; intro a hA
      refine S.val hA (R.subI rfl rfl (r := ((x : Int) + (q : Int)) - ((x : Int))) rfl (by first | omega | (simp; done))) rfl ?_; clear hA a; intro a hA
      refine S.val hA (R.tt (R.gtr rfl rfl) (by first | omega | (simp; done))) rfl ?_; clear hA a; intro a hA
      refine S.done ?_
      replace hA : St 66 [(0, _), (1, _), (7, _), (49, _)] a := hA.sub ((.cons rfl (.cons rfl (.cons rfl (.cons rfl .nil)))))
      refine Ends.condT hA rfl ?_
      refine Ends.seq ?_
      refine Ends.region ?_
      refine S.val hA (R.assign rfl) rfl ?_; clear hA a; intro a hA
      refine S.val hA (R.assign rfl) rfl ?_; clear hA a; intro a hA
      refine S.val hA (R.assign rfl) rfl ?_; clear hA a; intro a hA
      refine S.done ?_
      replace hA : St 66 [(0, _), (1, _), (4, _), (5, _), (6, _), (7, _)] a := hA.sub ((.cons rfl (.cons rfl (.cons rfl (.cons rfl (.cons rfl (.cons rfl .nil)))))))
      refine Ends.ret3 Tryd.func20 Tryd.results20 hA rfl rfl rfl ?_
      exact ⟨rfl, hM.nilL.below⟩
set_option maxRecDepth 100000 in
set_option maxHeartbeats 400000 in
theorem rread_num1 (s : ByteArray) (x k : Nat) (hx : x ≤ s.size) (hk : dgs s x = k) (hsz : s.size ≤ 9223372036854775807) (h : k = 1) (w : World) :
    Calls Tryd.prog 20 #[.string s, .int .i64 ((x : Int))] w fun e w' => e = .returned (.tuple #[.int .i64 (numv s x k), .int .i64 (x + k), .int .i64 (0)]) ∧ Below w.heap.size w w' := by
  have hdg : ∀ j, j < k → dig s (x + j) := fun j hj => (dgs_spec s x).1 j (by omega)
  have hle := dgs_le s hx
  rw [hk] at hle
  have hM := Mem.start w
  refine Calls.of_ends (vs := [.string s, .int .i64 ((x : Int))]) Tryd.func20 rfl Tryd.ntmps20 rfl ?_
  intro a hA
  replace hA : St 66 [(0, _), (1, _)] a := hA
  refine Ends.seq ?_
  refine Ends.region ?_
  refine S.val hA (R.assign rfl) rfl ?_; clear hA a; intro a hA
  refine S.val hA (R.assign rfl) rfl ?_; clear hA a; intro a hA
  refine S.val hA (R.assign rfl) rfl ?_; clear hA a; intro a hA
  refine S.done ?_
  replace hA : St 66 [(0, _), (1, _)] a := hA.sub ((.cons rfl (.cons rfl .nil)))
  refine Ends.seq ?_
  refine Ends.seq ?_
  refine Ends.region ?_
  refine S.val hA (R.move rfl) rfl ?_; clear hA a; intro a hA
  refine S.val hA (R.ff (R.lss rfl rfl) (by first | omega | (simp; done))) rfl ?_; clear hA a; intro a hA
  refine S.val hA (R.move rfl) rfl ?_; clear hA a; intro a hA
  refine S.valg (dj := 12) hA (by kernel_rfl) rfl (R.move rfl) rfl ?_; clear hA a; intro a hA
  refine S.valg (dj := 12) hA (by kernel_rfl) rfl (R.move rfl) rfl ?_; clear hA a; intro a hA
  refine S.valg (dj := 12) hA (by kernel_rfl) rfl (R.lenStr Tryd.underlying9 rfl rfl) rfl ?_; clear hA a; intro a hA
  refine S.valg (dj := 12) hA (by kernel_rfl) rfl (R.ff (R.gtr rfl rfl) (by first | omega | (simp; done))) rfl ?_; clear hA a; intro a hA
  refine S.val hA (R.pickF rfl rfl) rfl ?_; clear hA a; intro a hA
  refine S.done ?_
  replace hA : St 66 [(0, _), (1, _), (17, _)] a := hA.sub ((.cons rfl (.cons rfl (.cons rfl .nil))))
  refine Ends.condF hA rfl ?_
  refine Ends.skip ?_
  refine Ends.seq ?_
  refine Ends.region ?_
  refine S.val hA (R.move rfl) rfl ?_; clear hA a; intro a hA
  refine S.val hA (R.assign rfl) rfl ?_; clear hA a; intro a hA
  refine S.done ?_
  replace hA : St 66 [(0, _), (1, _), (7, _)] a := hA.sub ((.cons rfl (.cons rfl (.cons rfl .nil))))
  refine Ends.seq ?_
  refine Ends.block ?_
  refine Ends.loop (σ := Nat) (fun q (a : Act) (wv : World) => St 66 [(0, .string s), (1, .int .i64 ((x : Int))), (7, .int .i64 ((x : Int) + (q : Int)))] a ∧ Mem w nof [] wv ∧ (x + q ≤ s.size) ∧ (∀ j, j < q → dig s (x + j))) (fun q => s.size - (x + q)) 0 ⟨hA.sub ((.cons rfl (.cons rfl (.cons rfl .nil)))), hM, (by omega), (fun j hj => absurd hj (Nat.not_lt_zero j))⟩ ?_
  clear hA hM a
  rintro q a w1 ⟨hA, hM, hq, hd⟩ hNext
  refine Ends.seq ?_
  refine Ends.seq ?_
  by_cases hs1 : dig s (x + q)
  ·
    have hdq := hs1
    have hdq1 := hdq.1
    have hdq2 := hdq.2
    refine Ends.region ?_
    refine S.val hA (R.move rfl) rfl ?_; clear hA a; intro a hA
    refine S.val hA (R.move rfl) rfl ?_; clear hA a; intro a hA
    refine S.val hA (R.lenStr Tryd.underlying9 rfl rfl) rfl ?_; clear hA a; intro a hA
    refine S.val hA (R.tt (R.lss rfl rfl) (by first | omega | (simp; done))) rfl ?_; clear hA a; intro a hA
    refine S.val hA (R.move rfl) rfl ?_; clear hA a; intro a hA
    refine S.valg (dj := 23) hA (by kernel_rfl) rfl (R.move rfl) rfl ?_; clear hA a; intro a hA
    refine S.valg (dj := 23) hA (by kernel_rfl) rfl (R.move rfl) rfl ?_; clear hA a; intro a hA
    refine S.valg (dj := 23) hA (by kernel_rfl) rfl (R.to (v := .int .u8 (byt s (x + q))) (R.idxS Tryd.underlying9 rfl rfl (by first | omega | (simp; done))) (by first | rfl | (congr 2; done) | (congr 2; omega))) rfl ?_; clear hA a; intro a hA
    refine S.callg (dj := 23) hA (by kernel_rfl) rfl (R.callF Tryd.func30 rfl rfl rfl) rfl ((rdig_yes (byt s (x + q)) hdq2 _)) ?_; clear hA a
    rintro e w2 ⟨rfl, hb⟩
    replace hM := hM.callB hb; clear hb
    refine ⟨.bool true, rfl, fun a hA => ?_⟩
    refine S.val hA (R.pickT rfl rfl) rfl ?_; clear hA a; intro a hA
    refine S.done ?_
    replace hA : St 66 [(0, _), (1, _), (7, _), (28, _)] a := hA.sub ((.cons rfl (.cons rfl (.cons rfl (.cons rfl .nil)))))
    refine Ends.condT hA rfl ?_
    refine Ends.skip ?_
    refine Ends.block ?_
    refine Ends.region ?_
    refine S.val hA (R.move rfl) rfl ?_; clear hA a; intro a hA
    refine S.val hA (R.addI rfl rfl (r := ((x : Int) + (q : Int)) + 1) rfl (by first | omega | (simp; done))) rfl ?_; clear hA a; intro a hA
    refine S.val hA (R.assign rfl) rfl ?_; clear hA a; intro a hA
    refine S.done ?_
    replace hA : St 66 [(0, _), (1, _), (7, _)] a := hA.sub ((.cons rfl (.cons rfl (.cons rfl .nil))))
    refine Ends.inBlock ?_
    have hdl := (hs1).1
    exact hNext ((q + 1)) _ _ ((by show s.size - (x + (q + 1)) < s.size - (x + q); omega)) ⟨hA.sub ((.cons rfl (.cons rfl (.cons rfl .nil)))), hM, (by omega), (fun j hj => by rcases Nat.lt_or_ge j q with g | g; exact hd j g; have e : j = q := (by omega); exact e ▸ hs1)⟩
  ·
    have hkq : q = k := by rw [← hk]; exact (dgs_uniq hd hs1).symm
    by_cases hs2 : x + q < s.size
    ·
      refine Ends.region ?_
      refine S.val hA (R.move rfl) rfl ?_; clear hA a; intro a hA
      refine S.val hA (R.move rfl) rfl ?_; clear hA a; intro a hA
      refine S.val hA (R.lenStr Tryd.underlying9 rfl rfl) rfl ?_; clear hA a; intro a hA
      refine S.val hA (R.tt (R.lss rfl rfl) (by first | omega | (simp; done))) rfl ?_; clear hA a; intro a hA
      refine S.val hA (R.move rfl) rfl ?_; clear hA a; intro a hA
      refine S.valg (dj := 23) hA (by kernel_rfl) rfl (R.move rfl) rfl ?_; clear hA a; intro a hA
      refine S.valg (dj := 23) hA (by kernel_rfl) rfl (R.move rfl) rfl ?_; clear hA a; intro a hA
      refine S.valg (dj := 23) hA (by kernel_rfl) rfl (R.to (v := .int .u8 (byt s (x + q))) (R.idxS Tryd.underlying9 rfl rfl (by first | omega | (simp; done))) (by first | rfl | (congr 2; done) | (congr 2; omega))) rfl ?_; clear hA a; intro a hA
      refine S.callg (dj := 23) hA (by kernel_rfl) rfl (R.callF Tryd.func30 rfl rfl rfl) rfl ((rdig_no (byt s (x + q)) (fun h => hs1 ⟨hs2, h⟩) _)) ?_; clear hA a
      rintro e w3 ⟨rfl, hb⟩
      replace hM := hM.callB hb; clear hb
      refine ⟨.bool false, rfl, fun a hA => ?_⟩
      refine S.val hA (R.pickT rfl rfl) rfl ?_; clear hA a; intro a hA
      refine S.done ?_
      replace hA : St 66 [(0, _), (1, _), (7, _), (28, _)] a := hA.sub ((.cons rfl (.cons rfl (.cons rfl (.cons rfl .nil)))))
      refine Ends.condF hA rfl ?_
      refine Ends.exit rfl ?_
      replace hA : St 66 [(0, _), (1, _), (7, _)] a := hA.sub ((.cons rfl (.cons rfl (.cons rfl .nil))))
      refine Ends.seq ?_
      refine Ends.seq ?_
      refine Ends.region ?_
      refine S.val hA (R.move rfl) rfl ?_; clear hA a; intro a hA
      refine S.val hA (R.move rfl) rfl ?_; clear hA a; intro a hA
      refine S.val hA (R.ff (R.eql rfl rfl) (by first | omega | (simp; done))) rfl ?_; clear hA a; intro a hA
      refine S.val hA (R.move rfl) rfl ?_; clear hA a; intro a hA
      refine S.valg (dj := 34) hA (by kernel_rfl) rfl (R.move rfl) rfl ?_; clear hA a; intro a hA
      refine S.valg (dj := 34) hA (by kernel_rfl) rfl (R.move rfl) rfl ?_; clear hA a; intro a hA
      refine S.valg (dj := 34) hA (by kernel_rfl) rfl (R.subI rfl rfl (r := ((x : Int) + (q : Int)) - ((x : Int))) rfl (by first | omega | (simp; done))) rfl ?_; clear hA a; intro a hA
      refine S.valg (dj := 34) hA (by kernel_rfl) rfl (R.ff (R.gtr rfl rfl) (by first | omega | (simp; done))) rfl ?_; clear hA a; intro a hA
      refine S.valg (dj := 34) hA (by kernel_rfl) rfl (R.move rfl) rfl ?_; clear hA a; intro a hA
      refine S.no (dj := 39) hA (by kernel_rfl) rfl rfl rfl ?_; clear hA a; intro a hA
      refine S.no (dj := 39) hA (by kernel_rfl) rfl rfl rfl ?_; clear hA a; intro a hA
      refine S.no (dj := 39) hA (by kernel_rfl) rfl rfl rfl ?_; clear hA a; intro a hA
      refine S.no (dj := 39) hA (by kernel_rfl) rfl rfl rfl ?_; clear hA a; intro a hA
      refine S.valg (dj := 34) hA (by kernel_rfl) rfl (R.pickF rfl rfl) rfl ?_; clear hA a; intro a hA
      refine S.val hA (R.pickF rfl rfl) rfl ?_; clear hA a; intro a hA
      refine S.done ?_
      replace hA : St 66 [(0, _), (1, _), (7, _), (45, _)] a := hA.sub ((.cons rfl (.cons rfl (.cons rfl (.cons rfl .nil)))))
      refine Ends.condF hA rfl ?_
      refine Ends.skip ?_
      refine Ends.seq ?_
      refine Ends.seq ?_
      refine Ends.region ?_
      refine S.val hA (R.move rfl) rfl ?_; clear hA a; intro a hA
      refine S.val hA (R.move rfl) rfl ?_; clear hA a; intro a hA
      refine S.val hA (R.subI rfl rfl (r := ((x : Int) + (q : Int)) - ((x : Int))) rfl (by first | omega | (simp; done))) rfl ?_; clear hA a; intro a hA
      refine S.val hA (R.ff (R.gtr rfl rfl) (by first | omega | (simp; done))) rfl ?_; clear hA a; intro a hA
      refine S.done ?_
      replace hA : St 66 [(0, _), (1, _), (7, _), (49, _)] a := hA.sub ((.cons rfl (.cons rfl (.cons rfl (.cons rfl .nil)))))
      refine Ends.condF hA rfl ?_
      refine Ends.skip ?_
      refine Ends.seq ?_
      refine Ends.region ?_
      refine S.val hA (R.assign rfl) rfl ?_; clear hA a; intro a hA
      refine S.done ?_
      replace hA : St 66 [(0, _), (1, _), (7, _), (8, _)] a := hA.sub ((.cons rfl (.cons rfl (.cons rfl (.cons rfl .nil)))))
      refine Ends.seq ?_
      refine Ends.seq ?_
      refine Ends.region ?_
      refine S.val hA (R.move rfl) rfl ?_; clear hA a; intro a hA
      refine S.val hA (R.assign rfl) rfl ?_; clear hA a; intro a hA
      refine S.done ?_
      replace hA : St 66 [(0, _), (7, _), (8, _), (9, _)] a := hA.sub ((.cons rfl (.cons rfl (.cons rfl (.cons rfl .nil)))))
      refine Ends.block ?_
      refine Ends.loop (σ := Nat) (fun j (a : Act) (wv : World) => St 66 [(0, .string s), (7, .int .i64 ((x : Int) + (q : Int))), (8, .int .i64 (numv s x j)), (9, .int .i64 ((x : Int) + (j : Int)))] a ∧ Mem w nof [] wv ∧ (j ≤ k)) (fun j => k - j) 0 ⟨hA.sub ((.cons rfl (.cons rfl (.cons rfl (.cons rfl .nil))))), hM, (Nat.zero_le _)⟩ ?_
      clear hA hM a
      rintro j a w4 ⟨hA, hM, hj⟩ hNext1
      refine Ends.seq ?_
      refine Ends.seq ?_
      refine Ends.region ?_
      refine S.val hA (R.move rfl) rfl ?_; clear hA a; intro a hA
      refine S.val hA (R.move rfl) rfl ?_; clear hA a; intro a hA
      refine S.val hA (R.lss rfl rfl) rfl ?_; clear hA a; intro a hA
      refine S.done ?_
      replace hA : St 66 [(0, _), (7, _), (8, _), (9, _), (53, _)] a := hA.sub ((.cons rfl (.cons rfl (.cons rfl (.cons rfl (.cons rfl .nil))))))
      refine Ends.ite hA rfl (fun hc3 => ?_) (fun hc3 => ?_)
      ·
        refine Ends.skip ?_
        refine Ends.seq ?_
        refine Ends.block ?_
        have hnv := numv_lt (s := s) (x := x) (k := j) (fun i hi => hdg i (by omega)) (by omega)
        have hdj := (hdg j (by omega)).2
        have hbb := byt_bd s (x + j)
        refine Ends.region ?_
        refine S.val hA (R.move rfl) rfl ?_; clear hA a; intro a hA
        refine S.val hA (R.mulI rfl rfl (r := (numv s x j) * 10) rfl (by first | omega | (simp; done))) rfl ?_; clear hA a; intro a hA
        refine S.val hA (R.move rfl) rfl ?_; clear hA a; intro a hA
        refine S.val hA (R.move rfl) rfl ?_; clear hA a; intro a hA
        refine S.val hA (R.to (v := .int .u8 (byt s (x + j))) (R.idxS Tryd.underlying9 rfl rfl (by first | omega | (simp; done))) (by first | rfl | (congr 2; done) | (congr 2; omega))) rfl ?_; clear hA a; intro a hA
        refine S.val hA (R.to (v := .int .u8 (byt s (x + j) - 48)) (R.sub rfl rfl) (congrArg (Value.int .u8) (u8_wrap (by omega)))) rfl ?_; clear hA a; intro a hA
        refine S.val hA (R.to (v := .int .i64 (byt s (x + j) - 48)) (R.conv Tryd.underlying3 Tryd.underlying5 rfl) (congrArg (Value.int .i64) (i64_wrap (by omega)))) rfl ?_; clear hA a; intro a hA
        refine S.val hA (R.addI rfl rfl (r := ((numv s x j) * 10) + (byt s (x + j) - 48)) rfl (by first | omega | (simp; done))) rfl ?_; clear hA a; intro a hA
        refine S.val hA (R.assign rfl) rfl ?_; clear hA a; intro a hA
        refine S.done ?_
        replace hA : St 66 [(0, _), (7, _), (8, _), (9, _)] a := hA.sub ((.cons rfl (.cons rfl (.cons rfl (.cons rfl .nil)))))
        refine Ends.inBlock ?_
        refine Ends.region ?_
        refine S.val hA (R.move rfl) rfl ?_; clear hA a; intro a hA
        refine S.val hA (R.addI rfl rfl (r := ((x : Int) + (j : Int)) + 1) rfl (by first | omega | (simp; done))) rfl ?_; clear hA a; intro a hA
        refine S.val hA (R.assign rfl) rfl ?_; clear hA a; intro a hA
        refine S.done ?_
        replace hA : St 66 [(0, _), (7, _), (8, _), (9, _)] a := hA.sub ((.cons rfl (.cons rfl (.cons rfl (.cons rfl .nil)))))
        exact hNext1 ((j + 1)) _ _ ((by show k - (j + 1) < k - j; omega)) ⟨hA.sub ((.cons rfl (.cons rfl (.cons rfl (.cons rfl .nil))))), hM, (by omega)⟩
      ·
        refine Ends.exit rfl ?_
        replace hA : St 66 [(7, _), (8, _)] a := hA.sub ((.cons rfl (.cons rfl .nil)))
        refine Ends.seq ?_
        refine Ends.region ?_
        refine S.val hA (R.move rfl) rfl ?_; clear hA a; intro a hA
        refine S.val hA (R.move rfl) rfl ?_; clear hA a; intro a hA
        refine S.val hA (R.assign rfl) rfl ?_; clear hA a; intro a hA
        refine S.val hA (R.assign rfl) rfl ?_; clear hA a; intro a hA
        refine S.val hA (R.assign rfl) rfl ?_; clear hA a; intro a hA
        refine S.done ?_
        replace hA : St 66 [(4, _), (5, _), (6, _)] a := hA.sub ((.cons rfl (.cons rfl (.cons rfl .nil))))
        refine Ends.ret3 Tryd.func20 Tryd.results20 hA rfl rfl rfl ?_
        have hje : j = k := by omega
        rw [hkq, hje]
        exact ⟨rfl, hM.nilL.below⟩
    ·
      refine Ends.region ?_
      refine S.val hA (R.move rfl) rfl ?_; clear hA a; intro a hA
      refine S.val hA (R.move rfl) rfl ?_; clear hA a; intro a hA
      refine S.val hA (R.lenStr Tryd.underlying9 rfl rfl) rfl ?_; clear hA a; intro a hA
      refine S.val hA (R.ff (R.lss rfl rfl) (by first | omega | (simp; done))) rfl ?_; clear hA a; intro a hA
      refine S.val hA (R.move rfl) rfl ?_; clear hA a; intro a hA
      refine S.no (dj := 23) hA (by kernel_rfl) rfl rfl rfl ?_; clear hA a; intro a hA
      refine S.no (dj := 23) hA (by kernel_rfl) rfl rfl rfl ?_; clear hA a; intro a hA
      refine S.no (dj := 23) hA (by kernel_rfl) rfl rfl rfl ?_; clear hA a; intro a hA
      refine S.no (dj := 23) hA (by kernel_rfl) rfl rfl rfl ?_; clear hA a; intro a hA
      refine S.val hA (R.pickF rfl rfl) rfl ?_; clear hA a; intro a hA
      refine S.done ?_
      replace hA : St 66 [(0, _), (1, _), (7, _), (28, _)] a := hA.sub ((.cons rfl (.cons rfl (.cons rfl (.cons rfl .nil)))))
      refine Ends.condF hA rfl ?_
      refine Ends.exit rfl ?_
      replace hA : St 66 [(0, _), (1, _), (7, _)] a := hA.sub ((.cons rfl (.cons rfl (.cons rfl .nil))))
      refine Ends.seq ?_
      refine Ends.seq ?_
      refine Ends.region ?_
      refine S.val hA (R.move rfl) rfl ?_; clear hA a; intro a hA
      refine S.val hA (R.move rfl) rfl ?_; clear hA a; intro a hA
      refine S.val hA (R.ff (R.eql rfl rfl) (by first | omega | (simp; done))) rfl ?_; clear hA a; intro a hA
      refine S.val hA (R.move rfl) rfl ?_; clear hA a; intro a hA
      refine S.valg (dj := 34) hA (by kernel_rfl) rfl (R.move rfl) rfl ?_; clear hA a; intro a hA
      refine S.valg (dj := 34) hA (by kernel_rfl) rfl (R.move rfl) rfl ?_; clear hA a; intro a hA
      refine S.valg (dj := 34) hA (by kernel_rfl) rfl (R.subI rfl rfl (r := ((x : Int) + (q : Int)) - ((x : Int))) rfl (by first | omega | (simp; done))) rfl ?_; clear hA a; intro a hA
      refine S.valg (dj := 34) hA (by kernel_rfl) rfl (R.ff (R.gtr rfl rfl) (by first | omega | (simp; done))) rfl ?_; clear hA a; intro a hA
      refine S.valg (dj := 34) hA (by kernel_rfl) rfl (R.move rfl) rfl ?_; clear hA a; intro a hA
      refine S.no (dj := 39) hA (by kernel_rfl) rfl rfl rfl ?_; clear hA a; intro a hA
      refine S.no (dj := 39) hA (by kernel_rfl) rfl rfl rfl ?_; clear hA a; intro a hA
      refine S.no (dj := 39) hA (by kernel_rfl) rfl rfl rfl ?_; clear hA a; intro a hA
      refine S.no (dj := 39) hA (by kernel_rfl) rfl rfl rfl ?_; clear hA a; intro a hA
      refine S.valg (dj := 34) hA (by kernel_rfl) rfl (R.pickF rfl rfl) rfl ?_; clear hA a; intro a hA
      refine S.val hA (R.pickF rfl rfl) rfl ?_; clear hA a; intro a hA
      refine S.done ?_
      replace hA : St 66 [(0, _), (1, _), (7, _), (45, _)] a := hA.sub ((.cons rfl (.cons rfl (.cons rfl (.cons rfl .nil)))))
      refine Ends.condF hA rfl ?_
      refine Ends.skip ?_
      refine Ends.seq ?_
      refine Ends.seq ?_
      refine Ends.region ?_
      refine S.val hA (R.move rfl) rfl ?_; clear hA a; intro a hA
      refine S.val hA (R.move rfl) rfl ?_; clear hA a; intro a hA
      refine S.val hA (R.subI rfl rfl (r := ((x : Int) + (q : Int)) - ((x : Int))) rfl (by first | omega | (simp; done))) rfl ?_; clear hA a; intro a hA
      refine S.val hA (R.ff (R.gtr rfl rfl) (by first | omega | (simp; done))) rfl ?_; clear hA a; intro a hA
      refine S.done ?_
      replace hA : St 66 [(0, _), (1, _), (7, _), (49, _)] a := hA.sub ((.cons rfl (.cons rfl (.cons rfl (.cons rfl .nil)))))
      refine Ends.condF hA rfl ?_
      refine Ends.skip ?_
      refine Ends.seq ?_
      refine Ends.region ?_
      refine S.val hA (R.assign rfl) rfl ?_; clear hA a; intro a hA
      refine S.done ?_
      replace hA : St 66 [(0, _), (1, _), (7, _), (8, _)] a := hA.sub ((.cons rfl (.cons rfl (.cons rfl (.cons rfl .nil)))))
      refine Ends.seq ?_
      refine Ends.seq ?_
      refine Ends.region ?_
      refine S.val hA (R.move rfl) rfl ?_; clear hA a; intro a hA
      refine S.val hA (R.assign rfl) rfl ?_; clear hA a; intro a hA
      refine S.done ?_
      replace hA : St 66 [(0, _), (7, _), (8, _), (9, _)] a := hA.sub ((.cons rfl (.cons rfl (.cons rfl (.cons rfl .nil)))))
      refine Ends.block ?_
      refine Ends.loop (σ := Nat) (fun j (a : Act) (wv : World) => St 66 [(0, .string s), (7, .int .i64 ((x : Int) + (q : Int))), (8, .int .i64 (numv s x j)), (9, .int .i64 ((x : Int) + (j : Int)))] a ∧ Mem w nof [] wv ∧ (j ≤ k)) (fun j => k - j) 0 ⟨hA.sub ((.cons rfl (.cons rfl (.cons rfl (.cons rfl .nil))))), hM, (Nat.zero_le _)⟩ ?_
      clear hA hM a
      rintro j a w5 ⟨hA, hM, hj⟩ hNext1
      refine Ends.seq ?_
      refine Ends.seq ?_
      refine Ends.region ?_
      refine S.val hA (R.move rfl) rfl ?_; clear hA a; intro a hA
      refine S.val hA (R.move rfl) rfl ?_; clear hA a; intro a hA
      refine S.val hA (R.lss rfl rfl) rfl ?_; clear hA a; intro a hA
      refine S.done ?_
      replace hA : St 66 [(0, _), (7, _), (8, _), (9, _), (53, _)] a := hA.sub ((.cons rfl (.cons rfl (.cons rfl (.cons rfl (.cons rfl .nil))))))
      refine Ends.ite hA rfl (fun hc4 => ?_) (fun hc4 => ?_)
      ·
        refine Ends.skip ?_
        refine Ends.seq ?_
        refine Ends.block ?_
        have hnv := numv_lt (s := s) (x := x) (k := j) (fun i hi => hdg i (by omega)) (by omega)
        have hdj := (hdg j (by omega)).2
        have hbb := byt_bd s (x + j)
        refine Ends.region ?_
        refine S.val hA (R.move rfl) rfl ?_; clear hA a; intro a hA
        refine S.val hA (R.mulI rfl rfl (r := (numv s x j) * 10) rfl (by first | omega | (simp; done))) rfl ?_; clear hA a; intro a hA
        refine S.val hA (R.move rfl) rfl ?_; clear hA a; intro a hA
        refine S.val hA (R.move rfl) rfl ?_; clear hA a; intro a hA
        refine S.val hA (R.to (v := .int .u8 (byt s (x + j))) (R.idxS Tryd.underlying9 rfl rfl (by first | omega | (simp; done))) (by first | rfl | (congr 2; done) | (congr 2; omega))) rfl ?_; clear hA a; intro a hA
        refine S.val hA (R.to (v := .int .u8 (byt s (x + j) - 48)) (R.sub rfl rfl) (congrArg (Value.int .u8) (u8_wrap (by omega)))) rfl ?_; clear hA a; intro a hA
        refine S.val hA (R.to (v := .int .i64 (byt s (x + j) - 48)) (R.conv Tryd.underlying3 Tryd.underlying5 rfl) (congrArg (Value.int .i64) (i64_wrap (by omega)))) rfl ?_; clear hA a; intro a hA
        refine S.val hA (R.addI rfl rfl (r := ((numv s x j) * 10) + (byt s (x + j) - 48)) rfl (by first | omega | (simp; done))) rfl ?_; clear hA a; intro a hA
        refine S.val hA (R.assign rfl) rfl ?_; clear hA a; intro a hA
        refine S.done ?_
        replace hA : St 66 [(0, _), (7, _), (8, _), (9, _)] a := hA.sub ((.cons rfl (.cons rfl (.cons rfl (.cons rfl .nil)))))
        refine Ends.inBlock ?_
        refine Ends.region ?_
        refine S.val hA (R.move rfl) rfl ?_; clear hA a; intro a hA
        refine S.val hA (R.addI rfl rfl (r := ((x : Int) + (j : Int)) + 1) rfl (by first | omega | (simp; done))) rfl ?_; clear hA a; intro a hA
        refine S.val hA (R.assign rfl) rfl ?_; clear hA a; intro a hA
        refine S.done ?_
        replace hA : St 66 [(0, _), (7, _), (8, _), (9, _)] a := hA.sub ((.cons rfl (.cons rfl (.cons rfl (.cons rfl .nil)))))
        exact hNext1 ((j + 1)) _ _ ((by show k - (j + 1) < k - j; omega)) ⟨hA.sub ((.cons rfl (.cons rfl (.cons rfl (.cons rfl .nil))))), hM, (by omega)⟩
      ·
        refine Ends.exit rfl ?_
        replace hA : St 66 [(7, _), (8, _)] a := hA.sub ((.cons rfl (.cons rfl .nil)))
        refine Ends.seq ?_
        refine Ends.region ?_
        refine S.val hA (R.move rfl) rfl ?_; clear hA a; intro a hA
        refine S.val hA (R.move rfl) rfl ?_; clear hA a; intro a hA
        refine S.val hA (R.assign rfl) rfl ?_; clear hA a; intro a hA
        refine S.val hA (R.assign rfl) rfl ?_; clear hA a; intro a hA
        refine S.val hA (R.assign rfl) rfl ?_; clear hA a; intro a hA
        refine S.done ?_
        replace hA : St 66 [(4, _), (5, _), (6, _)] a := hA.sub ((.cons rfl (.cons rfl (.cons rfl .nil))))
        refine Ends.ret3 Tryd.func20 Tryd.results20 hA rfl rfl rfl ?_
        have hje : j = k := by omega
        rw [hkq, hje]
        exact ⟨rfl, hM.nilL.below⟩
set_option maxRecDepth 100000 in
set_option maxHeartbeats 400000 in
theorem rread_num (s : ByteArray) (x k : Nat) (hx : x ≤ s.size) (hk : dgs s x = k) (hsz : s.size ≤ 9223372036854775807) (h : 1 < k ∧ k ≤ 18) (h0 : byt s x ≠ 48) (w : World) :
    Calls Tryd.prog 20 #[.string s, .int .i64 ((x : Int))] w fun e w' => e = .returned (.tuple #[.int .i64 (numv s x k), .int .i64 (x + k), .int .i64 (0)]) ∧ Below w.heap.size w w' := by
  have hdg : ∀ j, j < k → dig s (x + j) := fun j hj => (dgs_spec s x).1 j (by omega)
  have hle := dgs_le s hx
  rw [hk] at hle
  have hM := Mem.start w
  refine Calls.of_ends (vs := [.string s, .int .i64 ((x : Int))]) Tryd.func20 rfl Tryd.ntmps20 rfl ?_
  intro a hA
  replace hA : St 66 [(0, _), (1, _)] a := hA
  refine Ends.seq ?_
  refine Ends.region ?_
  refine S.val hA (R.assign rfl) rfl ?_; clear hA a; intro a hA
  refine S.val hA (R.assign rfl) rfl ?_; clear hA a; intro a hA
  refine S.val hA (R.assign rfl) rfl ?_; clear hA a; intro a hA
  refine S.done ?_
  replace hA : St 66 [(0, _), (1, _)] a := hA.sub ((.cons rfl (.cons rfl .nil)))
  refine Ends.seq ?_
  refine Ends.seq ?_
  refine Ends.region ?_
  refine S.val hA (R.move rfl) rfl ?_; clear hA a; intro a hA
  refine S.val hA (R.ff (R.lss rfl rfl) (by first | omega | (simp; done))) rfl ?_; clear hA a; intro a hA
  refine S.val hA (R.move rfl) rfl ?_; clear hA a; intro a hA
  refine S.valg (dj := 12) hA (by kernel_rfl) rfl (R.move rfl) rfl ?_; clear hA a; intro a hA
  refine S.valg (dj := 12) hA (by kernel_rfl) rfl (R.move rfl) rfl ?_; clear hA a; intro a hA
  refine S.valg (dj := 12) hA (by kernel_rfl) rfl (R.lenStr Tryd.underlying9 rfl rfl) rfl ?_; clear hA a; intro a hA
  refine S.valg (dj := 12) hA (by kernel_rfl) rfl (R.ff (R.gtr rfl rfl) (by first | omega | (simp; done))) rfl ?_; clear hA a; intro a hA
  refine S.val hA (R.pickF rfl rfl) rfl ?_; clear hA a; intro a hA
  refine S.done ?_
  replace hA : St 66 [(0, _), (1, _), (17, _)] a := hA.sub ((.cons rfl (.cons rfl (.cons rfl .nil))))
  refine Ends.condF hA rfl ?_
  refine Ends.skip ?_
  refine Ends.seq ?_
  refine Ends.region ?_
  refine S.val hA (R.move rfl) rfl ?_; clear hA a; intro a hA
  refine S.val hA (R.assign rfl) rfl ?_; clear hA a; intro a hA
  refine S.done ?_
  replace hA : St 66 [(0, _), (1, _), (7, _)] a := hA.sub ((.cons rfl (.cons rfl (.cons rfl .nil))))
  refine Ends.seq ?_
  refine Ends.block ?_
  refine Ends.loop (σ := Nat) (fun q (a : Act) (wv : World) => St 66 [(0, .string s), (1, .int .i64 ((x : Int))), (7, .int .i64 ((x : Int) + (q : Int)))] a ∧ Mem w nof [] wv ∧ (x + q ≤ s.size) ∧ (∀ j, j < q → dig s (x + j))) (fun q => s.size - (x + q)) 0 ⟨hA.sub ((.cons rfl (.cons rfl (.cons rfl .nil)))), hM, (by omega), (fun j hj => absurd hj (Nat.not_lt_zero j))⟩ ?_
  clear hA hM a
  rintro q a w1 ⟨hA, hM, hq, hd⟩ hNext
  refine Ends.seq ?_
  refine Ends.seq ?_
  by_cases hs1 : dig s (x + q)
  ·
    have hdq := hs1
    have hdq1 := hdq.1
    have hdq2 := hdq.2
    refine Ends.region ?_
    refine S.val hA (R.move rfl) rfl ?_; clear hA a; intro a hA
    refine S.val hA (R.move rfl) rfl ?_; clear hA a; intro a hA
    refine S.val hA (R.lenStr Tryd.underlying9 rfl rfl) rfl ?_; clear hA a; intro a hA
    refine S.val hA (R.tt (R.lss rfl rfl) (by first | omega | (simp; done))) rfl ?_; clear hA a; intro a hA
    refine S.val hA (R.move rfl) rfl ?_; clear hA a; intro a hA
    refine S.valg (dj := 23) hA (by kernel_rfl) rfl (R.move rfl) rfl ?_; clear hA a; intro a hA
    refine S.valg (dj := 23) hA (by kernel_rfl) rfl (R.move rfl) rfl ?_; clear hA a; intro a hA
    refine S.valg (dj := 23) hA (by kernel_rfl) rfl (R.to (v := .int .u8 (byt s (x + q))) (R.idxS Tryd.underlying9 rfl rfl (by first | omega | (simp; done))) (by first | rfl | (congr 2; done) | (congr 2; omega))) rfl ?_; clear hA a; intro a hA
    refine S.callg (dj := 23) hA (by kernel_rfl) rfl (R.callF Tryd.func30 rfl rfl rfl) rfl ((rdig_yes (byt s (x + q)) hdq2 _)) ?_; clear hA a
    rintro e w2 ⟨rfl, hb⟩
    replace hM := hM.callB hb; clear hb
    refine ⟨.bool true, rfl, fun a hA => ?_⟩
    refine S.val hA (R.pickT rfl rfl) rfl ?_; clear hA a; intro a hA
    refine S.done ?_
    replace hA : St 66 [(0, _), (1, _), (7, _), (28, _)] a := hA.sub ((.cons rfl (.cons rfl (.cons rfl (.cons rfl .nil)))))
    refine Ends.condT hA rfl ?_
    refine Ends.skip ?_
    refine Ends.block ?_
    refine Ends.region ?_
    refine S.val hA (R.move rfl) rfl ?_; clear hA a; intro a hA
    refine S.val hA (R.addI rfl rfl (r := ((x : Int) + (q : Int)) + 1) rfl (by first | omega | (simp; done))) rfl ?_; clear hA a; intro a hA
    refine S.val hA (R.assign rfl) rfl ?_; clear hA a; intro a hA
    refine S.done ?_
    replace hA : St 66 [(0, _), (1, _), (7, _)] a := hA.sub ((.cons rfl (.cons rfl (.cons rfl .nil))))
    refine Ends.inBlock ?_
    have hdl := (hs1).1
    exact hNext ((q + 1)) _ _ ((by show s.size - (x + (q + 1)) < s.size - (x + q); omega)) ⟨hA.sub ((.cons rfl (.cons rfl (.cons rfl .nil)))), hM, (by omega), (fun j hj => by rcases Nat.lt_or_ge j q with g | g; exact hd j g; have e : j = q := (by omega); exact e ▸ hs1)⟩
  ·
    have hkq : q = k := by rw [← hk]; exact (dgs_uniq hd hs1).symm
    by_cases hs2 : x + q < s.size
    ·
      refine Ends.region ?_
      refine S.val hA (R.move rfl) rfl ?_; clear hA a; intro a hA
      refine S.val hA (R.move rfl) rfl ?_; clear hA a; intro a hA
      refine S.val hA (R.lenStr Tryd.underlying9 rfl rfl) rfl ?_; clear hA a; intro a hA
      refine S.val hA (R.tt (R.lss rfl rfl) (by first | omega | (simp; done))) rfl ?_; clear hA a; intro a hA
      refine S.val hA (R.move rfl) rfl ?_; clear hA a; intro a hA
      refine S.valg (dj := 23) hA (by kernel_rfl) rfl (R.move rfl) rfl ?_; clear hA a; intro a hA
      refine S.valg (dj := 23) hA (by kernel_rfl) rfl (R.move rfl) rfl ?_; clear hA a; intro a hA
      refine S.valg (dj := 23) hA (by kernel_rfl) rfl (R.to (v := .int .u8 (byt s (x + q))) (R.idxS Tryd.underlying9 rfl rfl (by first | omega | (simp; done))) (by first | rfl | (congr 2; done) | (congr 2; omega))) rfl ?_; clear hA a; intro a hA
      refine S.callg (dj := 23) hA (by kernel_rfl) rfl (R.callF Tryd.func30 rfl rfl rfl) rfl ((rdig_no (byt s (x + q)) (fun h => hs1 ⟨hs2, h⟩) _)) ?_; clear hA a
      rintro e w3 ⟨rfl, hb⟩
      replace hM := hM.callB hb; clear hb
      refine ⟨.bool false, rfl, fun a hA => ?_⟩
      refine S.val hA (R.pickT rfl rfl) rfl ?_; clear hA a; intro a hA
      refine S.done ?_
      replace hA : St 66 [(0, _), (1, _), (7, _), (28, _)] a := hA.sub ((.cons rfl (.cons rfl (.cons rfl (.cons rfl .nil)))))
      refine Ends.condF hA rfl ?_
      refine Ends.exit rfl ?_
      replace hA : St 66 [(0, _), (1, _), (7, _)] a := hA.sub ((.cons rfl (.cons rfl (.cons rfl .nil))))
      refine Ends.seq ?_
      refine Ends.seq ?_
      refine Ends.region ?_
      refine S.val hA (R.move rfl) rfl ?_; clear hA a; intro a hA
      refine S.val hA (R.move rfl) rfl ?_; clear hA a; intro a hA
      refine S.val hA (R.ff (R.eql rfl rfl) (by first | omega | (simp; done))) rfl ?_; clear hA a; intro a hA
      refine S.val hA (R.move rfl) rfl ?_; clear hA a; intro a hA
      refine S.valg (dj := 34) hA (by kernel_rfl) rfl (R.move rfl) rfl ?_; clear hA a; intro a hA
      refine S.valg (dj := 34) hA (by kernel_rfl) rfl (R.move rfl) rfl ?_; clear hA a; intro a hA
      refine S.valg (dj := 34) hA (by kernel_rfl) rfl (R.subI rfl rfl (r := ((x : Int) + (q : Int)) - ((x : Int))) rfl (by first | omega | (simp; done))) rfl ?_; clear hA a; intro a hA
      refine S.valg (dj := 34) hA (by kernel_rfl) rfl (R.tt (R.gtr rfl rfl) (by first | omega | (simp; done))) rfl ?_; clear hA a; intro a hA
      refine S.valg (dj := 34) hA (by kernel_rfl) rfl (R.move rfl) rfl ?_; clear hA a; intro a hA
      refine S.valg (dj := 39) hA (by kernel_rfl) rfl (R.move rfl) rfl ?_; clear hA a; intro a hA
      refine S.valg (dj := 39) hA (by kernel_rfl) rfl (R.move rfl) rfl ?_; clear hA a; intro a hA
      refine S.valg (dj := 39) hA (by kernel_rfl) rfl (R.to (v := .int .u8 (byt s x)) (R.idxS Tryd.underlying9 rfl rfl (by first | omega | (simp; done))) (by first | rfl | (congr 2; done) | (congr 2; omega))) rfl ?_; clear hA a; intro a hA
      refine S.valg (dj := 39) hA (by kernel_rfl) rfl (R.ff (R.eql rfl rfl) (by first | omega | (simp; done))) rfl ?_; clear hA a; intro a hA
      refine S.valg (dj := 34) hA (by kernel_rfl) rfl (R.pickT rfl rfl) rfl ?_; clear hA a; intro a hA
      refine S.val hA (R.pickF rfl rfl) rfl ?_; clear hA a; intro a hA
      refine S.done ?_
      replace hA : St 66 [(0, _), (1, _), (7, _), (45, _)] a := hA.sub ((.cons rfl (.cons rfl (.cons rfl (.cons rfl .nil)))))
      refine Ends.condF hA rfl ?_
      refine Ends.skip ?_
      refine Ends.seq ?_
      refine Ends.seq ?_
      refine Ends.region ?_
      refine S.val hA (R.move rfl) rfl ?_; clear hA a; intro a hA
      refine S.val hA (R.move rfl) rfl ?_; clear hA a; intro a hA
      refine S.val hA (R.subI rfl rfl (r := ((x : Int) + (q : Int)) - ((x : Int))) rfl (by first | omega | (simp; done))) rfl ?_; clear hA a; intro a hA
      refine S.val hA (R.ff (R.gtr rfl rfl) (by first | omega | (simp; done))) rfl ?_; clear hA a; intro a hA
      refine S.done ?_
      replace hA : St 66 [(0, _), (1, _), (7, _), (49, _)] a := hA.sub ((.cons rfl (.cons rfl (.cons rfl (.cons rfl .nil)))))
      refine Ends.condF hA rfl ?_
      refine Ends.skip ?_
      refine Ends.seq ?_
      refine Ends.region ?_
      refine S.val hA (R.assign rfl) rfl ?_; clear hA a; intro a hA
      refine S.done ?_
      replace hA : St 66 [(0, _), (1, _), (7, _), (8, _)] a := hA.sub ((.cons rfl (.cons rfl (.cons rfl (.cons rfl .nil)))))
      refine Ends.seq ?_
      refine Ends.seq ?_
      refine Ends.region ?_
      refine S.val hA (R.move rfl) rfl ?_; clear hA a; intro a hA
      refine S.val hA (R.assign rfl) rfl ?_; clear hA a; intro a hA
      refine S.done ?_
      replace hA : St 66 [(0, _), (7, _), (8, _), (9, _)] a := hA.sub ((.cons rfl (.cons rfl (.cons rfl (.cons rfl .nil)))))
      refine Ends.block ?_
      refine Ends.loop (σ := Nat) (fun j (a : Act) (wv : World) => St 66 [(0, .string s), (7, .int .i64 ((x : Int) + (q : Int))), (8, .int .i64 (numv s x j)), (9, .int .i64 ((x : Int) + (j : Int)))] a ∧ Mem w nof [] wv ∧ (j ≤ k)) (fun j => k - j) 0 ⟨hA.sub ((.cons rfl (.cons rfl (.cons rfl (.cons rfl .nil))))), hM, (Nat.zero_le _)⟩ ?_
      clear hA hM a
      rintro j a w4 ⟨hA, hM, hj⟩ hNext1
      refine Ends.seq ?_
      refine Ends.seq ?_
      refine Ends.region ?_
      refine S.val hA (R.move rfl) rfl ?_; clear hA a; intro a hA
      refine S.val hA (R.move rfl) rfl ?_; clear hA a; intro a hA
      refine S.val hA (R.lss rfl rfl) rfl ?_; clear hA a; intro a hA
      refine S.done ?_
      replace hA : St 66 [(0, _), (7, _), (8, _), (9, _), (53, _)] a := hA.sub ((.cons rfl (.cons rfl (.cons rfl (.cons rfl (.cons rfl .nil))))))
      refine Ends.ite hA rfl (fun hc3 => ?_) (fun hc3 => ?_)
      ·
        refine Ends.skip ?_
        refine Ends.seq ?_
        refine Ends.block ?_
        have hnv := numv_lt (s := s) (x := x) (k := j) (fun i hi => hdg i (by omega)) (by omega)
        have hdj := (hdg j (by omega)).2
        have hbb := byt_bd s (x + j)
        refine Ends.region ?_
        refine S.val hA (R.move rfl) rfl ?_; clear hA a; intro a hA
        refine S.val hA (R.mulI rfl rfl (r := (numv s x j) * 10) rfl (by first | omega | (simp; done))) rfl ?_; clear hA a; intro a hA
        refine S.val hA (R.move rfl) rfl ?_; clear hA a; intro a hA
        refine S.val hA (R.move rfl) rfl ?_; clear hA a; intro a hA
        refine S.val hA (R.to (v := .int .u8 (byt s (x + j))) (R.idxS Tryd.underlying9 rfl rfl (by first | omega | (simp; done))) (by first | rfl | (congr 2; done) | (congr 2; omega))) rfl ?_; clear hA a; intro a hA
        refine S.val hA (R.to (v := .int .u8 (byt s (x + j) - 48)) (R.sub rfl rfl) (congrArg (Value.int .u8) (u8_wrap (by omega)))) rfl ?_; clear hA a; intro a hA
        refine S.val hA (R.to (v := .int .i64 (byt s (x + j) - 48)) (R.conv Tryd.underlying3 Tryd.underlying5 rfl) (congrArg (Value.int .i64) (i64_wrap (by omega)))) rfl ?_; clear hA a; intro a hA
        refine S.val hA (R.addI rfl rfl (r := ((numv s x j) * 10) + (byt s (x + j) - 48)) rfl (by first | omega | (simp; done))) rfl ?_; clear hA a; intro a hA
        refine S.val hA (R.assign rfl) rfl ?_; clear hA a; intro a hA
        refine S.done ?_
        replace hA : St 66 [(0, _), (7, _), (8, _), (9, _)] a := hA.sub ((.cons rfl (.cons rfl (.cons rfl (.cons rfl .nil)))))
        refine Ends.inBlock ?_
        refine Ends.region ?_
        refine S.val hA (R.move rfl) rfl ?_; clear hA a; intro a hA
        refine S.val hA (R.addI rfl rfl (r := ((x : Int) + (j : Int)) + 1) rfl (by first | omega | (simp; done))) rfl ?_; clear hA a; intro a hA
        refine S.val hA (R.assign rfl) rfl ?_; clear hA a; intro a hA
        refine S.done ?_
        replace hA : St 66 [(0, _), (7, _), (8, _), (9, _)] a := hA.sub ((.cons rfl (.cons rfl (.cons rfl (.cons rfl .nil)))))
        exact hNext1 ((j + 1)) _ _ ((by show k - (j + 1) < k - j; omega)) ⟨hA.sub ((.cons rfl (.cons rfl (.cons rfl (.cons rfl .nil))))), hM, (by omega)⟩
      ·
        refine Ends.exit rfl ?_
        replace hA : St 66 [(7, _), (8, _)] a := hA.sub ((.cons rfl (.cons rfl .nil)))
        refine Ends.seq ?_
        refine Ends.region ?_
        refine S.val hA (R.move rfl) rfl ?_; clear hA a; intro a hA
        refine S.val hA (R.move rfl) rfl ?_; clear hA a; intro a hA
        refine S.val hA (R.assign rfl) rfl ?_; clear hA a; intro a hA
        refine S.val hA (R.assign rfl) rfl ?_; clear hA a; intro a hA
        refine S.val hA (R.assign rfl) rfl ?_; clear hA a; intro a hA
        refine S.done ?_
        replace hA : St 66 [(4, _), (5, _), (6, _)] a := hA.sub ((.cons rfl (.cons rfl (.cons rfl .nil))))
        refine Ends.ret3 Tryd.func20 Tryd.results20 hA rfl rfl rfl ?_
        have hje : j = k := by omega
        rw [hkq, hje]
        exact ⟨rfl, hM.nilL.below⟩
    ·
      refine Ends.region ?_
      refine S.val hA (R.move rfl) rfl ?_; clear hA a; intro a hA
      refine S.val hA (R.move rfl) rfl ?_; clear hA a; intro a hA
      refine S.val hA (R.lenStr Tryd.underlying9 rfl rfl) rfl ?_; clear hA a; intro a hA
      refine S.val hA (R.ff (R.lss rfl rfl) (by first | omega | (simp; done))) rfl ?_; clear hA a; intro a hA
      refine S.val hA (R.move rfl) rfl ?_; clear hA a; intro a hA
      refine S.no (dj := 23) hA (by kernel_rfl) rfl rfl rfl ?_; clear hA a; intro a hA
      refine S.no (dj := 23) hA (by kernel_rfl) rfl rfl rfl ?_; clear hA a; intro a hA
      refine S.no (dj := 23) hA (by kernel_rfl) rfl rfl rfl ?_; clear hA a; intro a hA
      refine S.no (dj := 23) hA (by kernel_rfl) rfl rfl rfl ?_; clear hA a; intro a hA
      refine S.val hA (R.pickF rfl rfl) rfl ?_; clear hA a; intro a hA
      refine S.done ?_
      replace hA : St 66 [(0, _), (1, _), (7, _), (28, _)] a := hA.sub ((.cons rfl (.cons rfl (.cons rfl (.cons rfl .nil)))))
      refine Ends.condF hA rfl ?_
      refine Ends.exit rfl ?_
      replace hA : St 66 [(0, _), (1, _), (7, _)] a := hA.sub ((.cons rfl (.cons rfl (.cons rfl .nil))))
      refine Ends.seq ?_
      refine Ends.seq ?_
      refine Ends.region ?_
      refine S.val hA (R.move rfl) rfl ?_; clear hA a; intro a hA
      refine S.val hA (R.move rfl) rfl ?_; clear hA a; intro a hA
      refine S.val hA (R.ff (R.eql rfl rfl) (by first | omega | (simp; done))) rfl ?_; clear hA a; intro a hA
      refine S.val hA (R.move rfl) rfl ?_; clear hA a; intro a hA
      refine S.valg (dj := 34) hA (by kernel_rfl) rfl (R.move rfl) rfl ?_; clear hA a; intro a hA
      refine S.valg (dj := 34) hA (by kernel_rfl) rfl (R.move rfl) rfl ?_; clear hA a; intro a hA
      refine S.valg (dj := 34) hA (by kernel_rfl) rfl (R.subI rfl rfl (r := ((x : Int) + (q : Int)) - ((x : Int))) rfl (by first | omega | (simp; done))) rfl ?_; clear hA a; intro a hA
      refine S.valg (dj := 34) hA (by kernel_rfl) rfl (R.tt (R.gtr rfl rfl) (by first | omega | (simp; done))) rfl ?_; clear hA a; intro a hA
      refine S.valg (dj := 34) hA (by kernel_rfl) rfl (R.move rfl) rfl ?_; clear hA a; intro a hA
      refine S.valg (dj := 39) hA (by kernel_rfl) rfl (R.move rfl) rfl ?_; clear hA a; intro a hA
      refine S.valg (dj := 39) hA (by kernel_rfl) rfl (R.move rfl) rfl ?_; clear hA a; intro a hA
      refine S.valg (dj := 39) hA (by kernel_rfl) rfl (R.to (v := .int .u8 (byt s x)) (R.idxS Tryd.underlying9 rfl rfl (by first | omega | (simp; done))) (by first | rfl | (congr 2; done) | (congr 2; omega))) rfl ?_; clear hA a; intro a hA
      refine S.valg (dj := 39) hA (by kernel_rfl) rfl (R.ff (R.eql rfl rfl) (by first | omega | (simp; done))) rfl ?_; clear hA a; intro a hA
      refine S.valg (dj := 34) hA (by kernel_rfl) rfl (R.pickT rfl rfl) rfl ?_; clear hA a; intro a hA
      refine S.val hA (R.pickF rfl rfl) rfl ?_; clear hA a; intro a hA
      refine S.done ?_
      replace hA : St 66 [(0, _), (1, _), (7, _), (45, _)] a := hA.sub ((.cons rfl (.cons rfl (.cons rfl (.cons rfl .nil)))))
      refine Ends.condF hA rfl ?_
      refine Ends.skip ?_
      refine Ends.seq ?_
      refine Ends.seq ?_
      refine Ends.region ?_
      refine S.val hA (R.move rfl) rfl ?_; clear hA a; intro a hA
      refine S.val hA (R.move rfl) rfl ?_; clear hA a; intro a hA
      refine S.val hA (R.subI rfl rfl (r := ((x : Int) + (q : Int)) - ((x : Int))) rfl (by first | omega | (simp; done))) rfl ?_; clear hA a; intro a hA
      refine S.val hA (R.ff (R.gtr rfl rfl) (by first | omega | (simp; done))) rfl ?_; clear hA a; intro a hA
      refine S.done ?_
      replace hA : St 66 [(0, _), (1, _), (7, _), (49, _)] a := hA.sub ((.cons rfl (.cons rfl (.cons rfl (.cons rfl .nil)))))
      refine Ends.condF hA rfl ?_
      refine Ends.skip ?_
      refine Ends.seq ?_
      refine Ends.region ?_
      refine S.val hA (R.assign rfl) rfl ?_; clear hA a; intro a hA
      refine S.done ?_
      replace hA : St 66 [(0, _), (1, _), (7, _), (8, _)] a := hA.sub ((.cons rfl (.cons rfl (.cons rfl (.cons rfl .nil)))))
      refine Ends.seq ?_
      refine Ends.seq ?_
      refine Ends.region ?_
      refine S.val hA (R.move rfl) rfl ?_; clear hA a; intro a hA
      refine S.val hA (R.assign rfl) rfl ?_; clear hA a; intro a hA
      refine S.done ?_
      replace hA : St 66 [(0, _), (7, _), (8, _), (9, _)] a := hA.sub ((.cons rfl (.cons rfl (.cons rfl (.cons rfl .nil)))))
      refine Ends.block ?_
      refine Ends.loop (σ := Nat) (fun j (a : Act) (wv : World) => St 66 [(0, .string s), (7, .int .i64 ((x : Int) + (q : Int))), (8, .int .i64 (numv s x j)), (9, .int .i64 ((x : Int) + (j : Int)))] a ∧ Mem w nof [] wv ∧ (j ≤ k)) (fun j => k - j) 0 ⟨hA.sub ((.cons rfl (.cons rfl (.cons rfl (.cons rfl .nil))))), hM, (Nat.zero_le _)⟩ ?_
      clear hA hM a
      rintro j a w5 ⟨hA, hM, hj⟩ hNext1
      refine Ends.seq ?_
      refine Ends.seq ?_
      refine Ends.region ?_
      refine S.val hA (R.move rfl) rfl ?_; clear hA a; intro a hA
      refine S.val hA (R.move rfl) rfl ?_; clear hA a; intro a hA
      refine S.val hA (R.lss rfl rfl) rfl ?_; clear hA a; intro a hA
      refine S.done ?_
      replace hA : St 66 [(0, _), (7, _), (8, _), (9, _), (53, _)] a := hA.sub ((.cons rfl (.cons rfl (.cons rfl (.cons rfl (.cons rfl .nil))))))
      refine Ends.ite hA rfl (fun hc4 => ?_) (fun hc4 => ?_)
      ·
        refine Ends.skip ?_
        refine Ends.seq ?_
        refine Ends.block ?_
        have hnv := numv_lt (s := s) (x := x) (k := j) (fun i hi => hdg i (by omega)) (by omega)
        have hdj := (hdg j (by omega)).2
        have hbb := byt_bd s (x + j)
        refine Ends.region ?_
        refine S.val hA (R.move rfl) rfl ?_; clear hA a; intro a hA
        refine S.val hA (R.mulI rfl rfl (r := (numv s x j) * 10) rfl (by first | omega | (simp; done))) rfl ?_; clear hA a; intro a hA
        refine S.val hA (R.move rfl) rfl ?_; clear hA a; intro a hA
        refine S.val hA (R.move rfl) rfl ?_; clear hA a; intro a hA
        refine S.val hA (R.to (v := .int .u8 (byt s (x + j))) (R.idxS Tryd.underlying9 rfl rfl (by first | omega | (simp; done))) (by first | rfl | (congr 2; done) | (congr 2; omega))) rfl ?_; clear hA a; intro a hA
        refine S.val hA (R.to (v := .int .u8 (byt s (x + j) - 48)) (R.sub rfl rfl) (congrArg (Value.int .u8) (u8_wrap (by omega)))) rfl ?_; clear hA a; intro a hA
        refine S.val hA (R.to (v := .int .i64 (byt s (x + j) - 48)) (R.conv Tryd.underlying3 Tryd.underlying5 rfl) (congrArg (Value.int .i64) (i64_wrap (by omega)))) rfl ?_; clear hA a; intro a hA
        refine S.val hA (R.addI rfl rfl (r := ((numv s x j) * 10) + (byt s (x + j) - 48)) rfl (by first | omega | (simp; done))) rfl ?_; clear hA a; intro a hA
        refine S.val hA (R.assign rfl) rfl ?_; clear hA a; intro a hA
        refine S.done ?_
        replace hA : St 66 [(0, _), (7, _), (8, _), (9, _)] a := hA.sub ((.cons rfl (.cons rfl (.cons rfl (.cons rfl .nil)))))
        refine Ends.inBlock ?_
        refine Ends.region ?_
        refine S.val hA (R.move rfl) rfl ?_; clear hA a; intro a hA
        refine S.val hA (R.addI rfl rfl (r := ((x : Int) + (j : Int)) + 1) rfl (by first | omega | (simp; done))) rfl ?_; clear hA a; intro a hA
        refine S.val hA (R.assign rfl) rfl ?_; clear hA a; intro a hA
        refine S.done ?_
        replace hA : St 66 [(0, _), (7, _), (8, _), (9, _)] a := hA.sub ((.cons rfl (.cons rfl (.cons rfl (.cons rfl .nil)))))
        exact hNext1 ((j + 1)) _ _ ((by show k - (j + 1) < k - j; omega)) ⟨hA.sub ((.cons rfl (.cons rfl (.cons rfl (.cons rfl .nil))))), hM, (by omega)⟩
      ·
        refine Ends.exit rfl ?_
        replace hA : St 66 [(7, _), (8, _)] a := hA.sub ((.cons rfl (.cons rfl .nil)))
        refine Ends.seq ?_
        refine Ends.region ?_
        refine S.val hA (R.move rfl) rfl ?_; clear hA a; intro a hA
        refine S.val hA (R.move rfl) rfl ?_; clear hA a; intro a hA
        refine S.val hA (R.assign rfl) rfl ?_; clear hA a; intro a hA
        refine S.val hA (R.assign rfl) rfl ?_; clear hA a; intro a hA
        refine S.val hA (R.assign rfl) rfl ?_; clear hA a; intro a hA
        refine S.done ?_
        replace hA : St 66 [(4, _), (5, _), (6, _)] a := hA.sub ((.cons rfl (.cons rfl (.cons rfl .nil))))
        refine Ends.ret3 Tryd.func20 Tryd.results20 hA rfl rfl rfl ?_
        have hje : j = k := by omega
        rw [hkq, hje]
        exact ⟨rfl, hM.nilL.below⟩
theorem rread_any (s : ByteArray) (p : Int) (hsz : s.size ≤ 9223372036854775807) (w : World) : Calls Tryd.prog 20 #[.string s, .int .i64 p] w fun e w' => e = .returned (.tuple #[.int .i64 (readI s p).1, .int .i64 (readI s p).2.1, .int .i64 (readI s p).2.2]) ∧ Below w.heap.size w w' := by
  by_cases h : p < 0 ∨ (s.size : Int) < p
  · have e : readI s p = (0, 0, 1) := by unfold readI; rw [if_pos h]
    rw [e]; exact rread_out s p h w
  · obtain ⟨x, rfl⟩ : ∃ x : Nat, p = x := ⟨p.toNat, by omega⟩
    have hx : x ≤ s.size := by omega
    have ex : ((x : Int)).toNat = x := rfl
    obtain ⟨k, hk⟩ : ∃ k, dgs s x = k := ⟨_, rfl⟩
    by_cases h1 : k = 0
    · have e : readI s x = (0, 0, 4) := by unfold readI; rw [if_neg h, ex, hk, if_pos (.inl h1)]
      rw [e]; exact rread_none s x k hx hk hsz h1 w
    · by_cases h2 : 1 < k
      · by_cases h3 : byt s x = 48
        · have e : readI s x = (0, 0, 4) := by unfold readI; rw [if_neg h, ex, hk, if_pos (.inr ⟨h2, h3⟩)]
          rw [e]; exact rread_nul s x k hx hk hsz h2 h3 w
        · have hn : ¬ (k = 0 ∨ 1 < k ∧ byt s x = 48) := fun hh => hh.elim h1 (fun g => h3 g.2)
          by_cases h4 : 18 < k
          · have e : readI s x = (0, 0, 5) := by unfold readI; rw [if_neg h, ex, hk, if_neg hn, if_pos h4]
            rw [e]; exact rread_big s x k hx hk hsz h4 h3 w
          · have e : readI s x = (numv s x k, (x : Int) + (k : Int), 0) := by unfold readI; rw [if_neg h, ex, hk, if_neg hn, if_neg h4]
            rw [e]; exact rread_num s x k hx hk hsz ⟨h2, by omega⟩ h3 w
      · have hn : ¬ (k = 0 ∨ 1 < k ∧ byt s x = 48) := fun hh => hh.elim h1 (fun g => h2 g.1)
        have e : readI s x = (numv s x k, (x : Int) + (k : Int), 0) := by unfold readI; rw [if_neg h, ex, hk, if_neg hn, if_neg (by omega)]
        rw [e]; exact rread_num1 s x k hx hk hsz (by omega) w
set_option maxRecDepth 100000 in
set_option maxHeartbeats 400000 in
theorem digitReads_w (s : ByteArray) (q : Int) (w : World) (htab : Lib.TabIs Tryd.prog w "internal/strconv.uint64pow10" .u64 Lib.pow10Tab) :
    Calls Tryd.prog 7 #[.string s, .int .i64 q] w fun e w' => e = .returned (.bool true) ∧ Below w.heap.size w w' := by
  have hM := Mem.start w
  refine Calls.of_ends (vs := [.string s, .int .i64 q]) Tryd.func7 rfl Tryd.ntmps7 rfl ?_
  intro a hA
  replace hA : St 45 [(0, _), (1, _)] a := hA
  refine Ends.seq ?_
  refine Ends.region ?_
  refine S.val hA (R.assign rfl) rfl ?_; clear hA a; intro a hA
  refine S.done ?_
  replace hA : St 45 [(0, _), (1, _)] a := hA.sub ((.cons rfl (.cons rfl .nil)))
  refine Ends.seq ?_
  refine Ends.seq ?_
  refine Ends.region ?_
  refine S.val hA (R.move rfl) rfl ?_; clear hA a; intro a hA
  refine S.val hA (R.lenStr Tryd.underlying9 rfl rfl) rfl ?_; clear hA a; intro a hA
  refine S.val hA (R.gtr rfl rfl) rfl ?_; clear hA a; intro a hA
  refine S.done ?_
  replace hA : St 45 [(0, _), (1, _), (13, _)] a := hA.sub ((.cons rfl (.cons rfl (.cons rfl .nil))))
  refine Ends.ite hA rfl (fun hc1 => ?_) (fun hc1 => ?_)
  ·
    refine Ends.seq ?_
    refine Ends.region ?_
    refine S.call hA (R.callF Tryd.func18 rfl rfl rfl) rfl (digits_any _ (tab_below htab hM.nilL.below)) ?_; clear hA a
    rintro e w1 ⟨rfl, hb⟩
    replace hM := hM.callB hb; clear hb
    refine ⟨.bool true, rfl, fun a hA => ?_⟩
    refine S.val hA (R.assign rfl) rfl ?_; clear hA a; intro a hA
    refine S.done ?_
    replace hA : St 45 [(0, _), (1, _), (4, _)] a := hA.sub ((.cons rfl (.cons rfl (.cons rfl .nil))))
    refine Ends.ret1 Tryd.func7 Tryd.results7 hA rfl ?_
    exact ⟨rfl, hM.nilL.below⟩
  ·
    refine Ends.skip ?_
    refine Ends.seq ?_
    refine Ends.region ?_
    refine S.val hA (R.move rfl) rfl ?_; clear hA a; intro a hA
    refine S.val hA (R.move rfl) rfl ?_; clear hA a; intro a hA
    refine S.call hA (R.callF Tryd.func19 rfl rfl rfl) rfl (read_any s q (by omega) _) ?_; clear hA a
    rintro e w2 ⟨rfl, hb⟩
    replace hM := hM.callB hb; clear hb
    refine ⟨.tuple #[.int .i64 ((readI s q).1), .int .i64 ((readI s q).2.1), .int .i64 ((readI s q).2.2)], rfl, fun a hA => ?_⟩
    refine S.val hA (R.move rfl) rfl ?_; clear hA a; intro a hA
    refine S.val hA (R.extract (v := .int .i64 ((readI s q).1)) rfl rfl) rfl ?_; clear hA a; intro a hA
    refine S.val hA (R.extract (v := .int .i64 ((readI s q).2.1)) rfl rfl) rfl ?_; clear hA a; intro a hA
    refine S.val hA (R.extract (v := .int .i64 ((readI s q).2.2)) rfl rfl) rfl ?_; clear hA a; intro a hA
    refine S.val hA (R.assign rfl) rfl ?_; clear hA a; intro a hA
    refine S.val hA (R.assign rfl) rfl ?_; clear hA a; intro a hA
    refine S.val hA (R.assign rfl) rfl ?_; clear hA a; intro a hA
    refine S.done ?_
    replace hA : St 45 [(0, _), (1, _), (5, _), (6, _), (7, _)] a := hA.sub ((.cons rfl (.cons rfl (.cons rfl (.cons rfl (.cons rfl .nil))))))
    refine Ends.seq ?_
    refine Ends.region ?_
    refine S.val hA (R.move rfl) rfl ?_; clear hA a; intro a hA
    refine S.val hA (R.move rfl) rfl ?_; clear hA a; intro a hA
    refine S.call hA (R.callF Tryd.func20 rfl rfl rfl) rfl (rread_any s q (by omega) _) ?_; clear hA a
    rintro e w3 ⟨rfl, hb⟩
    replace hM := hM.callB hb; clear hb
    refine ⟨.tuple #[.int .i64 ((readI s q).1), .int .i64 ((readI s q).2.1), .int .i64 ((readI s q).2.2)], rfl, fun a hA => ?_⟩
    refine S.val hA (R.move rfl) rfl ?_; clear hA a; intro a hA
    refine S.val hA (R.extract (v := .int .i64 ((readI s q).1)) rfl rfl) rfl ?_; clear hA a; intro a hA
    refine S.val hA (R.extract (v := .int .i64 ((readI s q).2.1)) rfl rfl) rfl ?_; clear hA a; intro a hA
    refine S.val hA (R.extract (v := .int .i64 ((readI s q).2.2)) rfl rfl) rfl ?_; clear hA a; intro a hA
    refine S.val hA (R.assign rfl) rfl ?_; clear hA a; intro a hA
    refine S.val hA (R.assign rfl) rfl ?_; clear hA a; intro a hA
    refine S.val hA (R.assign rfl) rfl ?_; clear hA a; intro a hA
    refine S.done ?_
    replace hA : St 45 [(5, _), (6, _), (7, _), (8, _), (9, _), (10, _)] a := hA.sub ((.cons rfl (.cons rfl (.cons rfl (.cons rfl (.cons rfl (.cons rfl .nil)))))))
    refine Ends.seq ?_
    refine Ends.region ?_
    refine S.call hA (R.callF Tryd.func18 rfl rfl rfl) rfl (digits_any _ (tab_below htab hM.nilL.below)) ?_; clear hA a
    rintro e w4 ⟨rfl, hb⟩
    replace hM := hM.callB hb; clear hb
    refine ⟨.bool true, rfl, fun a hA => ?_⟩
    refine S.val hA (R.move rfl) rfl ?_; clear hA a; intro a hA
    refine S.valg (dj := 30) hA (by kernel_rfl) rfl (R.move rfl) rfl ?_; clear hA a; intro a hA
    refine S.valg (dj := 30) hA (by kernel_rfl) rfl (R.move rfl) rfl ?_; clear hA a; intro a hA
    refine S.valg (dj := 30) hA (by kernel_rfl) rfl (R.tt (R.eql rfl rfl) (by first | decide | simp | omega)) rfl ?_; clear hA a; intro a hA
    refine S.val hA (R.pickT rfl rfl) rfl ?_; clear hA a; intro a hA
    refine S.val hA (R.move rfl) rfl ?_; clear hA a; intro a hA
    refine S.valg (dj := 35) hA (by kernel_rfl) rfl (R.move rfl) rfl ?_; clear hA a; intro a hA
    refine S.valg (dj := 35) hA (by kernel_rfl) rfl (R.move rfl) rfl ?_; clear hA a; intro a hA
    refine S.valg (dj := 35) hA (by kernel_rfl) rfl (R.tt (R.eql rfl rfl) (by first | decide | simp | omega)) rfl ?_; clear hA a; intro a hA
    refine S.val hA (R.pickT rfl rfl) rfl ?_; clear hA a; intro a hA
    refine S.val hA (R.move rfl) rfl ?_; clear hA a; intro a hA
    refine S.valg (dj := 40) hA (by kernel_rfl) rfl (R.move rfl) rfl ?_; clear hA a; intro a hA
    refine S.valg (dj := 40) hA (by kernel_rfl) rfl (R.move rfl) rfl ?_; clear hA a; intro a hA
    refine S.valg (dj := 40) hA (by kernel_rfl) rfl (R.tt (R.eql rfl rfl) (by first | decide | simp | omega)) rfl ?_; clear hA a; intro a hA
    refine S.val hA (R.pickT rfl rfl) rfl ?_; clear hA a; intro a hA
    refine S.val hA (R.assign rfl) rfl ?_; clear hA a; intro a hA
    refine S.done ?_
    replace hA : St 45 [(4, _)] a := hA.sub ((.cons rfl .nil))
    refine Ends.ret1 Tryd.func7 Tryd.results7 hA rfl ?_
    exact ⟨rfl, hM.nilL.below⟩
theorem digitReads_any (s : ByteArray) (q : Int) (_hs : s.size ≤ maxLen) (_hq : (Lit.int .i64 q).wf = true) (w : World) (htab : Lib.TabIs Tryd.prog w "internal/strconv.uint64pow10" .u64 Lib.pow10Tab) : Calls Tryd.prog 7 #[.string s, .int .i64 q] w fun e w' => e = .returned (.bool true) ∧ Below w.heap.size w w' := digitReads_w s q w htab
end Go.Proofs.YtdbbigjoloinpaaDoor
