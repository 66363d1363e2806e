/-
  The contracts of package inc: the best answer so far.
-/
import Derived.Test.YtjjbognomeplbaaIncL

namespace Go.Proofs.Ytjjbognomeplbaa
open Go.RowKit

set_option maxRecDepth 100000 in
set_option maxHeartbeats 400000 in
theorem ipack_any (c p : Int) (hc : 0 ≤ c ∧ c ≤ 1125899906842624) (hp : 0 ≤ p ∧ p < 64) (w : World) :
    Calls Try.prog 70 #[.int .i64 c, .int .i64 p] w fun e w' => e = .returned (.int .i64 (c * 64 + p)) ∧ w = w' := by
  have hM := Mem.start w
  refine Calls.of_ends (vs := [.int .i64 c, .int .i64 p]) Try.func70 rfl Try.ntmps70 rfl ?_
  intro a hA
  replace hA : St 9 [(0, _), (1, _)] a := hA
  refine Ends.seq ?_
  refine Ends.region ?_
  refine S.val hA (R.assign rfl) rfl ?_; clear hA a; intro a hA
  refine S.done ?_
  replace hA : St 9 [(0, _), (1, _), (4, _)] a := hA.sub ((.cons rfl (.cons rfl (.cons rfl .nil))))
  refine Ends.seq ?_
  refine Ends.region ?_
  refine S.val hA (R.move rfl) rfl ?_; clear hA a; intro a hA
  refine S.val hA (R.to (v := .int .i64 (c * 64)) (R.shl rfl rfl (by omega)) (congrArg (Value.int .i64) (shl6 c (by omega)))) rfl ?_; clear hA a; intro a hA
  refine S.val hA (R.move rfl) rfl ?_; clear hA a; intro a hA
  refine S.val hA (R.to (v := .int .i64 (c * 64 + p)) (R.bits (by simp) rfl rfl) (congrArg (Value.int .i64) (bor6 c p (by omega) (by omega)))) rfl ?_; clear hA a; intro a hA
  refine S.val hA (R.assign rfl) rfl ?_; clear hA a; intro a hA
  refine S.done ?_
  replace hA : St 9 [(4, _)] a := hA.sub ((.cons rfl .nil))
  refine Ends.ret1 Try.func70 Try.results70 hA rfl ?_
  exact ⟨rfl, rfl⟩
set_option maxRecDepth 100000 in
set_option maxHeartbeats 400000 in
theorem iact_over (p q : Nat) (wr : Int) (av : Option Addr) (X : List Int) (cap : Nat) (co hd : Int) (rd ov tk : Bool) (w : World) (hp : w.heap[p]? = some (.cells #[.pointer (some ⟨q, 0, none⟩), .int .i64 wr, .slice av X.length cap, .int .i64 co, .bool rd, .int .i64 hd, .bool ov, .bool tk] 124 (0, 0))) :
    Calls Try.prog 34 #[.pointer (some ⟨p, 0, none⟩)] w fun e w' => e = .returned (.bool ov) ∧ w = w' := by
  have hM := Mem.start w
  refine Calls.of_ends (vs := [.pointer (some ⟨p, 0, none⟩)]) Try.func34 rfl Try.ntmps34 rfl ?_
  intro a hA
  replace hA : St 11 [(0, _)] a := hA
  refine Ends.seq ?_
  refine Ends.region ?_
  refine S.val hA (R.assign rfl) rfl ?_; clear hA a; intro a hA
  refine S.done ?_
  replace hA : St 11 [(0, _), (2, _)] a := hA.sub ((.cons rfl (.cons rfl .nil)))
  refine Ends.seq ?_
  refine Ends.region ?_
  refine S.val hA (R.move rfl) rfl ?_; clear hA a; intro a hA
  refine S.val hA (R.eqlNil Try.underlying54 rfl rfl) rfl ?_; clear hA a; intro a hA
  refine S.val hA (R.move rfl) rfl ?_; clear hA a; intro a hA
  refine S.valg (dj := 5) hA (by kernel_rfl) rfl (R.move rfl) rfl ?_; clear hA a; intro a hA
  refine S.valg (dj := 5) hA (by kernel_rfl) rfl (R.nilCheck rfl) rfl ?_; clear hA a; intro a hA
  refine S.valg (dj := 5) hA (by kernel_rfl) rfl (R.fieldAddr (q := 6) fi124_6 rfl rfl rfl) rfl ?_; clear hA a; intro a hA
  refine S.valg (dj := 5) hA (by kernel_rfl) rfl (R.load sz4 rfl (hM.cellB hp rfl)) rfl ?_; clear hA a; intro a hA
  refine S.val hA (R.pickF rfl rfl) rfl ?_; clear hA a; intro a hA
  refine S.val hA (R.assign rfl) rfl ?_; clear hA a; intro a hA
  refine S.done ?_
  replace hA : St 11 [(2, _)] a := hA.sub ((.cons rfl .nil))
  refine Ends.ret1 Try.func34 Try.results34 hA rfl ?_
  exact ⟨rfl, rfl⟩
set_option maxRecDepth 100000 in
set_option maxHeartbeats 400000 in
theorem iact_over_nil  (w : World) :
    Calls Try.prog 34 #[.pointer none] w fun e w' => e = .returned (.bool true) ∧ w = w' := by
  have hM := Mem.start w
  refine Calls.of_ends (vs := [.pointer none]) Try.func34 rfl Try.ntmps34 rfl ?_
  intro a hA
  replace hA : St 11 [(0, _)] a := hA
  refine Ends.seq ?_
  refine Ends.region ?_
  refine S.val hA (R.assign rfl) rfl ?_; clear hA a; intro a hA
  refine S.done ?_
  replace hA : St 11 [(0, _), (2, _)] a := hA.sub ((.cons rfl (.cons rfl .nil)))
  refine Ends.seq ?_
  refine Ends.region ?_
  refine S.val hA (R.move rfl) rfl ?_; clear hA a; intro a hA
  refine S.val hA (R.eqlNil Try.underlying54 rfl rfl) rfl ?_; clear hA a; intro a hA
  refine S.val hA (R.move rfl) rfl ?_; clear hA a; intro a hA
  refine S.no (dj := 5) hA (by kernel_rfl) rfl rfl rfl ?_; clear hA a; intro a hA
  refine S.no (dj := 5) hA (by kernel_rfl) rfl rfl rfl ?_; clear hA a; intro a hA
  refine S.no (dj := 5) hA (by kernel_rfl) rfl rfl rfl ?_; clear hA a; intro a hA
  refine S.no (dj := 5) hA (by kernel_rfl) rfl rfl rfl ?_; clear hA a; intro a hA
  refine S.val hA (R.pickT rfl rfl) rfl ?_; clear hA a; intro a hA
  refine S.val hA (R.assign rfl) rfl ?_; clear hA a; intro a hA
  refine S.done ?_
  replace hA : St 11 [(2, _)] a := hA.sub ((.cons rfl .nil))
  refine Ends.ret1 Try.func34 Try.results34 hA rfl ?_
  exact ⟨rfl, rfl⟩
set_option maxRecDepth 100000 in
set_option maxHeartbeats 400000 in
theorem iact_taken (p q : Nat) (wr : Int) (av : Option Addr) (X : List Int) (cap : Nat) (co hd : Int) (rd ov tk : Bool) (w : World) (hp : w.heap[p]? = some (.cells #[.pointer (some ⟨q, 0, none⟩), .int .i64 wr, .slice av X.length cap, .int .i64 co, .bool rd, .int .i64 hd, .bool ov, .bool tk] 124 (0, 0))) :
    Calls Try.prog 36 #[.pointer (some ⟨p, 0, none⟩)] w fun e w' => e = .returned (.bool tk) ∧ w = w' := by
  have hM := Mem.start w
  refine Calls.of_ends (vs := [.pointer (some ⟨p, 0, none⟩)]) Try.func36 rfl Try.ntmps36 rfl ?_
  intro a hA
  replace hA : St 11 [(0, _)] a := hA
  refine Ends.seq ?_
  refine Ends.region ?_
  refine S.val hA (R.assign rfl) rfl ?_; clear hA a; intro a hA
  refine S.done ?_
  replace hA : St 11 [(0, _), (2, _)] a := hA.sub ((.cons rfl (.cons rfl .nil)))
  refine Ends.seq ?_
  refine Ends.region ?_
  refine S.val hA (R.move rfl) rfl ?_; clear hA a; intro a hA
  refine S.val hA (R.neqNil Try.underlying54 rfl rfl) rfl ?_; clear hA a; intro a hA
  refine S.val hA (R.move rfl) rfl ?_; clear hA a; intro a hA
  refine S.valg (dj := 5) hA (by kernel_rfl) rfl (R.move rfl) rfl ?_; clear hA a; intro a hA
  refine S.valg (dj := 5) hA (by kernel_rfl) rfl (R.nilCheck rfl) rfl ?_; clear hA a; intro a hA
  refine S.valg (dj := 5) hA (by kernel_rfl) rfl (R.fieldAddr (q := 7) fi124_7 rfl rfl rfl) rfl ?_; clear hA a; intro a hA
  refine S.valg (dj := 5) hA (by kernel_rfl) rfl (R.load sz4 rfl (hM.cellB hp rfl)) rfl ?_; clear hA a; intro a hA
  refine S.val hA (R.pickT rfl rfl) rfl ?_; clear hA a; intro a hA
  refine S.val hA (R.assign rfl) rfl ?_; clear hA a; intro a hA
  refine S.done ?_
  replace hA : St 11 [(2, _)] a := hA.sub ((.cons rfl .nil))
  refine Ends.ret1 Try.func36 Try.results36 hA rfl ?_
  exact ⟨rfl, rfl⟩
set_option maxRecDepth 100000 in
set_option maxHeartbeats 400000 in
theorem iact_taken_nil  (w : World) :
    Calls Try.prog 36 #[.pointer none] w fun e w' => e = .returned (.bool false) ∧ w = w' := by
  have hM := Mem.start w
  refine Calls.of_ends (vs := [.pointer none]) Try.func36 rfl Try.ntmps36 rfl ?_
  intro a hA
  replace hA : St 11 [(0, _)] a := hA
  refine Ends.seq ?_
  refine Ends.region ?_
  refine S.val hA (R.assign rfl) rfl ?_; clear hA a; intro a hA
  refine S.done ?_
  replace hA : St 11 [(0, _), (2, _)] a := hA.sub ((.cons rfl (.cons rfl .nil)))
  refine Ends.seq ?_
  refine Ends.region ?_
  refine S.val hA (R.move rfl) rfl ?_; clear hA a; intro a hA
  refine S.val hA (R.neqNil Try.underlying54 rfl rfl) rfl ?_; clear hA a; intro a hA
  refine S.val hA (R.move rfl) rfl ?_; clear hA a; intro a hA
  refine S.no (dj := 5) hA (by kernel_rfl) rfl rfl rfl ?_; clear hA a; intro a hA
  refine S.no (dj := 5) hA (by kernel_rfl) rfl rfl rfl ?_; clear hA a; intro a hA
  refine S.no (dj := 5) hA (by kernel_rfl) rfl rfl rfl ?_; clear hA a; intro a hA
  refine S.no (dj := 5) hA (by kernel_rfl) rfl rfl rfl ?_; clear hA a; intro a hA
  refine S.val hA (R.pickF rfl rfl) rfl ?_; clear hA a; intro a hA
  refine S.val hA (R.assign rfl) rfl ?_; clear hA a; intro a hA
  refine S.done ?_
  replace hA : St 11 [(2, _)] a := hA.sub ((.cons rfl .nil))
  refine Ends.ret1 Try.func36 Try.results36 hA rfl ?_
  exact ⟨rfl, rfl⟩
set_option maxRecDepth 100000 in
set_option maxHeartbeats 400000 in
theorem istep_nil  (w : World) :
    Calls Try.prog 35 #[.pointer none] w fun e w' => e = .returned (.bool true) ∧ w = w' := by
  have hM := Mem.start w
  refine Calls.of_ends (vs := [.pointer none]) Try.func35 rfl Try.ntmps35 rfl ?_
  intro a hA
  replace hA : St 24 [(0, _)] a := hA
  refine Ends.seq ?_
  refine Ends.region ?_
  refine S.val hA (R.assign rfl) rfl ?_; clear hA a; intro a hA
  refine S.done ?_
  replace hA : St 24 [(0, _), (2, _)] a := hA.sub ((.cons rfl (.cons rfl .nil)))
  refine Ends.seq ?_
  refine Ends.block ?_
  refine Ends.seq ?_
  refine Ends.region ?_
  refine S.val hA (R.move rfl) rfl ?_; clear hA a; intro a hA
  refine S.val hA (R.eqlNil Try.underlying54 rfl rfl) rfl ?_; clear hA a; intro a hA
  refine S.val hA (R.assign rfl) rfl ?_; clear hA a; intro a hA
  refine S.done ?_
  replace hA : St 24 [(0, _), (2, _), (5, _)] a := hA.sub ((.cons rfl (.cons rfl (.cons rfl .nil))))
  refine Ends.condT hA rfl ?_
  refine Ends.seq ?_
  refine Ends.region ?_
  refine S.val hA (R.assign rfl) rfl ?_; clear hA a; intro a hA
  refine S.done ?_
  replace hA : St 24 [(0, _), (2, _)] a := hA.sub ((.cons rfl (.cons rfl .nil)))
  refine Ends.ret1 Try.func35 Try.results35 hA rfl ?_
  exact ⟨rfl, rfl⟩
set_option maxRecDepth 100000 in
set_option maxHeartbeats 400000 in
theorem ilook_nil  (w : World) :
    Calls Try.prog 32 #[.pointer none] w fun e w' => e = .returned (.int .i64 0) ∧ w = w' := by
  have hM := Mem.start w
  refine Calls.of_ends (vs := [.pointer none]) Try.func32 rfl Try.ntmps32 rfl ?_
  intro a hA
  replace hA : St 21 [(0, _)] a := hA
  refine Ends.seq ?_
  refine Ends.region ?_
  refine S.val hA (R.assign rfl) rfl ?_; clear hA a; intro a hA
  refine S.done ?_
  replace hA : St 21 [(0, _), (2, _)] a := hA.sub ((.cons rfl (.cons rfl .nil)))
  refine Ends.seq ?_
  refine Ends.seq ?_
  refine Ends.region ?_
  refine S.val hA (R.move rfl) rfl ?_; clear hA a; intro a hA
  refine S.val hA (R.eqlNil Try.underlying48 rfl rfl) rfl ?_; clear hA a; intro a hA
  refine S.done ?_
  replace hA : St 21 [(0, _), (2, _), (6, _)] a := hA.sub ((.cons rfl (.cons rfl (.cons rfl .nil))))
  refine Ends.condT hA rfl ?_
  refine Ends.seq ?_
  refine Ends.region ?_
  refine S.val hA (R.assign rfl) rfl ?_; clear hA a; intro a hA
  refine S.done ?_
  replace hA : St 21 [(0, _), (2, _)] a := hA.sub ((.cons rfl (.cons rfl .nil)))
  refine Ends.ret1 Try.func32 Try.results32 hA rfl ?_
  exact ⟨rfl, rfl⟩
set_option maxRecDepth 100000 in
set_option maxHeartbeats 400000 in
theorem ibest_nil  (w : World) :
    Calls Try.prog 30 #[.pointer none] w fun e w' => e = .returned (.tuple #[.slice none 0 0, .int .i64 0]) ∧ w = w' := by
  have hM := Mem.start w
  refine Calls.of_ends (vs := [.pointer none]) Try.func30 rfl Try.ntmps30 rfl ?_
  intro a hA
  replace hA : St 27 [(0, _)] a := hA
  refine Ends.seq ?_
  refine Ends.region ?_
  refine S.val hA (R.assign rfl) rfl ?_; clear hA a; intro a hA
  refine S.val hA (R.assign rfl) rfl ?_; clear hA a; intro a hA
  refine S.done ?_
  replace hA : St 27 [(0, _), (2, _), (3, _)] a := hA.sub ((.cons rfl (.cons rfl (.cons rfl .nil))))
  refine Ends.seq ?_
  refine Ends.seq ?_
  refine Ends.region ?_
  refine S.val hA (R.move rfl) rfl ?_; clear hA a; intro a hA
  refine S.val hA (R.eqlNil Try.underlying48 rfl rfl) rfl ?_; clear hA a; intro a hA
  refine S.done ?_
  replace hA : St 27 [(0, _), (2, _), (3, _), (6, _)] a := hA.sub ((.cons rfl (.cons rfl (.cons rfl (.cons rfl .nil)))))
  refine Ends.condT hA rfl ?_
  refine Ends.seq ?_
  refine Ends.region ?_
  refine S.val hA (R.assign rfl) rfl ?_; clear hA a; intro a hA
  refine S.val hA (R.assign rfl) rfl ?_; clear hA a; intro a hA
  refine S.done ?_
  replace hA : St 27 [(0, _), (2, _), (3, _)] a := hA.sub ((.cons rfl (.cons rfl (.cons rfl .nil))))
  refine Ends.ret2 Try.func30 Try.results30 hA rfl rfl ?_
  exact ⟨rfl, rfl⟩
set_option maxRecDepth 100000 in
set_option maxHeartbeats 400000 in
theorem ioffer_nil (wr co : Int) (w : World) :
    Calls Try.prog 33 #[.pointer none, .int .i64 wr, .slice none 0 0, .int .i64 co] w fun e w' => e = .returned (.pointer none) ∧ w = w' := by
  have hM := Mem.start w
  refine Calls.of_ends (vs := [.pointer none, .int .i64 wr, .slice none 0 0, .int .i64 co]) Try.func33 rfl Try.ntmps33 rfl ?_
  intro a hA
  replace hA : St 38 [(0, _), (1, _), (2, _), (3, _)] a := hA
  refine Ends.seq ?_
  refine Ends.region ?_
  refine S.val hA (R.assign rfl) rfl ?_; clear hA a; intro a hA
  refine S.done ?_
  replace hA : St 38 [(0, _), (1, _), (2, _), (3, _), (8, _)] a := hA.sub ((.cons rfl (.cons rfl (.cons rfl (.cons rfl (.cons rfl .nil))))))
  refine Ends.seq ?_
  refine Ends.seq ?_
  refine Ends.region ?_
  refine S.val hA (R.move rfl) rfl ?_; clear hA a; intro a hA
  refine S.val hA (R.eqlNil Try.underlying48 rfl rfl) rfl ?_; clear hA a; intro a hA
  refine S.val hA (R.move rfl) rfl ?_; clear hA a; intro a hA
  refine S.no (dj := 11) hA (by kernel_rfl) rfl rfl rfl ?_; clear hA a; intro a hA
  refine S.no (dj := 11) hA (by kernel_rfl) rfl rfl rfl ?_; clear hA a; intro a hA
  refine S.val hA (R.pickT rfl rfl) rfl ?_; clear hA a; intro a hA
  refine S.val hA (R.move rfl) rfl ?_; clear hA a; intro a hA
  refine S.no (dj := 15) hA (by kernel_rfl) rfl rfl rfl ?_; clear hA a; intro a hA
  refine S.no (dj := 15) hA (by kernel_rfl) rfl rfl rfl ?_; clear hA a; intro a hA
  refine S.no (dj := 15) hA (by kernel_rfl) rfl rfl rfl ?_; clear hA a; intro a hA
  refine S.no (dj := 15) hA (by kernel_rfl) rfl rfl rfl ?_; clear hA a; intro a hA
  refine S.no (dj := 15) hA (by kernel_rfl) rfl rfl rfl ?_; clear hA a; intro a hA
  refine S.no (dj := 15) hA (by kernel_rfl) rfl rfl rfl ?_; clear hA a; intro a hA
  refine S.val hA (R.pickT rfl rfl) rfl ?_; clear hA a; intro a hA
  refine S.val hA (R.move rfl) rfl ?_; clear hA a; intro a hA
  refine S.no (dj := 23) hA (by kernel_rfl) rfl rfl rfl ?_; clear hA a; intro a hA
  refine S.no (dj := 23) hA (by kernel_rfl) rfl rfl rfl ?_; clear hA a; intro a hA
  refine S.val hA (R.pickT rfl rfl) rfl ?_; clear hA a; intro a hA
  refine S.val hA (R.move rfl) rfl ?_; clear hA a; intro a hA
  refine S.no (dj := 27) hA (by kernel_rfl) rfl rfl rfl ?_; clear hA a; intro a hA
  refine S.no (dj := 27) hA (by kernel_rfl) rfl rfl rfl ?_; clear hA a; intro a hA
  refine S.val hA (R.pickT rfl rfl) rfl ?_; clear hA a; intro a hA
  refine S.done ?_
  replace hA : St 38 [(0, _), (1, _), (2, _), (3, _), (8, _), (30, _)] a := hA.sub ((.cons rfl (.cons rfl (.cons rfl (.cons rfl (.cons rfl (.cons rfl .nil)))))))
  refine Ends.condT hA rfl ?_
  refine Ends.seq ?_
  refine Ends.region ?_
  refine S.val hA (R.assign rfl) rfl ?_; clear hA a; intro a hA
  refine S.done ?_
  replace hA : St 38 [(0, _), (1, _), (2, _), (3, _), (8, _)] a := hA.sub ((.cons rfl (.cons rfl (.cons rfl (.cons rfl (.cons rfl .nil))))))
  refine Ends.ret1 Try.func33 Try.results33 hA rfl ?_
  exact ⟨rfl, rfl⟩
set_option maxRecDepth 100000 in
set_option maxHeartbeats 400000 in
theorem inew_nil (ix wk co : Int) (w : World) :
    Calls Try.prog 28 #[.pointer none, .int .i64 ix, .int .i64 wk, .slice none 0 0, .int .i64 co] w fun e w' => e = .returned (.tuple #[.pointer none, .int .i64 1]) ∧ w = w' := by
  have hM := Mem.start w
  refine Calls.of_ends (vs := [.pointer none, .int .i64 ix, .int .i64 wk, .slice none 0 0, .int .i64 co]) Try.func28 rfl Try.ntmps28 rfl ?_
  intro a hA
  replace hA : St 68 [(0, _), (1, _), (2, _), (3, _), (4, _)] a := hA
  refine Ends.seq ?_
  refine Ends.region ?_
  refine S.val hA (R.assign rfl) rfl ?_; clear hA a; intro a hA
  refine S.val hA (R.assign rfl) rfl ?_; clear hA a; intro a hA
  refine S.done ?_
  replace hA : St 68 [(0, _), (1, _), (2, _), (3, _), (4, _), (10, _), (11, _)] a := hA.sub ((.cons rfl (.cons rfl (.cons rfl (.cons rfl (.cons rfl (.cons rfl (.cons rfl .nil))))))))
  refine Ends.seq ?_
  refine Ends.seq ?_
  refine Ends.region ?_
  refine S.val hA (R.move rfl) rfl ?_; clear hA a; intro a hA
  refine S.val hA (R.eqlNil Try.underlying24 rfl rfl) rfl ?_; clear hA a; intro a hA
  refine S.val hA (R.move rfl) rfl ?_; clear hA a; intro a hA
  refine S.no (dj := 16) hA (by kernel_rfl) rfl rfl rfl ?_; clear hA a; intro a hA
  refine S.no (dj := 16) hA (by kernel_rfl) rfl rfl rfl ?_; clear hA a; intro a hA
  refine S.val hA (R.pickT rfl rfl) rfl ?_; clear hA a; intro a hA
  refine S.val hA (R.move rfl) rfl ?_; clear hA a; intro a hA
  refine S.no (dj := 20) hA (by kernel_rfl) rfl rfl rfl ?_; clear hA a; intro a hA
  refine S.no (dj := 20) hA (by kernel_rfl) rfl rfl rfl ?_; clear hA a; intro a hA
  refine S.no (dj := 20) hA (by kernel_rfl) rfl rfl rfl ?_; clear hA a; intro a hA
  refine S.no (dj := 20) hA (by kernel_rfl) rfl rfl rfl ?_; clear hA a; intro a hA
  refine S.val hA (R.pickT rfl rfl) rfl ?_; clear hA a; intro a hA
  refine S.val hA (R.move rfl) rfl ?_; clear hA a; intro a hA
  refine S.no (dj := 26) hA (by kernel_rfl) rfl rfl rfl ?_; clear hA a; intro a hA
  refine S.no (dj := 26) hA (by kernel_rfl) rfl rfl rfl ?_; clear hA a; intro a hA
  refine S.val hA (R.pickT rfl rfl) rfl ?_; clear hA a; intro a hA
  refine S.val hA (R.move rfl) rfl ?_; clear hA a; intro a hA
  refine S.no (dj := 30) hA (by kernel_rfl) rfl rfl rfl ?_; clear hA a; intro a hA
  refine S.no (dj := 30) hA (by kernel_rfl) rfl rfl rfl ?_; clear hA a; intro a hA
  refine S.val hA (R.pickT rfl rfl) rfl ?_; clear hA a; intro a hA
  refine S.val hA (R.move rfl) rfl ?_; clear hA a; intro a hA
  refine S.no (dj := 34) hA (by kernel_rfl) rfl rfl rfl ?_; clear hA a; intro a hA
  refine S.no (dj := 34) hA (by kernel_rfl) rfl rfl rfl ?_; clear hA a; intro a hA
  refine S.val hA (R.pickT rfl rfl) rfl ?_; clear hA a; intro a hA
  refine S.val hA (R.move rfl) rfl ?_; clear hA a; intro a hA
  refine S.no (dj := 38) hA (by kernel_rfl) rfl rfl rfl ?_; clear hA a; intro a hA
  refine S.no (dj := 38) hA (by kernel_rfl) rfl rfl rfl ?_; clear hA a; intro a hA
  refine S.val hA (R.pickT rfl rfl) rfl ?_; clear hA a; intro a hA
  refine S.done ?_
  replace hA : St 68 [(0, _), (1, _), (2, _), (3, _), (4, _), (10, _), (11, _), (41, _)] a := hA.sub ((.cons rfl (.cons rfl (.cons rfl (.cons rfl (.cons rfl (.cons rfl (.cons rfl (.cons rfl .nil)))))))))
  refine Ends.condT hA rfl ?_
  refine Ends.seq ?_
  refine Ends.region ?_
  refine S.val hA (R.assign rfl) rfl ?_; clear hA a; intro a hA
  refine S.val hA (R.assign rfl) rfl ?_; clear hA a; intro a hA
  refine S.done ?_
  replace hA : St 68 [(0, _), (1, _), (2, _), (3, _), (4, _), (10, _), (11, _)] a := hA.sub ((.cons rfl (.cons rfl (.cons rfl (.cons rfl (.cons rfl (.cons rfl (.cons rfl .nil))))))))
  refine Ends.ret2 Try.func28 Try.results28 hA rfl rfl ?_
  exact ⟨rfl, rfl⟩
set_option maxRecDepth 100000 in
set_option maxHeartbeats 400000 in
theorem ifree_eq (p q : Nat) (wr : Int) (av : Option Addr) (X : List Int) (cap : Nat) (co cc pp : Int) (rd ov tk : Bool) (hcc : 0 ≤ cc ∧ cc ≤ 1125899906842624) (hpp : 0 ≤ pp ∧ pp < 64) (hwr : 0 ≤ wr ∧ wr < 16) (hf : pp = 2 * wr) (w : World) (hp : w.heap[p]? = some (.cells #[.pointer (some ⟨q, 0, none⟩), .int .i64 wr, .slice av X.length cap, .int .i64 co, .bool rd, .int .i64 (cc * 64 + pp), .bool ov, .bool tk] 124 (0, 0))) :
    Calls Try.prog 84 #[.pointer (some ⟨p, 0, none⟩)] w fun e w' => e = .returned (.int .i64 (2 * wr + 1)) ∧ w = w' := by
  have hM := Mem.start w
  refine Calls.of_ends (vs := [.pointer (some ⟨p, 0, none⟩)]) Try.func84 rfl Try.ntmps84 rfl ?_
  intro a hA
  replace hA : St 19 [(0, _)] a := hA
  refine Ends.seq ?_
  refine Ends.region ?_
  refine S.val hA (R.assign rfl) rfl ?_; clear hA a; intro a hA
  refine S.done ?_
  replace hA : St 19 [(0, _), (2, _)] a := hA.sub ((.cons rfl (.cons rfl .nil)))
  refine Ends.seq ?_
  refine Ends.region ?_
  refine S.val hA (R.move rfl) rfl ?_; clear hA a; intro a hA
  refine S.val hA (R.nilCheck rfl) rfl ?_; clear hA a; intro a hA
  refine S.val hA (R.fieldAddr (q := 1) fi124_1 rfl rfl rfl) rfl ?_; clear hA a; intro a hA
  refine S.val hA (R.load sz3 rfl (hM.cellB hp rfl)) rfl ?_; clear hA a; intro a hA
  refine S.val hA (R.mulI rfl rfl (r := 2 * wr) rfl (by omega)) rfl ?_; clear hA a; intro a hA
  refine S.val hA (R.assign rfl) rfl ?_; clear hA a; intro a hA
  refine S.done ?_
  replace hA : St 19 [(0, _), (2, _), (3, _)] a := hA.sub ((.cons rfl (.cons rfl (.cons rfl .nil))))
  refine Ends.seq ?_
  refine Ends.seq ?_
  refine Ends.region ?_
  refine S.val hA (R.move rfl) rfl ?_; clear hA a; intro a hA
  refine S.val hA (R.nilCheck rfl) rfl ?_; clear hA a; intro a hA
  refine S.val hA (R.fieldAddr (q := 5) fi124_5 rfl rfl rfl) rfl ?_; clear hA a; intro a hA
  refine S.val hA (R.load sz3 rfl (hM.cellB hp rfl)) rfl ?_; clear hA a; intro a hA
  refine S.val hA (R.to (v := .int .i64 pp) (R.bits (by simp) rfl rfl) (congrArg (Value.int .i64) (band6 cc pp (by omega) (by omega)))) rfl ?_; clear hA a; intro a hA
  refine S.val hA (R.move rfl) rfl ?_; clear hA a; intro a hA
  refine S.val hA (R.tt (R.eql rfl rfl) (by omega)) rfl ?_; clear hA a; intro a hA
  refine S.done ?_
  replace hA : St 19 [(2, _), (3, _), (15, _)] a := hA.sub ((.cons rfl (.cons rfl (.cons rfl .nil))))
  refine Ends.condT hA rfl ?_
  refine Ends.region ?_
  refine S.val hA (R.move rfl) rfl ?_; clear hA a; intro a hA
  refine S.val hA (R.addI rfl rfl (r := (2 * wr) + 1) rfl (by omega)) rfl ?_; clear hA a; intro a hA
  refine S.val hA (R.assign rfl) rfl ?_; clear hA a; intro a hA
  refine S.done ?_
  replace hA : St 19 [(2, _), (3, _)] a := hA.sub ((.cons rfl (.cons rfl .nil)))
  refine Ends.seq ?_
  refine Ends.region ?_
  refine S.val hA (R.move rfl) rfl ?_; clear hA a; intro a hA
  refine S.val hA (R.assign rfl) rfl ?_; clear hA a; intro a hA
  refine S.done ?_
  replace hA : St 19 [(2, _)] a := hA.sub ((.cons rfl .nil))
  refine Ends.ret1 Try.func84 Try.results84 hA rfl ?_
  exact ⟨rfl, rfl⟩
set_option maxRecDepth 100000 in
set_option maxHeartbeats 400000 in
theorem ifree_ne (p q : Nat) (wr : Int) (av : Option Addr) (X : List Int) (cap : Nat) (co cc pp : Int) (rd ov tk : Bool) (hcc : 0 ≤ cc ∧ cc ≤ 1125899906842624) (hpp : 0 ≤ pp ∧ pp < 64) (hwr : 0 ≤ wr ∧ wr < 16) (hf : pp ≠ 2 * wr) (w : World) (hp : w.heap[p]? = some (.cells #[.pointer (some ⟨q, 0, none⟩), .int .i64 wr, .slice av X.length cap, .int .i64 co, .bool rd, .int .i64 (cc * 64 + pp), .bool ov, .bool tk] 124 (0, 0))) :
    Calls Try.prog 84 #[.pointer (some ⟨p, 0, none⟩)] w fun e w' => e = .returned (.int .i64 (2 * wr)) ∧ w = w' := by
  have hM := Mem.start w
  refine Calls.of_ends (vs := [.pointer (some ⟨p, 0, none⟩)]) Try.func84 rfl Try.ntmps84 rfl ?_
  intro a hA
  replace hA : St 19 [(0, _)] a := hA
  refine Ends.seq ?_
  refine Ends.region ?_
  refine S.val hA (R.assign rfl) rfl ?_; clear hA a; intro a hA
  refine S.done ?_
  replace hA : St 19 [(0, _), (2, _)] a := hA.sub ((.cons rfl (.cons rfl .nil)))
  refine Ends.seq ?_
  refine Ends.region ?_
  refine S.val hA (R.move rfl) rfl ?_; clear hA a; intro a hA
  refine S.val hA (R.nilCheck rfl) rfl ?_; clear hA a; intro a hA
  refine S.val hA (R.fieldAddr (q := 1) fi124_1 rfl rfl rfl) rfl ?_; clear hA a; intro a hA
  refine S.val hA (R.load sz3 rfl (hM.cellB hp rfl)) rfl ?_; clear hA a; intro a hA
  refine S.val hA (R.mulI rfl rfl (r := 2 * wr) rfl (by omega)) rfl ?_; clear hA a; intro a hA
  refine S.val hA (R.assign rfl) rfl ?_; clear hA a; intro a hA
  refine S.done ?_
  replace hA : St 19 [(0, _), (2, _), (3, _)] a := hA.sub ((.cons rfl (.cons rfl (.cons rfl .nil))))
  refine Ends.seq ?_
  refine Ends.seq ?_
  refine Ends.region ?_
  refine S.val hA (R.move rfl) rfl ?_; clear hA a; intro a hA
  refine S.val hA (R.nilCheck rfl) rfl ?_; clear hA a; intro a hA
  refine S.val hA (R.fieldAddr (q := 5) fi124_5 rfl rfl rfl) rfl ?_; clear hA a; intro a hA
  refine S.val hA (R.load sz3 rfl (hM.cellB hp rfl)) rfl ?_; clear hA a; intro a hA
  refine S.val hA (R.to (v := .int .i64 pp) (R.bits (by simp) rfl rfl) (congrArg (Value.int .i64) (band6 cc pp (by omega) (by omega)))) rfl ?_; clear hA a; intro a hA
  refine S.val hA (R.move rfl) rfl ?_; clear hA a; intro a hA
  refine S.val hA (R.ff (R.eql rfl rfl) (by omega)) rfl ?_; clear hA a; intro a hA
  refine S.done ?_
  replace hA : St 19 [(2, _), (3, _), (15, _)] a := hA.sub ((.cons rfl (.cons rfl (.cons rfl .nil))))
  refine Ends.condF hA rfl ?_
  refine Ends.skip ?_
  refine Ends.seq ?_
  refine Ends.region ?_
  refine S.val hA (R.move rfl) rfl ?_; clear hA a; intro a hA
  refine S.val hA (R.assign rfl) rfl ?_; clear hA a; intro a hA
  refine S.done ?_
  replace hA : St 19 [(2, _)] a := hA.sub ((.cons rfl .nil))
  refine Ends.ret1 Try.func84 Try.results84 hA rfl ?_
  exact ⟨rfl, rfl⟩
theorem ifree_any (p q : Nat) (wr : Int) (av : Option Addr) (X : List Int) (cap : Nat) (co cc pp : Int) (rd ov tk : Bool) (np : Int) (hcc : 0 ≤ cc ∧ cc ≤ 1125899906842624) (hpp : 0 ≤ pp ∧ pp < 64) (hwr : 0 ≤ wr ∧ wr < 16) (hf : (pp = 2 * wr ∧ np = 2 * wr + 1) ∨ (pp ≠ 2 * wr ∧ np = 2 * wr)) (w : World) (hp : w.heap[p]? = some (.cells #[.pointer (some ⟨q, 0, none⟩), .int .i64 wr, .slice av X.length cap, .int .i64 co, .bool rd, .int .i64 (cc * 64 + pp), .bool ov, .bool tk] 124 (0, 0))) : Calls Try.prog 84 #[.pointer (some ⟨p, 0, none⟩)] w fun e w' => e = .returned (.int .i64 np) ∧ w = w' := by
  rcases hf with ⟨h, rfl⟩ | ⟨h, rfl⟩
  · exact ifree_eq p q wr av X cap co cc pp rd ov tk hcc hpp hwr h w hp
  · exact ifree_ne p q wr av X cap co cc pp rd ov tk hcc hpp hwr h w hp
set_option maxRecDepth 100000 in
set_option maxHeartbeats 400000 in
theorem ilook_ok (q pl np_ : Nat) (ix wk : Int) (m c : Nat) (l : List Int) (s : Int) (o : CellOp) (hmc : m ≠ c) (hl : l.length ≤ 1000000) (hi : 0 ≤ ix ∧ ix < l.length) (hs : 0 ≤ s ∧ s < 9223372036854775807) (cc pp : Int) (hpp : 0 ≤ pp ∧ pp < 64) (hv : l.getD ix.toNat 0 = cc * 64 + pp) (w : World) (hM : Mem w (feet [pt q #[.pointer (some ⟨m, 0, none⟩), .int .i64 ix, .int .i64 wk, .slice (some ⟨pl, 0, none⟩) np_ np_] 119, memO m c l s o]) [pt q #[.pointer (some ⟨m, 0, none⟩), .int .i64 ix, .int .i64 wk, .slice (some ⟨pl, 0, none⟩) np_ np_] 119, memO m c l s o] w) :
    Calls Try.prog 32 #[.pointer (some ⟨q, 0, none⟩)] w fun e w' => e = .returned (.int .i64 cc) ∧ Mem w (feet [pt q #[.pointer (some ⟨m, 0, none⟩), .int .i64 ix, .int .i64 wk, .slice (some ⟨pl, 0, none⟩) np_ np_] 119, memO m c l s o]) [pt q #[.pointer (some ⟨m, 0, none⟩), .int .i64 ix, .int .i64 wk, .slice (some ⟨pl, 0, none⟩) np_ np_] 119, memO m c ((l.set ix.toNat (l.getD ix.toNat 0))) (s + 1) ⟨1, ix, l.getD ix.toNat 0, l.getD ix.toNat 0, true⟩] w' := by
  have hM0 : True := trivial  -- have hM
  refine Calls.of_ends (vs := [.pointer (some ⟨q, 0, none⟩)]) Try.func32 rfl Try.ntmps32 rfl ?_
  intro a hA
  replace hA : St 21 [(0, _)] a := hA
  refine Ends.seq ?_
  refine Ends.region ?_
  refine S.val hA (R.assign rfl) rfl ?_; clear hA a; intro a hA
  refine S.done ?_
  replace hA : St 21 [(0, _), (2, _)] a := hA.sub ((.cons rfl (.cons rfl .nil)))
  refine Ends.seq ?_
  refine Ends.seq ?_
  refine Ends.region ?_
  refine S.val hA (R.move rfl) rfl ?_; clear hA a; intro a hA
  refine S.val hA (R.eqlNil Try.underlying48 rfl rfl) rfl ?_; clear hA a; intro a hA
  refine S.done ?_
  replace hA : St 21 [(0, _), (2, _), (6, _)] a := hA.sub ((.cons rfl (.cons rfl (.cons rfl .nil))))
  refine Ends.condF hA rfl ?_
  refine Ends.skip ?_
  refine Ends.seq ?_
  refine Ends.drawn (Mem w (feet [pt q #[.pointer (some ⟨m, 0, none⟩), .int .i64 ix, .int .i64 wk, .slice (some ⟨pl, 0, none⟩) np_ np_] 119, memO m c l s o]) [pt q #[.pointer (some ⟨m, 0, none⟩), .int .i64 ix, .int .i64 wk, .slice (some ⟨pl, 0, none⟩) np_ np_] 119]) [(0, true), (1, true), (2, true), (3, true), (4, true), (5, true), (6, true), (7, true), (8, false), (9, true), (10, true), (11, true), (12, true), (13, true)] 14 mixed (by kernel_rfl) (by kernel_rfl) (by kernel_rfl) (hM.drop 1).drew ?_
  replace hM := hM.drew
  refine D.valF hA rfl (fun _ => R.move rfl) rfl ?_; clear hA a; intro a hA
  refine D.valF hA rfl (fun _ => R.nilCheck rfl) rfl ?_; clear hA a; intro a hA
  refine D.valF hA rfl (fun _ => R.fieldAddr (q := 0) fi119_0 rfl rfl rfl) rfl ?_; clear hA a; intro a hA
  refine D.val hA rfl (by kernel_rfl) (fun _ hM => R.load sz24 rfl (hM.cell (k := 0) rfl rfl)) rfl ?_; clear hA a; intro a hA
  refine D.valF hA rfl (fun _ => R.move rfl) rfl ?_; clear hA a; intro a hA
  refine D.valF hA rfl (fun _ => R.nilCheck rfl) rfl ?_; clear hA a; intro a hA
  refine D.valF hA rfl (fun _ => R.fieldAddr (q := 1) fi119_1 rfl rfl rfl) rfl ?_; clear hA a; intro a hA
  refine D.val hA rfl (by kernel_rfl) (fun _ hM => R.load sz3 rfl (hM.cell (k := 0) rfl rfl)) rfl ?_; clear hA a; intro a hA
  refine D.call hA rfl (R.callF Try.func63 rfl rfl rfl) rfl (get_ok m c l s o hmc ix (by omega) (by first | omega | (simp; omega)) (by omega) _ (hM.mem (k := 1) rfl)) ?_; clear hA a
  rintro e w1 ⟨rfl, hn⟩
  replace hM : Mem _ _ [memO m c ((l.set ix.toNat (l.getD ix.toNat 0))) (s + 1) ⟨1, ix, l.getD ix.toNat 0, l.getD ix.toNat 0, true⟩, pt q #[.pointer (some ⟨m, 0, none⟩), .int .i64 ix, .int .i64 wk, .slice (some ⟨pl, 0, none⟩) np_ np_] 119] _ := hM.callW (k := 1) rfl hn (fun _ h => h); clear hn
  refine ⟨.tuple #[.int .i64 (l.getD ix.toNat 0), .int .i64 0], rfl, (hM.drop 0), fun a hA => ?_⟩
  refine D.valF hA rfl (fun _ => R.move rfl) rfl ?_; clear hA a; intro a hA
  refine D.valF hA rfl (fun _ => R.extract (v := .int .i64 (l.getD ix.toNat 0)) rfl rfl) rfl ?_; clear hA a; intro a hA
  refine D.valF hA rfl (fun _ => R.extract (v := .int .i64 0) rfl rfl) rfl ?_; clear hA a; intro a hA
  refine D.valF hA rfl (fun _ => R.assign rfl) rfl ?_; clear hA a; intro a hA
  refine D.valF hA rfl (fun _ => R.assign rfl) rfl ?_; clear hA a; intro a hA
  refine D.done ?_
  replace hA : St 21 [(2, _), (3, _)] a := hA.sub ((.cons rfl (.cons rfl .nil)))
  refine Ends.seq ?_
  refine Ends.region ?_
  refine S.val hA (R.move rfl) rfl ?_; clear hA a; intro a hA
  refine S.val hA (R.to (v := .int .i64 cc) (R.shr rfl rfl (by omega)) (congrArg (Value.int .i64) (by rw [hv]; exact shr6 cc pp (by omega)))) rfl ?_; clear hA a; intro a hA
  refine S.val hA (R.assign rfl) rfl ?_; clear hA a; intro a hA
  refine S.done ?_
  replace hA : St 21 [(2, _)] a := hA.sub ((.cons rfl .nil))
  refine Ends.ret1 Try.func32 Try.results32 hA rfl ?_
  replace hM := hM.front (k := 1) rfl
  replace hM : Mem _ _ [pt q #[.pointer (some ⟨m, 0, none⟩), .int .i64 ix, .int .i64 wk, .slice (some ⟨pl, 0, none⟩) np_ np_] 119, memO m c ((l.set ix.toNat (l.getD ix.toNat 0))) (s + 1) ⟨1, ix, l.getD ix.toNat 0, l.getD ix.toNat 0, true⟩] _ := hM
  exact ⟨rfl, hM.firstN 2⟩
set_option maxRecDepth 100000 in
set_option maxHeartbeats 400000 in
theorem inew_ok (m c : Nat) (l : List Int) (s : Int) (o : CellOp) (hmc : m ≠ c) (ix wk co : Int) (av : Option Addr) (X : List Int) (cap : Nat) (hl : l.length ≤ 1000000) (hX : X.length ≤ 1000) (hi : 0 ≤ ix ∧ ix < l.length) (hwk : 1 ≤ wk ∧ wk ≤ 16) (hco : 0 ≤ co ∧ co ≤ 1125899906842624) (hs : 0 ≤ s ∧ s < 9223372036854775807) (w : World) (hM : Mem w (feet [own 3 1 (.slice av X.length cap) X.length (X.map (Value.int .i64)), memO m c l s o]) [own 3 1 (.slice av X.length cap) X.length (X.map (Value.int .i64)), memO m c l s o] w) :
    Calls Try.prog 28 #[.pointer (some ⟨m, 0, none⟩), .int .i64 ix, .int .i64 wk, .slice av X.length cap, .int .i64 co] w fun e w' => ∃ q pl a2 c2, e = .returned (.tuple #[.pointer (some ⟨q, 0, none⟩), .int .i64 0]) ∧ Mem w (feet [own 3 1 (.slice av X.length cap) X.length (X.map (Value.int .i64)), memO m c l s o]) [pt q #[.pointer (some ⟨m, 0, none⟩), .int .i64 ix, .int .i64 wk, .slice (some ⟨pl, 0, none⟩) (2 * wk + 1).toNat (2 * wk + 1).toNat] 119, pt pl (vals ((nils (2 * wk + 1).toNat).set (2 * wk).toNat (.slice a2 X.length c2))) 43, own 3 1 (.slice a2 X.length c2) X.length (X.map (Value.int .i64)), memO m c (l.set ix.toNat (co * 64 + 2 * wk)) (s + 1) ⟨2, ix, l.getD ix.toNat 0, co * 64 + 2 * wk, true⟩] w' := by
  have hM0 : True := trivial  -- have hM
  refine Calls.of_ends (vs := [.pointer (some ⟨m, 0, none⟩), .int .i64 ix, .int .i64 wk, .slice av X.length cap, .int .i64 co]) Try.func28 rfl Try.ntmps28 rfl ?_
  intro a hA
  replace hA : St 68 [(0, _), (1, _), (2, _), (3, _), (4, _)] a := hA
  refine Ends.seq ?_
  refine Ends.region ?_
  refine S.val hA (R.assign rfl) rfl ?_; clear hA a; intro a hA
  refine S.val hA (R.assign rfl) rfl ?_; clear hA a; intro a hA
  refine S.done ?_
  replace hA : St 68 [(0, _), (1, _), (2, _), (3, _), (4, _), (10, _), (11, _)] a := hA.sub ((.cons rfl (.cons rfl (.cons rfl (.cons rfl (.cons rfl (.cons rfl (.cons rfl .nil))))))))
  refine Ends.seq ?_
  refine Ends.seq ?_
  refine Ends.region ?_
  refine S.val hA (R.move rfl) rfl ?_; clear hA a; intro a hA
  refine S.val hA (R.eqlNil Try.underlying24 rfl rfl) rfl ?_; clear hA a; intro a hA
  refine S.val hA (R.move rfl) rfl ?_; clear hA a; intro a hA
  refine S.valg (dj := 16) hA (by kernel_rfl) rfl (R.move rfl) rfl ?_; clear hA a; intro a hA
  refine S.valg (dj := 16) hA (by kernel_rfl) rfl (R.ff (R.lss rfl rfl) (by omega)) rfl ?_; clear hA a; intro a hA
  refine S.val hA (R.pickF rfl rfl) rfl ?_; clear hA a; intro a hA
  refine S.val hA (R.move rfl) rfl ?_; clear hA a; intro a hA
  refine S.valg (dj := 20) hA (by kernel_rfl) rfl (R.move rfl) rfl ?_; clear hA a; intro a hA
  refine S.valg (dj := 20) hA (by kernel_rfl) rfl (R.move rfl) rfl ?_; clear hA a; intro a hA
  refine S.callg (dj := 20) hA (by kernel_rfl) rfl (R.callF Try.func66 rfl rfl rfl) rfl (size_ok m c l s o hmc _ (hM.mem (k := 1) rfl)) ?_; clear hA a
  rintro e w1 ⟨rfl, rfl⟩
  refine ⟨.int .i64 ((l.length : Int)), rfl, fun a hA => ?_⟩
  refine S.valg (dj := 20) hA (by kernel_rfl) rfl (R.ff (R.geq rfl rfl) (by omega)) rfl ?_; clear hA a; intro a hA
  refine S.val hA (R.pickF rfl rfl) rfl ?_; clear hA a; intro a hA
  refine S.val hA (R.move rfl) rfl ?_; clear hA a; intro a hA
  refine S.valg (dj := 26) hA (by kernel_rfl) rfl (R.move rfl) rfl ?_; clear hA a; intro a hA
  refine S.valg (dj := 26) hA (by kernel_rfl) rfl (R.ff (R.lss rfl rfl) (by omega)) rfl ?_; clear hA a; intro a hA
  refine S.val hA (R.pickF rfl rfl) rfl ?_; clear hA a; intro a hA
  refine S.val hA (R.move rfl) rfl ?_; clear hA a; intro a hA
  refine S.valg (dj := 30) hA (by kernel_rfl) rfl (R.move rfl) rfl ?_; clear hA a; intro a hA
  refine S.valg (dj := 30) hA (by kernel_rfl) rfl (R.ff (R.gtr rfl rfl) (by omega)) rfl ?_; clear hA a; intro a hA
  refine S.val hA (R.pickF rfl rfl) rfl ?_; clear hA a; intro a hA
  refine S.val hA (R.move rfl) rfl ?_; clear hA a; intro a hA
  refine S.valg (dj := 34) hA (by kernel_rfl) rfl (R.move rfl) rfl ?_; clear hA a; intro a hA
  refine S.valg (dj := 34) hA (by kernel_rfl) rfl (R.ff (R.lss rfl rfl) (by omega)) rfl ?_; clear hA a; intro a hA
  refine S.val hA (R.pickF rfl rfl) rfl ?_; clear hA a; intro a hA
  refine S.val hA (R.move rfl) rfl ?_; clear hA a; intro a hA
  refine S.valg (dj := 38) hA (by kernel_rfl) rfl (R.move rfl) rfl ?_; clear hA a; intro a hA
  refine S.valg (dj := 38) hA (by kernel_rfl) rfl (R.ff (R.gtr rfl rfl) (by omega)) rfl ?_; clear hA a; intro a hA
  refine S.val hA (R.pickF rfl rfl) rfl ?_; clear hA a; intro a hA
  refine S.done ?_
  replace hA : St 68 [(0, _), (1, _), (2, _), (3, _), (4, _), (10, _), (11, _), (41, _)] a := hA.sub ((.cons rfl (.cons rfl (.cons rfl (.cons rfl (.cons rfl (.cons rfl (.cons rfl (.cons rfl .nil)))))))))
  refine Ends.condF hA rfl ?_
  refine Ends.skip ?_
  refine Ends.seq ?_
  refine Ends.region ?_
  refine S.val hA (R.move rfl) rfl ?_; clear hA a; intro a hA
  refine S.val hA (R.move rfl) rfl ?_; clear hA a; intro a hA
  refine S.val hA (R.move rfl) rfl ?_; clear hA a; intro a hA
  refine S.val hA (R.move rfl) rfl ?_; clear hA a; intro a hA
  refine S.val hA (R.mulI rfl rfl (r := 2 * wk) rfl (by omega)) rfl ?_; clear hA a; intro a hA
  refine S.val hA (R.addI rfl rfl (r := (2 * wk) + 1) rfl (by omega)) rfl ?_; clear hA a; intro a hA
  refine S.make hA hM Try.underlying95 info43 rfl rfl rfl (by omega) (by show (24 : Int) * _ ≤ _; omega) (by omega) rfl ?_; clear hA hM a; intro b1 w2 hb2 hM a hA
  replace hM : Mem _ _ [pt b1 (madeCells #[.slice none 0 0] (((2 * wk) + 1).toNat * 1)) 43, own 3 1 (.slice av X.length cap) X.length (X.map (Value.int .i64)), memO m c l s o] _ := hM
  rw [Nat.mul_one, made_vals] at hM
  replace hM : Mem _ _ [pt b1 ((vals (nils (((2 * wk) + 1).toNat)))) 43, own 3 1 (.slice av X.length cap) X.length (X.map (Value.int .i64)), memO m c l s o] _ := hM
  refine S.val hA (R.build (cells := #[.pointer (some ⟨m, 0, none⟩), .int .i64 ix, .int .i64 wk, .slice (some ⟨b1, 0, none⟩) (((2 * wk) + 1).toNat) (((2 * wk) + 1).toNat)]) rfl (by kernel_rfl)) rfl ?_; clear hA a; intro a hA
  refine S.box hA hM rfl rfl ?_; clear hA hM a; intro b3 w3 hb4 hM a hA
  replace hM : Mem _ _ [pt b3 #[.pointer (some ⟨m, 0, none⟩), .int .i64 ix, .int .i64 wk, .slice (some ⟨b1, 0, none⟩) (((2 * wk) + 1).toNat) (((2 * wk) + 1).toNat)] 119, pt b1 ((vals (nils (((2 * wk) + 1).toNat)))) 43, own 3 1 (.slice av X.length cap) X.length (X.map (Value.int .i64)), memO m c l s o] _ := hM
  refine S.val hA (R.assign rfl) rfl ?_; clear hA a; intro a hA
  refine S.done ?_
  replace hA : St 68 [(0, _), (1, _), (2, _), (3, _), (4, _), (10, _), (11, _), (12, _)] a := hA.sub ((.cons rfl (.cons rfl (.cons rfl (.cons rfl (.cons rfl (.cons rfl (.cons rfl (.cons rfl .nil)))))))))
  refine Ends.seq ?_
  refine Ends.region ?_
  refine S.val hA (R.move rfl) rfl ?_; clear hA a; intro a hA
  refine S.val hA (R.mulI rfl rfl (r := 2 * wk) rfl (by omega)) rfl ?_; clear hA a; intro a hA
  refine S.val hA (R.assign rfl) rfl ?_; clear hA a; intro a hA
  refine S.done ?_
  replace hA : St 68 [(0, _), (1, _), (3, _), (4, _), (10, _), (11, _), (12, _), (13, _)] a := hA.sub ((.cons rfl (.cons rfl (.cons rfl (.cons rfl (.cons rfl (.cons rfl (.cons rfl (.cons rfl .nil)))))))))
  refine Ends.seq ?_
  refine Ends.drawn (Mem w (feet [own 3 1 (.slice av X.length cap) X.length (X.map (Value.int .i64)), memO m c l s o]) [pt b3 #[.pointer (some ⟨m, 0, none⟩), .int .i64 ix, .int .i64 wk, .slice (some ⟨b1, 0, none⟩) (((2 * wk) + 1).toNat) (((2 * wk) + 1).toNat)] 119, pt b1 ((vals (nils (((2 * wk) + 1).toNat)))) 43, own 3 1 (.slice av X.length cap) X.length (X.map (Value.int .i64))]) [(0, true), (1, true), (2, true), (3, true), (4, true), (5, true), (6, false), (7, true), (8, false)] 8 mixed (by kernel_rfl) (by kernel_rfl) (by kernel_rfl) (hM.drop 3).drew ?_
  replace hM := hM.drew
  refine D.valF hA rfl (fun _ => R.move rfl) rfl ?_; clear hA a; intro a hA
  refine D.valF hA rfl (fun _ => R.nilCheck rfl) rfl ?_; clear hA a; intro a hA
  refine D.valF hA rfl (fun _ => R.fieldAddr (q := 3) fi119_3 rfl rfl rfl) rfl ?_; clear hA a; intro a hA
  refine D.val hA rfl (by kernel_rfl) (fun _ hM => R.load sz95 rfl (hM.cell (k := 0) rfl rfl)) rfl ?_; clear hA a; intro a hA
  refine D.valF hA rfl (fun _ => R.move rfl) rfl ?_; clear hA a; intro a hA
  refine D.valF hA rfl (fun _ => R.move rfl) rfl ?_; clear hA a; intro a hA
  refine D.call hA rfl (R.callF Try.func69 rfl rfl rfl) rfl (clone_own av cap X (by first | decide | simp | omega) _ (hM.mem (k := 2) rfl)) ?_; clear hA a
  rintro e w4 ⟨a5, c6, rfl, hn⟩
  replace hM : Mem _ _ [own 3 1 (.slice a5 X.length c6) X.length (X.map (Value.int .i64)), pt b3 #[.pointer (some ⟨m, 0, none⟩), .int .i64 ix, .int .i64 wk, .slice (some ⟨b1, 0, none⟩) (((2 * wk) + 1).toNat) (((2 * wk) + 1).toNat)] 119, pt b1 ((vals (nils (((2 * wk) + 1).toNat)))) 43, own 3 1 (.slice av X.length cap) X.length (X.map (Value.int .i64)), memO m c l s o] _ := hM.call hn; clear hn
  refine ⟨.slice a5 X.length c6, rfl, ((hM.drop 4).drop 0), fun a hA => ?_⟩
  refine D.valF hA rfl (fun _ => R.indexAddr (q := (2 * wk).toNat) sl95 rfl rfl (by omega) (by omega)) rfl ?_; clear hA a; intro a hA
  refine D.store (k := 2) hA hM rfl sz43 rfl rfl rfl rfl (vals_get _ _ (by simp only [nils, List.length_replicate]; omega)) ?_; clear hM
  intro w5 hM; refine ⟨fun hne => absurd rfl hne, ?_⟩
  rw [vals_set] at hM
  replace hM : Mem _ _ [own 3 1 (.slice a5 X.length c6) X.length (X.map (Value.int .i64)), pt b3 #[.pointer (some ⟨m, 0, none⟩), .int .i64 ix, .int .i64 wk, .slice (some ⟨b1, 0, none⟩) (((2 * wk) + 1).toNat) (((2 * wk) + 1).toNat)] 119, pt b1 ((vals (((nils (((2 * wk) + 1).toNat))).set ((2 * wk).toNat) (.slice a5 X.length c6)))) 43, own 3 1 (.slice av X.length cap) X.length (X.map (Value.int .i64)), memO m c l s o] _ := hM
  refine D.done ?_
  replace hA : St 68 [(0, _), (1, _), (4, _), (10, _), (11, _), (12, _), (13, _)] a := hA.sub ((.cons rfl (.cons rfl (.cons rfl (.cons rfl (.cons rfl (.cons rfl (.cons rfl .nil))))))))
  refine Ends.seq ?_
  refine Ends.region ?_
  refine S.val hA (R.move rfl) rfl ?_; clear hA a; intro a hA
  refine S.val hA (R.move rfl) rfl ?_; clear hA a; intro a hA
  refine S.val hA (R.move rfl) rfl ?_; clear hA a; intro a hA
  refine S.val hA (R.move rfl) rfl ?_; clear hA a; intro a hA
  refine S.call hA (R.callF Try.func70 rfl rfl rfl) rfl (ipack_any co (2 * wk) (by omega) (by omega) _) ?_; clear hA a
  rintro e w6 ⟨rfl, rfl⟩
  refine ⟨.int .i64 (co * 64 + (2 * wk)), rfl, fun a hA => ?_⟩
  refine S.call hA (R.callF Try.func67 rfl rfl rfl) rfl (set_ok m c l s o hmc ix (co * 64 + (2 * wk)) (by omega) (by first | omega | (simp; omega)) (by omega) _ (hM.mem (k := 4) rfl)) ?_; clear hA a
  rintro e w7 ⟨rfl, hn⟩
  replace hM : Mem _ _ [memO m c ((l.set ix.toNat (co * 64 + (2 * wk)))) (s + 1) ⟨2, ix, l.getD ix.toNat 0, co * 64 + (2 * wk), true⟩, own 3 1 (.slice a5 X.length c6) X.length (X.map (Value.int .i64)), pt b3 #[.pointer (some ⟨m, 0, none⟩), .int .i64 ix, .int .i64 wk, .slice (some ⟨b1, 0, none⟩) (((2 * wk) + 1).toNat) (((2 * wk) + 1).toNat)] 119, pt b1 ((vals (((nils (((2 * wk) + 1).toNat))).set ((2 * wk).toNat) (.slice a5 X.length c6)))) 43, own 3 1 (.slice av X.length cap) X.length (X.map (Value.int .i64))] _ := hM.callW (k := 4) rfl hn (fun _ h => h); clear hn
  refine ⟨.int .i64 0, rfl, fun a hA => ?_⟩
  refine S.done ?_
  replace hA : St 68 [(10, _), (11, _), (12, _)] a := hA.sub ((.cons rfl (.cons rfl (.cons rfl .nil))))
  refine Ends.seq ?_
  refine Ends.region ?_
  refine S.val hA (R.move rfl) rfl ?_; clear hA a; intro a hA
  refine S.val hA (R.assign rfl) rfl ?_; clear hA a; intro a hA
  refine S.val hA (R.assign rfl) rfl ?_; clear hA a; intro a hA
  refine S.done ?_
  replace hA : St 68 [(10, _), (11, _)] a := hA.sub ((.cons rfl (.cons rfl .nil)))
  refine Ends.ret2 Try.func28 Try.results28 hA rfl rfl ?_
  replace hM := hM.front (k := 1) rfl
  replace hM := hM.front (k := 3) rfl
  replace hM := hM.front (k := 3) rfl
  replace hM : Mem _ _ [pt b3 #[.pointer (some ⟨m, 0, none⟩), .int .i64 ix, .int .i64 wk, .slice (some ⟨b1, 0, none⟩) (((2 * wk) + 1).toNat) (((2 * wk) + 1).toNat)] 119, pt b1 ((vals (((nils (((2 * wk) + 1).toNat))).set ((2 * wk).toNat) (.slice a5 X.length c6)))) 43, own 3 1 (.slice a5 X.length c6) X.length (X.map (Value.int .i64)), memO m c ((l.set ix.toNat (co * 64 + (2 * wk)))) (s + 1) ⟨2, ix, l.getD ix.toNat 0, co * 64 + (2 * wk), true⟩, own 3 1 (.slice av X.length cap) X.length (X.map (Value.int .i64))] _ := hM
  exact ⟨_, _, _, _, rfl, hM.firstN 4⟩
set_option maxRecDepth 100000 in
set_option maxHeartbeats 400000 in
theorem inew_bad (m c : Nat) (l : List Int) (s : Int) (o : CellOp) (hmc : m ≠ c) (ix wk co : Int) (av : Option Addr) (X : List Int) (cap : Nat) (hl : l.length ≤ 1000000) (hbad : ¬ (0 ≤ ix ∧ ix < l.length ∧ 1 ≤ wk ∧ wk ≤ 16 ∧ 0 ≤ co ∧ co ≤ 1125899906842624)) (w : World) (hM : Mem w (feet [own 3 1 (.slice av X.length cap) X.length (X.map (Value.int .i64)), memO m c l s o]) [own 3 1 (.slice av X.length cap) X.length (X.map (Value.int .i64)), memO m c l s o] w) :
    Calls Try.prog 28 #[.pointer (some ⟨m, 0, none⟩), .int .i64 ix, .int .i64 wk, .slice av X.length cap, .int .i64 co] w fun e w' => e = .returned (.tuple #[.pointer none, .int .i64 1]) ∧ Mem w (feet [own 3 1 (.slice av X.length cap) X.length (X.map (Value.int .i64)), memO m c l s o]) [own 3 1 (.slice av X.length cap) X.length (X.map (Value.int .i64)), memO m c l s o] w' := by
  have hM0 : True := trivial  -- have hM
  refine Calls.of_ends (vs := [.pointer (some ⟨m, 0, none⟩), .int .i64 ix, .int .i64 wk, .slice av X.length cap, .int .i64 co]) Try.func28 rfl Try.ntmps28 rfl ?_
  intro a hA
  replace hA : St 68 [(0, _), (1, _), (2, _), (3, _), (4, _)] a := hA
  refine Ends.seq ?_
  refine Ends.region ?_
  refine S.val hA (R.assign rfl) rfl ?_; clear hA a; intro a hA
  refine S.val hA (R.assign rfl) rfl ?_; clear hA a; intro a hA
  refine S.done ?_
  replace hA : St 68 [(0, _), (1, _), (2, _), (3, _), (4, _), (10, _), (11, _)] a := hA.sub ((.cons rfl (.cons rfl (.cons rfl (.cons rfl (.cons rfl (.cons rfl (.cons rfl .nil))))))))
  refine Ends.seq ?_
  refine Ends.seq ?_
  refine Ends.cut (fun (a : Act) (wv : World) => St 68 [(0, .pointer (some ⟨m, 0, none⟩)), (1, .int .i64 ix), (2, .int .i64 wk), (3, .slice av X.length cap), (4, .int .i64 co), (10, .pointer none), (11, .int .i64 0), (41, .bool (decide ((((((ix < 0 ∨ ((l.length : Int)) ≤ ix) ∨ wk < 1) ∨ 16 < wk) ∨ co < 0) ∨ 1125899906842624 < co))))] a ∧ Mem w (feet [own 3 1 (.slice av X.length cap) X.length (X.map (Value.int .i64)), memO m c l s o]) [own 3 1 (.slice av X.length cap) X.length (X.map (Value.int .i64)), memO m c l s o] wv) ?_ (fun k2 hJ => ?_)
  · clear hA hM a; rintro a w1 ⟨hA, hM⟩
    refine Ends.ite hA rfl (fun hc1 => ?_) (fun hc1 => ?_)
    ·
      refine Ends.seq ?_
      refine Ends.region ?_
      refine S.val hA (R.assign rfl) rfl ?_; clear hA a; intro a hA
      refine S.val hA (R.assign rfl) rfl ?_; clear hA a; intro a hA
      refine S.done ?_
      replace hA : St 68 [(0, _), (1, _), (2, _), (3, _), (4, _), (10, _), (11, _)] a := hA.sub ((.cons rfl (.cons rfl (.cons rfl (.cons rfl (.cons rfl (.cons rfl (.cons rfl .nil))))))))
      refine Ends.ret2 Try.func28 Try.results28 hA rfl rfl ?_
      exact ⟨rfl, hM.firstN 2⟩
    · exfalso; omega
  ·
    refine Ends.region ?_
    refine S.val hA (R.move rfl) rfl ?_; clear hA a; intro a hA
    refine S.val hA (R.eqlNil Try.underlying24 rfl rfl) rfl ?_; clear hA a; intro a hA
    refine S.val hA (R.move rfl) rfl ?_; clear hA a; intro a hA
    refine S.valg (dj := 16) hA (by kernel_rfl) rfl (R.move rfl) rfl ?_; clear hA a; intro a hA
    refine S.valg (dj := 16) hA (by kernel_rfl) rfl (R.lss rfl rfl) rfl ?_; clear hA a; intro a hA
    refine S.val hA (R.pickF rfl rfl) rfl ?_; clear hA a; intro a hA
    refine S.val hA (R.move rfl) rfl ?_; clear hA a; intro a hA
    refine hA.split (d := 20) rfl ?_ ?_
    · clear hA; intro hg2 hA
      refine S.no (dj := 20) hA (by kernel_rfl) rfl rfl rfl ?_; clear hA a; intro a hA
      refine S.no (dj := 20) hA (by kernel_rfl) rfl rfl rfl ?_; clear hA a; intro a hA
      refine S.no (dj := 20) hA (by kernel_rfl) rfl rfl rfl ?_; clear hA a; intro a hA
      refine S.no (dj := 20) hA (by kernel_rfl) rfl rfl rfl ?_; clear hA a; intro a hA
      refine S.val hA (R.pickT rfl rfl) rfl ?_; clear hA a; intro a hA
      refine S.val hA (R.move rfl) rfl ?_; clear hA a; intro a hA
      refine S.no (dj := 26) hA (by kernel_rfl) rfl rfl rfl ?_; clear hA a; intro a hA
      refine S.no (dj := 26) hA (by kernel_rfl) rfl rfl rfl ?_; clear hA a; intro a hA
      refine S.val hA (R.pickT rfl rfl) rfl ?_; clear hA a; intro a hA
      refine S.val hA (R.move rfl) rfl ?_; clear hA a; intro a hA
      refine S.no (dj := 30) hA (by kernel_rfl) rfl rfl rfl ?_; clear hA a; intro a hA
      refine S.no (dj := 30) hA (by kernel_rfl) rfl rfl rfl ?_; clear hA a; intro a hA
      refine S.val hA (R.pickT rfl rfl) rfl ?_; clear hA a; intro a hA
      refine S.val hA (R.move rfl) rfl ?_; clear hA a; intro a hA
      refine S.no (dj := 34) hA (by kernel_rfl) rfl rfl rfl ?_; clear hA a; intro a hA
      refine S.no (dj := 34) hA (by kernel_rfl) rfl rfl rfl ?_; clear hA a; intro a hA
      refine S.val hA (R.pickT rfl rfl) rfl ?_; clear hA a; intro a hA
      refine S.val hA (R.move rfl) rfl ?_; clear hA a; intro a hA
      refine S.no (dj := 38) hA (by kernel_rfl) rfl rfl rfl ?_; clear hA a; intro a hA
      refine S.no (dj := 38) hA (by kernel_rfl) rfl rfl rfl ?_; clear hA a; intro a hA
      refine S.val hA (R.pickT rfl rfl) rfl ?_; clear hA a; intro a hA
      refine S.done ?_
      replace hA : St 68 [(0, _), (1, _), (2, _), (3, _), (4, _), (10, _), (11, _), (41, _)] a := hA.sub ((.cons rfl (.cons rfl (.cons rfl (.cons rfl (.cons rfl (.cons rfl (.cons rfl (.cons rfl .nil)))))))))
      exact hJ _ _ ⟨hA.sub (.cons rfl (.cons rfl (.cons rfl (.cons rfl (.cons rfl (.cons rfl (.cons rfl (.cons (by first | rfl | exact congrArg (fun b => some (Value.bool b)) (by simp [hg2])) .nil)))))))), hM⟩
    · clear hA; intro hg2 hA
      refine S.valg (dj := 20) hA (by kernel_rfl) rfl (R.move rfl) rfl ?_; clear hA a; intro a hA
      refine S.valg (dj := 20) hA (by kernel_rfl) rfl (R.move rfl) rfl ?_; clear hA a; intro a hA
      refine S.callg (dj := 20) hA (by kernel_rfl) rfl (R.callF Try.func66 rfl rfl rfl) rfl (size_ok m c l s o hmc _ (hM.mem (k := 1) rfl)) ?_; clear hA a
      rintro e w2 ⟨rfl, rfl⟩
      refine ⟨.int .i64 ((l.length : Int)), rfl, fun a hA => ?_⟩
      refine S.valg (dj := 20) hA (by kernel_rfl) rfl (R.geq rfl rfl) rfl ?_; clear hA a; intro a hA
      refine S.val hA (R.pickF rfl rfl) rfl ?_; clear hA a; intro a hA
      refine S.val hA (R.move rfl) rfl ?_; clear hA a; intro a hA
      refine hA.split (d := 26) rfl ?_ ?_
      · clear hA; intro hg3 hA
        refine S.no (dj := 26) hA (by kernel_rfl) rfl rfl rfl ?_; clear hA a; intro a hA
        refine S.no (dj := 26) hA (by kernel_rfl) rfl rfl rfl ?_; clear hA a; intro a hA
        refine S.val hA (R.pickT rfl rfl) rfl ?_; clear hA a; intro a hA
        refine S.val hA (R.move rfl) rfl ?_; clear hA a; intro a hA
        refine S.no (dj := 30) hA (by kernel_rfl) rfl rfl rfl ?_; clear hA a; intro a hA
        refine S.no (dj := 30) hA (by kernel_rfl) rfl rfl rfl ?_; clear hA a; intro a hA
        refine S.val hA (R.pickT rfl rfl) rfl ?_; clear hA a; intro a hA
        refine S.val hA (R.move rfl) rfl ?_; clear hA a; intro a hA
        refine S.no (dj := 34) hA (by kernel_rfl) rfl rfl rfl ?_; clear hA a; intro a hA
        refine S.no (dj := 34) hA (by kernel_rfl) rfl rfl rfl ?_; clear hA a; intro a hA
        refine S.val hA (R.pickT rfl rfl) rfl ?_; clear hA a; intro a hA
        refine S.val hA (R.move rfl) rfl ?_; clear hA a; intro a hA
        refine S.no (dj := 38) hA (by kernel_rfl) rfl rfl rfl ?_; clear hA a; intro a hA
        refine S.no (dj := 38) hA (by kernel_rfl) rfl rfl rfl ?_; clear hA a; intro a hA
        refine S.val hA (R.pickT rfl rfl) rfl ?_; clear hA a; intro a hA
        refine S.done ?_
        replace hA : St 68 [(0, _), (1, _), (2, _), (3, _), (4, _), (10, _), (11, _), (41, _)] a := hA.sub ((.cons rfl (.cons rfl (.cons rfl (.cons rfl (.cons rfl (.cons rfl (.cons rfl (.cons rfl .nil)))))))))
        exact hJ _ _ ⟨hA.sub (.cons rfl (.cons rfl (.cons rfl (.cons rfl (.cons rfl (.cons rfl (.cons rfl (.cons (by first | rfl | exact congrArg (fun b => some (Value.bool b)) (by simp [hg2, hg3])) .nil)))))))), hM⟩
      · clear hA; intro hg3 hA
        refine S.valg (dj := 26) hA (by kernel_rfl) rfl (R.move rfl) rfl ?_; clear hA a; intro a hA
        refine S.valg (dj := 26) hA (by kernel_rfl) rfl (R.lss rfl rfl) rfl ?_; clear hA a; intro a hA
        refine S.val hA (R.pickF rfl rfl) rfl ?_; clear hA a; intro a hA
        refine S.val hA (R.move rfl) rfl ?_; clear hA a; intro a hA
        refine hA.split (d := 30) rfl ?_ ?_
        · clear hA; intro hg4 hA
          refine S.no (dj := 30) hA (by kernel_rfl) rfl rfl rfl ?_; clear hA a; intro a hA
          refine S.no (dj := 30) hA (by kernel_rfl) rfl rfl rfl ?_; clear hA a; intro a hA
          refine S.val hA (R.pickT rfl rfl) rfl ?_; clear hA a; intro a hA
          refine S.val hA (R.move rfl) rfl ?_; clear hA a; intro a hA
          refine S.no (dj := 34) hA (by kernel_rfl) rfl rfl rfl ?_; clear hA a; intro a hA
          refine S.no (dj := 34) hA (by kernel_rfl) rfl rfl rfl ?_; clear hA a; intro a hA
          refine S.val hA (R.pickT rfl rfl) rfl ?_; clear hA a; intro a hA
          refine S.val hA (R.move rfl) rfl ?_; clear hA a; intro a hA
          refine S.no (dj := 38) hA (by kernel_rfl) rfl rfl rfl ?_; clear hA a; intro a hA
          refine S.no (dj := 38) hA (by kernel_rfl) rfl rfl rfl ?_; clear hA a; intro a hA
          refine S.val hA (R.pickT rfl rfl) rfl ?_; clear hA a; intro a hA
          refine S.done ?_
          replace hA : St 68 [(0, _), (1, _), (2, _), (3, _), (4, _), (10, _), (11, _), (41, _)] a := hA.sub ((.cons rfl (.cons rfl (.cons rfl (.cons rfl (.cons rfl (.cons rfl (.cons rfl (.cons rfl .nil)))))))))
          exact hJ _ _ ⟨hA.sub (.cons rfl (.cons rfl (.cons rfl (.cons rfl (.cons rfl (.cons rfl (.cons rfl (.cons (by first | rfl | exact congrArg (fun b => some (Value.bool b)) (by simp [hg2, hg3, hg4])) .nil)))))))), hM⟩
        · clear hA; intro hg4 hA
          refine S.valg (dj := 30) hA (by kernel_rfl) rfl (R.move rfl) rfl ?_; clear hA a; intro a hA
          refine S.valg (dj := 30) hA (by kernel_rfl) rfl (R.gtr rfl rfl) rfl ?_; clear hA a; intro a hA
          refine S.val hA (R.pickF rfl rfl) rfl ?_; clear hA a; intro a hA
          refine S.val hA (R.move rfl) rfl ?_; clear hA a; intro a hA
          refine hA.split (d := 34) rfl ?_ ?_
          · clear hA; intro hg5 hA
            refine S.no (dj := 34) hA (by kernel_rfl) rfl rfl rfl ?_; clear hA a; intro a hA
            refine S.no (dj := 34) hA (by kernel_rfl) rfl rfl rfl ?_; clear hA a; intro a hA
            refine S.val hA (R.pickT rfl rfl) rfl ?_; clear hA a; intro a hA
            refine S.val hA (R.move rfl) rfl ?_; clear hA a; intro a hA
            refine S.no (dj := 38) hA (by kernel_rfl) rfl rfl rfl ?_; clear hA a; intro a hA
            refine S.no (dj := 38) hA (by kernel_rfl) rfl rfl rfl ?_; clear hA a; intro a hA
            refine S.val hA (R.pickT rfl rfl) rfl ?_; clear hA a; intro a hA
            refine S.done ?_
            replace hA : St 68 [(0, _), (1, _), (2, _), (3, _), (4, _), (10, _), (11, _), (41, _)] a := hA.sub ((.cons rfl (.cons rfl (.cons rfl (.cons rfl (.cons rfl (.cons rfl (.cons rfl (.cons rfl .nil)))))))))
            exact hJ _ _ ⟨hA.sub (.cons rfl (.cons rfl (.cons rfl (.cons rfl (.cons rfl (.cons rfl (.cons rfl (.cons (by first | rfl | exact congrArg (fun b => some (Value.bool b)) (by simp [hg2, hg3, hg4, hg5])) .nil)))))))), hM⟩
          · clear hA; intro hg5 hA
            refine S.valg (dj := 34) hA (by kernel_rfl) rfl (R.move rfl) rfl ?_; clear hA a; intro a hA
            refine S.valg (dj := 34) hA (by kernel_rfl) rfl (R.lss rfl rfl) rfl ?_; clear hA a; intro a hA
            refine S.val hA (R.pickF rfl rfl) rfl ?_; clear hA a; intro a hA
            refine S.val hA (R.move rfl) rfl ?_; clear hA a; intro a hA
            refine hA.split (d := 38) rfl ?_ ?_
            · clear hA; intro hg6 hA
              refine S.no (dj := 38) hA (by kernel_rfl) rfl rfl rfl ?_; clear hA a; intro a hA
              refine S.no (dj := 38) hA (by kernel_rfl) rfl rfl rfl ?_; clear hA a; intro a hA
              refine S.val hA (R.pickT rfl rfl) rfl ?_; clear hA a; intro a hA
              refine S.done ?_
              replace hA : St 68 [(0, _), (1, _), (2, _), (3, _), (4, _), (10, _), (11, _), (41, _)] a := hA.sub ((.cons rfl (.cons rfl (.cons rfl (.cons rfl (.cons rfl (.cons rfl (.cons rfl (.cons rfl .nil)))))))))
              exact hJ _ _ ⟨hA.sub (.cons rfl (.cons rfl (.cons rfl (.cons rfl (.cons rfl (.cons rfl (.cons rfl (.cons (by first | rfl | exact congrArg (fun b => some (Value.bool b)) (by simp [hg2, hg3, hg4, hg5, hg6])) .nil)))))))), hM⟩
            · clear hA; intro hg6 hA
              refine S.valg (dj := 38) hA (by kernel_rfl) rfl (R.move rfl) rfl ?_; clear hA a; intro a hA
              refine S.valg (dj := 38) hA (by kernel_rfl) rfl (R.gtr rfl rfl) rfl ?_; clear hA a; intro a hA
              refine S.val hA (R.pickF rfl rfl) rfl ?_; clear hA a; intro a hA
              refine S.done ?_
              replace hA : St 68 [(0, _), (1, _), (2, _), (3, _), (4, _), (10, _), (11, _), (41, _)] a := hA.sub ((.cons rfl (.cons rfl (.cons rfl (.cons rfl (.cons rfl (.cons rfl (.cons rfl (.cons rfl .nil)))))))))
              exact hJ _ _ ⟨hA.sub (.cons rfl (.cons rfl (.cons rfl (.cons rfl (.cons rfl (.cons rfl (.cons rfl (.cons (by first | rfl | exact congrArg (fun b => some (Value.bool b)) (by simp [hg2, hg3, hg4, hg5, hg6])) .nil)))))))), hM⟩
set_option maxRecDepth 100000 in
set_option maxHeartbeats 400000 in
theorem ioffer_ok (q m pl np_ : Nat) (ix wk wr co : Int) (av : Option Addr) (X : List Int) (cap : Nat) (hX : X.length ≤ 1000) (hwr : 0 ≤ wr ∧ wr < wk) (hco : 0 ≤ co ∧ co ≤ 1125899906842624) (w : World) (hM : Mem w (feet [own 3 1 (.slice av X.length cap) X.length (X.map (Value.int .i64)), pt q #[.pointer (some ⟨m, 0, none⟩), .int .i64 ix, .int .i64 wk, .slice (some ⟨pl, 0, none⟩) np_ np_] 119]) [own 3 1 (.slice av X.length cap) X.length (X.map (Value.int .i64)), pt q #[.pointer (some ⟨m, 0, none⟩), .int .i64 ix, .int .i64 wk, .slice (some ⟨pl, 0, none⟩) np_ np_] 119] w) :
    Calls Try.prog 33 #[.pointer (some ⟨q, 0, none⟩), .int .i64 wr, .slice av X.length cap, .int .i64 co] w fun e w' => ∃ p a2 c2, e = .returned (.pointer (some ⟨p, 0, none⟩)) ∧ Mem w (feet [own 3 1 (.slice av X.length cap) X.length (X.map (Value.int .i64)), pt q #[.pointer (some ⟨m, 0, none⟩), .int .i64 ix, .int .i64 wk, .slice (some ⟨pl, 0, none⟩) np_ np_] 119]) [pt p #[.pointer (some ⟨q, 0, none⟩), .int .i64 wr, .slice a2 X.length c2, .int .i64 co, .bool false, .int .i64 0, .bool false, .bool false] 124, own 3 1 (.slice a2 X.length c2) X.length (X.map (Value.int .i64)), pt q #[.pointer (some ⟨m, 0, none⟩), .int .i64 ix, .int .i64 wk, .slice (some ⟨pl, 0, none⟩) np_ np_] 119] w' := by
  have hM0 : True := trivial  -- have hM
  refine Calls.of_ends (vs := [.pointer (some ⟨q, 0, none⟩), .int .i64 wr, .slice av X.length cap, .int .i64 co]) Try.func33 rfl Try.ntmps33 rfl ?_
  intro a hA
  replace hA : St 38 [(0, _), (1, _), (2, _), (3, _)] a := hA
  refine Ends.seq ?_
  refine Ends.region ?_
  refine S.val hA (R.assign rfl) rfl ?_; clear hA a; intro a hA
  refine S.done ?_
  replace hA : St 38 [(0, _), (1, _), (2, _), (3, _), (8, _)] a := hA.sub ((.cons rfl (.cons rfl (.cons rfl (.cons rfl (.cons rfl .nil))))))
  refine Ends.seq ?_
  refine Ends.seq ?_
  refine Ends.region ?_
  refine S.val hA (R.move rfl) rfl ?_; clear hA a; intro a hA
  refine S.val hA (R.eqlNil Try.underlying48 rfl rfl) rfl ?_; clear hA a; intro a hA
  refine S.val hA (R.move rfl) rfl ?_; clear hA a; intro a hA
  refine S.valg (dj := 11) hA (by kernel_rfl) rfl (R.move rfl) rfl ?_; clear hA a; intro a hA
  refine S.valg (dj := 11) hA (by kernel_rfl) rfl (R.ff (R.lss rfl rfl) (by omega)) rfl ?_; clear hA a; intro a hA
  refine S.val hA (R.pickF rfl rfl) rfl ?_; clear hA a; intro a hA
  refine S.val hA (R.move rfl) rfl ?_; clear hA a; intro a hA
  refine S.valg (dj := 15) hA (by kernel_rfl) rfl (R.move rfl) rfl ?_; clear hA a; intro a hA
  refine S.valg (dj := 15) hA (by kernel_rfl) rfl (R.move rfl) rfl ?_; clear hA a; intro a hA
  refine S.valg (dj := 15) hA (by kernel_rfl) rfl (R.nilCheck rfl) rfl ?_; clear hA a; intro a hA
  refine S.valg (dj := 15) hA (by kernel_rfl) rfl (R.fieldAddr (q := 2) fi119_2 rfl rfl rfl) rfl ?_; clear hA a; intro a hA
  refine S.valg (dj := 15) hA (by kernel_rfl) rfl (R.load sz3 rfl (hM.cell (k := 1) rfl rfl)) rfl ?_; clear hA a; intro a hA
  refine S.valg (dj := 15) hA (by kernel_rfl) rfl (R.ff (R.geq rfl rfl) (by omega)) rfl ?_; clear hA a; intro a hA
  refine S.val hA (R.pickF rfl rfl) rfl ?_; clear hA a; intro a hA
  refine S.val hA (R.move rfl) rfl ?_; clear hA a; intro a hA
  refine S.valg (dj := 23) hA (by kernel_rfl) rfl (R.move rfl) rfl ?_; clear hA a; intro a hA
  refine S.valg (dj := 23) hA (by kernel_rfl) rfl (R.ff (R.lss rfl rfl) (by omega)) rfl ?_; clear hA a; intro a hA
  refine S.val hA (R.pickF rfl rfl) rfl ?_; clear hA a; intro a hA
  refine S.val hA (R.move rfl) rfl ?_; clear hA a; intro a hA
  refine S.valg (dj := 27) hA (by kernel_rfl) rfl (R.move rfl) rfl ?_; clear hA a; intro a hA
  refine S.valg (dj := 27) hA (by kernel_rfl) rfl (R.ff (R.gtr rfl rfl) (by omega)) rfl ?_; clear hA a; intro a hA
  refine S.val hA (R.pickF rfl rfl) rfl ?_; clear hA a; intro a hA
  refine S.done ?_
  replace hA : St 38 [(0, _), (1, _), (2, _), (3, _), (8, _), (30, _)] a := hA.sub ((.cons rfl (.cons rfl (.cons rfl (.cons rfl (.cons rfl (.cons rfl .nil)))))))
  refine Ends.condF hA rfl ?_
  refine Ends.skip ?_
  refine Ends.seq ?_
  refine Ends.region ?_
  refine S.val hA (R.move rfl) rfl ?_; clear hA a; intro a hA
  refine S.val hA (R.move rfl) rfl ?_; clear hA a; intro a hA
  refine S.val hA (R.move rfl) rfl ?_; clear hA a; intro a hA
  refine S.call hA (R.callF Try.func69 rfl rfl rfl) rfl (clone_own av cap X (by first | decide | simp | omega) _ (hM.mem (k := 0) rfl)) ?_; clear hA a
  rintro e w1 ⟨a1, c2, rfl, hn⟩
  replace hM : Mem _ _ [own 3 1 (.slice a1 X.length c2) X.length (X.map (Value.int .i64)), own 3 1 (.slice av X.length cap) X.length (X.map (Value.int .i64)), pt q #[.pointer (some ⟨m, 0, none⟩), .int .i64 ix, .int .i64 wk, .slice (some ⟨pl, 0, none⟩) np_ np_] 119] _ := hM.call hn; clear hn
  refine ⟨.slice a1 X.length c2, rfl, fun a hA => ?_⟩
  refine S.val hA (R.move rfl) rfl ?_; clear hA a; intro a hA
  refine S.val hA (R.build (cells := #[.pointer (some ⟨q, 0, none⟩), .int .i64 wr, .slice a1 X.length c2, .int .i64 co, .bool false, .int .i64 0, .bool false, .bool false]) rfl (by kernel_rfl)) rfl ?_; clear hA a; intro a hA
  refine S.box hA hM rfl rfl ?_; clear hA hM a; intro b3 w2 hb4 hM a hA
  replace hM : Mem _ _ [pt b3 #[.pointer (some ⟨q, 0, none⟩), .int .i64 wr, .slice a1 X.length c2, .int .i64 co, .bool false, .int .i64 0, .bool false, .bool false] 124, own 3 1 (.slice a1 X.length c2) X.length (X.map (Value.int .i64)), own 3 1 (.slice av X.length cap) X.length (X.map (Value.int .i64)), pt q #[.pointer (some ⟨m, 0, none⟩), .int .i64 ix, .int .i64 wk, .slice (some ⟨pl, 0, none⟩) np_ np_] 119] _ := hM
  refine S.val hA (R.assign rfl) rfl ?_; clear hA a; intro a hA
  refine S.done ?_
  replace hA : St 38 [(8, _)] a := hA.sub ((.cons rfl .nil))
  refine Ends.ret1 Try.func33 Try.results33 hA rfl ?_
  replace hM := hM.front (k := 3) rfl
  replace hM := hM.front (k := 2) rfl
  replace hM := hM.front (k := 2) rfl
  replace hM : Mem _ _ [pt b3 #[.pointer (some ⟨q, 0, none⟩), .int .i64 wr, .slice a1 X.length c2, .int .i64 co, .bool false, .int .i64 0, .bool false, .bool false] 124, own 3 1 (.slice a1 X.length c2) X.length (X.map (Value.int .i64)), pt q #[.pointer (some ⟨m, 0, none⟩), .int .i64 ix, .int .i64 wk, .slice (some ⟨pl, 0, none⟩) np_ np_] 119, own 3 1 (.slice av X.length cap) X.length (X.map (Value.int .i64))] _ := hM
  exact ⟨_, _, _, rfl, hM.firstN 3⟩
set_option maxRecDepth 100000 in
set_option maxHeartbeats 400000 in
theorem ioffer_bad (q m pl np_ : Nat) (ix wk wr co : Int) (hbad : ¬ (0 ≤ wr ∧ wr < wk ∧ 0 ≤ co ∧ co ≤ 1125899906842624)) (w : World) (hM : Mem w (feet [pt q #[.pointer (some ⟨m, 0, none⟩), .int .i64 ix, .int .i64 wk, .slice (some ⟨pl, 0, none⟩) np_ np_] 119]) [pt q #[.pointer (some ⟨m, 0, none⟩), .int .i64 ix, .int .i64 wk, .slice (some ⟨pl, 0, none⟩) np_ np_] 119] w) :
    Calls Try.prog 33 #[.pointer (some ⟨q, 0, none⟩), .int .i64 wr, .slice none 0 0, .int .i64 co] w fun e w' => e = .returned (.pointer none) ∧ Mem w (feet [pt q #[.pointer (some ⟨m, 0, none⟩), .int .i64 ix, .int .i64 wk, .slice (some ⟨pl, 0, none⟩) np_ np_] 119]) [pt q #[.pointer (some ⟨m, 0, none⟩), .int .i64 ix, .int .i64 wk, .slice (some ⟨pl, 0, none⟩) np_ np_] 119] w' := by
  have hM0 : True := trivial  -- have hM
  refine Calls.of_ends (vs := [.pointer (some ⟨q, 0, none⟩), .int .i64 wr, .slice none 0 0, .int .i64 co]) Try.func33 rfl Try.ntmps33 rfl ?_
  intro a hA
  replace hA : St 38 [(0, _), (1, _), (2, _), (3, _)] a := hA
  refine Ends.seq ?_
  refine Ends.region ?_
  refine S.val hA (R.assign rfl) rfl ?_; clear hA a; intro a hA
  refine S.done ?_
  replace hA : St 38 [(0, _), (1, _), (2, _), (3, _), (8, _)] a := hA.sub ((.cons rfl (.cons rfl (.cons rfl (.cons rfl (.cons rfl .nil))))))
  refine Ends.seq ?_
  refine Ends.seq ?_
  refine Ends.cut (fun (a : Act) (wv : World) => St 38 [(0, .pointer (some ⟨q, 0, none⟩)), (1, .int .i64 wr), (2, .slice none 0 0), (3, .int .i64 co), (8, .pointer none), (30, .bool (decide ((((wr < 0 ∨ wk ≤ wr) ∨ co < 0) ∨ 1125899906842624 < co))))] a ∧ Mem w (feet [pt q #[.pointer (some ⟨m, 0, none⟩), .int .i64 ix, .int .i64 wk, .slice (some ⟨pl, 0, none⟩) np_ np_] 119]) [pt q #[.pointer (some ⟨m, 0, none⟩), .int .i64 ix, .int .i64 wk, .slice (some ⟨pl, 0, none⟩) np_ np_] 119] wv) ?_ (fun k2 hJ => ?_)
  · clear hA hM a; rintro a w1 ⟨hA, hM⟩
    refine Ends.ite hA rfl (fun hc1 => ?_) (fun hc1 => ?_)
    ·
      refine Ends.seq ?_
      refine Ends.region ?_
      refine S.val hA (R.assign rfl) rfl ?_; clear hA a; intro a hA
      refine S.done ?_
      replace hA : St 38 [(0, _), (1, _), (2, _), (3, _), (8, _)] a := hA.sub ((.cons rfl (.cons rfl (.cons rfl (.cons rfl (.cons rfl .nil))))))
      refine Ends.ret1 Try.func33 Try.results33 hA rfl ?_
      exact ⟨rfl, hM.firstN 1⟩
    · exfalso; omega
  ·
    refine Ends.region ?_
    refine S.val hA (R.move rfl) rfl ?_; clear hA a; intro a hA
    refine S.val hA (R.eqlNil Try.underlying48 rfl rfl) rfl ?_; clear hA a; intro a hA
    refine S.val hA (R.move rfl) rfl ?_; clear hA a; intro a hA
    refine S.valg (dj := 11) hA (by kernel_rfl) rfl (R.move rfl) rfl ?_; clear hA a; intro a hA
    refine S.valg (dj := 11) hA (by kernel_rfl) rfl (R.lss rfl rfl) rfl ?_; clear hA a; intro a hA
    refine S.val hA (R.pickF rfl rfl) rfl ?_; clear hA a; intro a hA
    refine S.val hA (R.move rfl) rfl ?_; clear hA a; intro a hA
    refine hA.split (d := 15) rfl ?_ ?_
    · clear hA; intro hg2 hA
      refine S.no (dj := 15) hA (by kernel_rfl) rfl rfl rfl ?_; clear hA a; intro a hA
      refine S.no (dj := 15) hA (by kernel_rfl) rfl rfl rfl ?_; clear hA a; intro a hA
      refine S.no (dj := 15) hA (by kernel_rfl) rfl rfl rfl ?_; clear hA a; intro a hA
      refine S.no (dj := 15) hA (by kernel_rfl) rfl rfl rfl ?_; clear hA a; intro a hA
      refine S.no (dj := 15) hA (by kernel_rfl) rfl rfl rfl ?_; clear hA a; intro a hA
      refine S.no (dj := 15) hA (by kernel_rfl) rfl rfl rfl ?_; clear hA a; intro a hA
      refine S.val hA (R.pickT rfl rfl) rfl ?_; clear hA a; intro a hA
      refine S.val hA (R.move rfl) rfl ?_; clear hA a; intro a hA
      refine S.no (dj := 23) hA (by kernel_rfl) rfl rfl rfl ?_; clear hA a; intro a hA
      refine S.no (dj := 23) hA (by kernel_rfl) rfl rfl rfl ?_; clear hA a; intro a hA
      refine S.val hA (R.pickT rfl rfl) rfl ?_; clear hA a; intro a hA
      refine S.val hA (R.move rfl) rfl ?_; clear hA a; intro a hA
      refine S.no (dj := 27) hA (by kernel_rfl) rfl rfl rfl ?_; clear hA a; intro a hA
      refine S.no (dj := 27) hA (by kernel_rfl) rfl rfl rfl ?_; clear hA a; intro a hA
      refine S.val hA (R.pickT rfl rfl) rfl ?_; clear hA a; intro a hA
      refine S.done ?_
      replace hA : St 38 [(0, _), (1, _), (2, _), (3, _), (8, _), (30, _)] a := hA.sub ((.cons rfl (.cons rfl (.cons rfl (.cons rfl (.cons rfl (.cons rfl .nil)))))))
      exact hJ _ _ ⟨hA.sub (.cons rfl (.cons rfl (.cons rfl (.cons rfl (.cons rfl (.cons (by first | rfl | exact congrArg (fun b => some (Value.bool b)) (by simp [hg2])) .nil)))))), hM⟩
    · clear hA; intro hg2 hA
      refine S.valg (dj := 15) hA (by kernel_rfl) rfl (R.move rfl) rfl ?_; clear hA a; intro a hA
      refine S.valg (dj := 15) hA (by kernel_rfl) rfl (R.move rfl) rfl ?_; clear hA a; intro a hA
      refine S.valg (dj := 15) hA (by kernel_rfl) rfl (R.nilCheck rfl) rfl ?_; clear hA a; intro a hA
      refine S.valg (dj := 15) hA (by kernel_rfl) rfl (R.fieldAddr (q := 2) fi119_2 rfl rfl rfl) rfl ?_; clear hA a; intro a hA
      refine S.valg (dj := 15) hA (by kernel_rfl) rfl (R.load sz3 rfl (hM.cell (k := 0) rfl rfl)) rfl ?_; clear hA a; intro a hA
      refine S.valg (dj := 15) hA (by kernel_rfl) rfl (R.geq rfl rfl) rfl ?_; clear hA a; intro a hA
      refine S.val hA (R.pickF rfl rfl) rfl ?_; clear hA a; intro a hA
      refine S.val hA (R.move rfl) rfl ?_; clear hA a; intro a hA
      refine hA.split (d := 23) rfl ?_ ?_
      · clear hA; intro hg3 hA
        refine S.no (dj := 23) hA (by kernel_rfl) rfl rfl rfl ?_; clear hA a; intro a hA
        refine S.no (dj := 23) hA (by kernel_rfl) rfl rfl rfl ?_; clear hA a; intro a hA
        refine S.val hA (R.pickT rfl rfl) rfl ?_; clear hA a; intro a hA
        refine S.val hA (R.move rfl) rfl ?_; clear hA a; intro a hA
        refine S.no (dj := 27) hA (by kernel_rfl) rfl rfl rfl ?_; clear hA a; intro a hA
        refine S.no (dj := 27) hA (by kernel_rfl) rfl rfl rfl ?_; clear hA a; intro a hA
        refine S.val hA (R.pickT rfl rfl) rfl ?_; clear hA a; intro a hA
        refine S.done ?_
        replace hA : St 38 [(0, _), (1, _), (2, _), (3, _), (8, _), (30, _)] a := hA.sub ((.cons rfl (.cons rfl (.cons rfl (.cons rfl (.cons rfl (.cons rfl .nil)))))))
        exact hJ _ _ ⟨hA.sub (.cons rfl (.cons rfl (.cons rfl (.cons rfl (.cons rfl (.cons (by first | rfl | exact congrArg (fun b => some (Value.bool b)) (by simp [hg2, hg3])) .nil)))))), hM⟩
      · clear hA; intro hg3 hA
        refine S.valg (dj := 23) hA (by kernel_rfl) rfl (R.move rfl) rfl ?_; clear hA a; intro a hA
        refine S.valg (dj := 23) hA (by kernel_rfl) rfl (R.lss rfl rfl) rfl ?_; clear hA a; intro a hA
        refine S.val hA (R.pickF rfl rfl) rfl ?_; clear hA a; intro a hA
        refine S.val hA (R.move rfl) rfl ?_; clear hA a; intro a hA
        refine hA.split (d := 27) rfl ?_ ?_
        · clear hA; intro hg4 hA
          refine S.no (dj := 27) hA (by kernel_rfl) rfl rfl rfl ?_; clear hA a; intro a hA
          refine S.no (dj := 27) hA (by kernel_rfl) rfl rfl rfl ?_; clear hA a; intro a hA
          refine S.val hA (R.pickT rfl rfl) rfl ?_; clear hA a; intro a hA
          refine S.done ?_
          replace hA : St 38 [(0, _), (1, _), (2, _), (3, _), (8, _), (30, _)] a := hA.sub ((.cons rfl (.cons rfl (.cons rfl (.cons rfl (.cons rfl (.cons rfl .nil)))))))
          exact hJ _ _ ⟨hA.sub (.cons rfl (.cons rfl (.cons rfl (.cons rfl (.cons rfl (.cons (by first | rfl | exact congrArg (fun b => some (Value.bool b)) (by simp [hg2, hg3, hg4])) .nil)))))), hM⟩
        · clear hA; intro hg4 hA
          refine S.valg (dj := 27) hA (by kernel_rfl) rfl (R.move rfl) rfl ?_; clear hA a; intro a hA
          refine S.valg (dj := 27) hA (by kernel_rfl) rfl (R.gtr rfl rfl) rfl ?_; clear hA a; intro a hA
          refine S.val hA (R.pickF rfl rfl) rfl ?_; clear hA a; intro a hA
          refine S.done ?_
          replace hA : St 38 [(0, _), (1, _), (2, _), (3, _), (8, _), (30, _)] a := hA.sub ((.cons rfl (.cons rfl (.cons rfl (.cons rfl (.cons rfl (.cons rfl .nil)))))))
          exact hJ _ _ ⟨hA.sub (.cons rfl (.cons rfl (.cons rfl (.cons rfl (.cons rfl (.cons (by first | rfl | exact congrArg (fun b => some (Value.bool b)) (by simp [hg2, hg3, hg4])) .nil)))))), hM⟩
set_option maxRecDepth 100000 in
set_option maxHeartbeats 400000 in
theorem ibest_ok (q pl np_ : Nat) (wk : Int) (ls : List Value) (av : Option Addr) (X : List Int) (cap : Nat) (m c : Nat) (s : Int) (o : CellOp) (hmc : m ≠ c) (cc pp : Int) (hcc : 0 ≤ cc ∧ cc ≤ 1125899906842624) (hpp : 0 ≤ pp ∧ pp < 64) (hX : X.length ≤ 1000) (hnp : pp < np_) (hls : ls[pp.toNat]? = some (.slice av X.length cap)) (w : World) (hM : Mem w (feet [own 3 1 (.slice av X.length cap) X.length (X.map (Value.int .i64)), pt pl ((vals ls)) 43, pt q #[.pointer (some ⟨m, 0, none⟩), .int .i64 1, .int .i64 wk, .slice (some ⟨pl, 0, none⟩) np_ np_] 119, memO m c [0, cc * 64 + pp, 0] s o]) [own 3 1 (.slice av X.length cap) X.length (X.map (Value.int .i64)), pt pl ((vals ls)) 43, pt q #[.pointer (some ⟨m, 0, none⟩), .int .i64 1, .int .i64 wk, .slice (some ⟨pl, 0, none⟩) np_ np_] 119, memO m c [0, cc * 64 + pp, 0] s o] w) :
    Calls Try.prog 30 #[.pointer (some ⟨q, 0, none⟩)] w fun e w' => ∃ a2 c2, e = .returned (.tuple #[.slice a2 X.length c2, .int .i64 cc]) ∧ Mem w (feet [own 3 1 (.slice av X.length cap) X.length (X.map (Value.int .i64)), pt pl ((vals ls)) 43, pt q #[.pointer (some ⟨m, 0, none⟩), .int .i64 1, .int .i64 wk, .slice (some ⟨pl, 0, none⟩) np_ np_] 119, memO m c [0, cc * 64 + pp, 0] s o]) [own 3 1 (.slice a2 X.length c2) X.length (X.map (Value.int .i64)), own 3 1 (.slice av X.length cap) X.length (X.map (Value.int .i64)), pt pl ((vals ls)) 43, pt q #[.pointer (some ⟨m, 0, none⟩), .int .i64 1, .int .i64 wk, .slice (some ⟨pl, 0, none⟩) np_ np_] 119, memO m c [0, cc * 64 + pp, 0] s o] w' := by
  have hM0 : True := trivial  -- have hM
  refine Calls.of_ends (vs := [.pointer (some ⟨q, 0, none⟩)]) Try.func30 rfl Try.ntmps30 rfl ?_
  intro a hA
  replace hA : St 27 [(0, _)] a := hA
  refine Ends.seq ?_
  refine Ends.region ?_
  refine S.val hA (R.assign rfl) rfl ?_; clear hA a; intro a hA
  refine S.val hA (R.assign rfl) rfl ?_; clear hA a; intro a hA
  refine S.done ?_
  replace hA : St 27 [(0, _), (2, _), (3, _)] a := hA.sub ((.cons rfl (.cons rfl (.cons rfl .nil))))
  refine Ends.seq ?_
  refine Ends.seq ?_
  refine Ends.region ?_
  refine S.val hA (R.move rfl) rfl ?_; clear hA a; intro a hA
  refine S.val hA (R.eqlNil Try.underlying48 rfl rfl) rfl ?_; clear hA a; intro a hA
  refine S.done ?_
  replace hA : St 27 [(0, _), (2, _), (3, _), (6, _)] a := hA.sub ((.cons rfl (.cons rfl (.cons rfl (.cons rfl .nil)))))
  refine Ends.condF hA rfl ?_
  refine Ends.skip ?_
  refine Ends.seq ?_
  refine Ends.drawn (Mem w (feet [own 3 1 (.slice av X.length cap) X.length (X.map (Value.int .i64)), pt pl ((vals ls)) 43, pt q #[.pointer (some ⟨m, 0, none⟩), .int .i64 1, .int .i64 wk, .slice (some ⟨pl, 0, none⟩) np_ np_] 119, memO m c [0, cc * 64 + pp, 0] s o]) [own 3 1 (.slice av X.length cap) X.length (X.map (Value.int .i64)), pt pl ((vals ls)) 43, pt q #[.pointer (some ⟨m, 0, none⟩), .int .i64 1, .int .i64 wk, .slice (some ⟨pl, 0, none⟩) np_ np_] 119]) [(0, true), (1, true), (2, true), (3, true), (4, true), (5, true), (6, true), (7, true), (8, false), (9, true)] 10 mixed (by kernel_rfl) (by kernel_rfl) (by kernel_rfl) (hM.drop 3).drew ?_
  replace hM := hM.drew
  refine D.valF hA rfl (fun _ => R.move rfl) rfl ?_; clear hA a; intro a hA
  refine D.valF hA rfl (fun _ => R.nilCheck rfl) rfl ?_; clear hA a; intro a hA
  refine D.valF hA rfl (fun _ => R.fieldAddr (q := 0) fi119_0 rfl rfl rfl) rfl ?_; clear hA a; intro a hA
  refine D.val hA rfl (by kernel_rfl) (fun _ hM => R.load sz24 rfl (hM.cell (k := 2) rfl rfl)) rfl ?_; clear hA a; intro a hA
  refine D.valF hA rfl (fun _ => R.move rfl) rfl ?_; clear hA a; intro a hA
  refine D.valF hA rfl (fun _ => R.nilCheck rfl) rfl ?_; clear hA a; intro a hA
  refine D.valF hA rfl (fun _ => R.fieldAddr (q := 1) fi119_1 rfl rfl rfl) rfl ?_; clear hA a; intro a hA
  refine D.val hA rfl (by kernel_rfl) (fun _ hM => R.load sz3 rfl (hM.cell (k := 2) rfl rfl)) rfl ?_; clear hA a; intro a hA
  refine D.call hA rfl (R.callF Try.func64 rfl rfl rfl) rfl (peek_ok m c [0, cc * 64 + pp, 0] s o hmc 1 (by omega) (by first | decide | simp) _ (hM.mem (k := 3) rfl)) ?_; clear hA a
  rintro e w1 ⟨rfl, rfl⟩
  refine ⟨.int .i64 (cc * 64 + pp), rfl, (hM.drop 3), fun a hA => ?_⟩
  refine D.valF hA rfl (fun _ => R.assign rfl) rfl ?_; clear hA a; intro a hA
  refine D.done ?_
  replace hA : St 27 [(0, _), (2, _), (3, _), (4, _)] a := hA.sub ((.cons rfl (.cons rfl (.cons rfl (.cons rfl .nil)))))
  refine Ends.seq ?_
  refine Ends.region ?_
  refine S.val hA (R.move rfl) rfl ?_; clear hA a; intro a hA
  refine S.val hA (R.nilCheck rfl) rfl ?_; clear hA a; intro a hA
  refine S.val hA (R.fieldAddr (q := 3) fi119_3 rfl rfl rfl) rfl ?_; clear hA a; intro a hA
  refine S.val hA (R.load sz95 rfl (hM.cell (k := 2) rfl rfl)) rfl ?_; clear hA a; intro a hA
  refine S.val hA (R.move rfl) rfl ?_; clear hA a; intro a hA
  refine S.val hA (R.to (v := .int .i64 pp) (R.bits (by simp) rfl rfl) (congrArg (Value.int .i64) (band6 cc pp (by omega) (by omega)))) rfl ?_; clear hA a; intro a hA
  refine S.val hA (R.indexAddr (q := pp.toNat) sl95 rfl rfl (by omega) (by omega)) rfl ?_; clear hA a; intro a hA
  refine S.val hA (R.load sz43 rfl (hM.cell (k := 1) rfl (vals_at ls _ _ hls))) rfl ?_; clear hA a; intro a hA
  refine S.call hA (R.callF Try.func69 rfl rfl rfl) rfl (clone_own av cap X (by first | decide | simp | omega) _ (hM.mem (k := 0) rfl)) ?_; clear hA a
  rintro e w2 ⟨a1, c2, rfl, hn⟩
  replace hM : Mem _ _ [own 3 1 (.slice a1 X.length c2) X.length (X.map (Value.int .i64)), own 3 1 (.slice av X.length cap) X.length (X.map (Value.int .i64)), pt pl ((vals ls)) 43, pt q #[.pointer (some ⟨m, 0, none⟩), .int .i64 1, .int .i64 wk, .slice (some ⟨pl, 0, none⟩) np_ np_] 119, memO m c [0, cc * 64 + pp, 0] s o] _ := hM.call hn; clear hn
  refine ⟨.slice a1 X.length c2, rfl, fun a hA => ?_⟩
  refine S.val hA (R.move rfl) rfl ?_; clear hA a; intro a hA
  refine S.val hA (R.to (v := .int .i64 cc) (R.shr rfl rfl (by omega)) (congrArg (Value.int .i64) (shr6 cc pp (by omega)))) rfl ?_; clear hA a; intro a hA
  refine S.val hA (R.assign rfl) rfl ?_; clear hA a; intro a hA
  refine S.val hA (R.assign rfl) rfl ?_; clear hA a; intro a hA
  refine S.done ?_
  replace hA : St 27 [(2, _), (3, _)] a := hA.sub ((.cons rfl (.cons rfl .nil)))
  refine Ends.ret2 Try.func30 Try.results30 hA rfl rfl ?_
  exact ⟨_, _, rfl, hM.firstN 5⟩
set_option maxRecDepth 100000 in
set_option maxHeartbeats 400000 in
theorem istep_over (p q pl np_ : Nat) (wk wr co hd : Int) (rd tk : Bool) (av : Option Addr) (X : List Int) (cap : Nat) (ls : List Value) (m c : Nat) (s : Int) (o : CellOp) (hmc : m ≠ c) (cc pp : Int) (hcc : 0 ≤ cc ∧ cc ≤ 1125899906842624) (hpp : 0 ≤ pp ∧ pp < 64) (hs : 0 ≤ s ∧ s < 9223372036854775807) (w : World) (hM : Mem w (feet [pt p #[.pointer (some ⟨q, 0, none⟩), .int .i64 wr, .slice av X.length cap, .int .i64 co, .bool rd, .int .i64 hd, .bool true, .bool tk] 124, pt pl ((vals ls)) 43, pt q #[.pointer (some ⟨m, 0, none⟩), .int .i64 1, .int .i64 wk, .slice (some ⟨pl, 0, none⟩) np_ np_] 119, memO m c [0, cc * 64 + pp, 0] s o]) [pt p #[.pointer (some ⟨q, 0, none⟩), .int .i64 wr, .slice av X.length cap, .int .i64 co, .bool rd, .int .i64 hd, .bool true, .bool tk] 124, pt pl ((vals ls)) 43, pt q #[.pointer (some ⟨m, 0, none⟩), .int .i64 1, .int .i64 wk, .slice (some ⟨pl, 0, none⟩) np_ np_] 119, memO m c [0, cc * 64 + pp, 0] s o] w) :
    Calls Try.prog 35 #[.pointer (some ⟨p, 0, none⟩)] w fun e w' => e = .returned (.bool true) ∧ Mem w (feet [pt p #[.pointer (some ⟨q, 0, none⟩), .int .i64 wr, .slice av X.length cap, .int .i64 co, .bool rd, .int .i64 hd, .bool true, .bool tk] 124, pt pl ((vals ls)) 43, pt q #[.pointer (some ⟨m, 0, none⟩), .int .i64 1, .int .i64 wk, .slice (some ⟨pl, 0, none⟩) np_ np_] 119, memO m c [0, cc * 64 + pp, 0] s o]) [pt p #[.pointer (some ⟨q, 0, none⟩), .int .i64 wr, .slice av X.length cap, .int .i64 co, .bool rd, .int .i64 hd, .bool true, .bool tk] 124, pt pl ((vals ls)) 43, pt q #[.pointer (some ⟨m, 0, none⟩), .int .i64 1, .int .i64 wk, .slice (some ⟨pl, 0, none⟩) np_ np_] 119, memO m c [0, cc * 64 + pp, 0] s o] w' := by
  have hM0 : True := trivial  -- have hM
  refine Calls.of_ends (vs := [.pointer (some ⟨p, 0, none⟩)]) Try.func35 rfl Try.ntmps35 rfl ?_
  intro a hA
  replace hA : St 24 [(0, _)] a := hA
  refine Ends.seq ?_
  refine Ends.region ?_
  refine S.val hA (R.assign rfl) rfl ?_; clear hA a; intro a hA
  refine S.done ?_
  replace hA : St 24 [(0, _), (2, _)] a := hA.sub ((.cons rfl (.cons rfl .nil)))
  refine Ends.seq ?_
  refine Ends.block ?_
  refine Ends.seq ?_
  refine Ends.region ?_
  refine S.val hA (R.move rfl) rfl ?_; clear hA a; intro a hA
  refine S.val hA (R.eqlNil Try.underlying54 rfl rfl) rfl ?_; clear hA a; intro a hA
  refine S.val hA (R.assign rfl) rfl ?_; clear hA a; intro a hA
  refine S.done ?_
  replace hA : St 24 [(0, _), (2, _), (5, _)] a := hA.sub ((.cons rfl (.cons rfl (.cons rfl .nil))))
  refine Ends.condF hA rfl ?_
  refine Ends.seq ?_
  refine Ends.region ?_
  refine S.val hA (R.move rfl) rfl ?_; clear hA a; intro a hA
  refine S.val hA (R.nilCheck rfl) rfl ?_; clear hA a; intro a hA
  refine S.val hA (R.fieldAddr (q := 6) fi124_6 rfl rfl rfl) rfl ?_; clear hA a; intro a hA
  refine S.val hA (R.load sz4 rfl (hM.cell (k := 0) rfl rfl)) rfl ?_; clear hA a; intro a hA
  refine S.val hA (R.assign rfl) rfl ?_; clear hA a; intro a hA
  refine S.done ?_
  replace hA : St 24 [(0, _), (2, _), (8, _)] a := hA.sub ((.cons rfl (.cons rfl (.cons rfl .nil))))
  refine Ends.condT hA rfl ?_
  refine Ends.skip ?_
  refine Ends.inBlock ?_
  refine Ends.seq ?_
  refine Ends.region ?_
  refine S.val hA (R.move rfl) rfl ?_; clear hA a; intro a hA
  refine S.val hA (R.nilCheck rfl) rfl ?_; clear hA a; intro a hA
  refine S.val hA (R.fieldAddr (q := 6) fi124_6 rfl rfl rfl) rfl ?_; clear hA a; intro a hA
  refine S.val hA (R.load sz4 rfl (hM.cell (k := 0) rfl rfl)) rfl ?_; clear hA a; intro a hA
  refine S.val hA (R.assign rfl) rfl ?_; clear hA a; intro a hA
  refine S.done ?_
  replace hA : St 24 [(2, _)] a := hA.sub ((.cons rfl .nil))
  refine Ends.ret1 Try.func35 Try.results35 hA rfl ?_
  exact ⟨rfl, hM.firstN 4⟩
set_option maxRecDepth 100000 in
set_option maxHeartbeats 400000 in
theorem ilk_worse (p q pl np_ : Nat) (wk wr co hd : Int) (tk : Bool) (av : Option Addr) (X : List Int) (cap : Nat) (ls : List Value) (m c : Nat) (s : Int) (o : CellOp) (hmc : m ≠ c) (cc pp : Int) (hcc : 0 ≤ cc ∧ cc ≤ 1125899906842624) (hpp : 0 ≤ pp ∧ pp < 64) (hs : 0 ≤ s ∧ s < 9223372036854775807) (hv : cc ≤ co) (w : World) (hM : Mem w (feet [pt p #[.pointer (some ⟨q, 0, none⟩), .int .i64 wr, .slice av X.length cap, .int .i64 co, .bool false, .int .i64 hd, .bool false, .bool tk] 124, pt pl ((vals ls)) 43, pt q #[.pointer (some ⟨m, 0, none⟩), .int .i64 1, .int .i64 wk, .slice (some ⟨pl, 0, none⟩) np_ np_] 119, memO m c [0, cc * 64 + pp, 0] s o]) [pt p #[.pointer (some ⟨q, 0, none⟩), .int .i64 wr, .slice av X.length cap, .int .i64 co, .bool false, .int .i64 hd, .bool false, .bool tk] 124, pt pl ((vals ls)) 43, pt q #[.pointer (some ⟨m, 0, none⟩), .int .i64 1, .int .i64 wk, .slice (some ⟨pl, 0, none⟩) np_ np_] 119, memO m c [0, cc * 64 + pp, 0] s o] w) :
    Calls Try.prog 72 #[.pointer (some ⟨p, 0, none⟩)] w fun e w' => e = .returned (.tuple #[]) ∧ Mem w (feet [pt p #[.pointer (some ⟨q, 0, none⟩), .int .i64 wr, .slice av X.length cap, .int .i64 co, .bool false, .int .i64 hd, .bool false, .bool tk] 124, pt pl ((vals ls)) 43, pt q #[.pointer (some ⟨m, 0, none⟩), .int .i64 1, .int .i64 wk, .slice (some ⟨pl, 0, none⟩) np_ np_] 119, memO m c [0, cc * 64 + pp, 0] s o]) [pt p #[.pointer (some ⟨q, 0, none⟩), .int .i64 wr, .slice av X.length cap, .int .i64 co, .bool true, .int .i64 (cc * 64 + pp), .bool true, .bool tk] 124, pt pl ((vals ls)) 43, pt q #[.pointer (some ⟨m, 0, none⟩), .int .i64 1, .int .i64 wk, .slice (some ⟨pl, 0, none⟩) np_ np_] 119, memO m c [0, cc * 64 + pp, 0] (s + 1) ⟨1, 1, cc * 64 + pp, cc * 64 + pp, true⟩] w' := by
  have hM0 : True := trivial  -- have hM
  refine Calls.of_ends (vs := [.pointer (some ⟨p, 0, none⟩)]) Try.func72 rfl Try.ntmps72 rfl ?_
  intro a hA
  replace hA : St 39 [(0, _)] a := hA
  refine Ends.seq ?_
  refine Ends.drawn (Mem w (feet [pt p #[.pointer (some ⟨q, 0, none⟩), .int .i64 wr, .slice av X.length cap, .int .i64 co, .bool false, .int .i64 hd, .bool false, .bool tk] 124, pt pl ((vals ls)) 43, pt q #[.pointer (some ⟨m, 0, none⟩), .int .i64 1, .int .i64 wk, .slice (some ⟨pl, 0, none⟩) np_ np_] 119, memO m c [0, cc * 64 + pp, 0] s o]) [pt p #[.pointer (some ⟨q, 0, none⟩), .int .i64 wr, .slice av X.length cap, .int .i64 co, .bool false, .int .i64 hd, .bool false, .bool tk] 124, pt pl ((vals ls)) 43, pt q #[.pointer (some ⟨m, 0, none⟩), .int .i64 1, .int .i64 wk, .slice (some ⟨pl, 0, none⟩) np_ np_] 119]) [(0, true), (1, true), (2, true), (3, true), (4, true), (5, true), (6, true), (7, true), (8, true), (9, true), (10, true), (11, true), (12, true), (13, true), (14, true), (15, false), (16, true), (17, true), (18, true), (19, true), (20, true), (21, false)] 21 mixed (by kernel_rfl) (by kernel_rfl) (by kernel_rfl) (hM.drop 3).drew ?_
  replace hM := hM.drew
  refine D.valF hA rfl (fun _ => R.move rfl) rfl ?_; clear hA a; intro a hA
  refine D.valF hA rfl (fun _ => R.move rfl) rfl ?_; clear hA a; intro a hA
  refine D.valF hA rfl (fun _ => R.nilCheck rfl) rfl ?_; clear hA a; intro a hA
  refine D.valF hA rfl (fun _ => R.fieldAddr (q := 0) fi124_0 rfl rfl rfl) rfl ?_; clear hA a; intro a hA
  refine D.val hA rfl (by kernel_rfl) (fun _ hM => R.load sz48 rfl (hM.cell (k := 0) rfl rfl)) rfl ?_; clear hA a; intro a hA
  refine D.valF hA rfl (fun _ => R.nilCheck rfl) rfl ?_; clear hA a; intro a hA
  refine D.valF hA rfl (fun _ => R.fieldAddr (q := 0) fi119_0 rfl rfl rfl) rfl ?_; clear hA a; intro a hA
  refine D.val hA rfl (by kernel_rfl) (fun _ hM => R.load sz24 rfl (hM.cell (k := 2) rfl rfl)) rfl ?_; clear hA a; intro a hA
  refine D.valF hA rfl (fun _ => R.move rfl) rfl ?_; clear hA a; intro a hA
  refine D.valF hA rfl (fun _ => R.nilCheck rfl) rfl ?_; clear hA a; intro a hA
  refine D.valF hA rfl (fun _ => R.fieldAddr (q := 0) fi124_0 rfl rfl rfl) rfl ?_; clear hA a; intro a hA
  refine D.val hA rfl (by kernel_rfl) (fun _ hM => R.load sz48 rfl (hM.cell (k := 0) rfl rfl)) rfl ?_; clear hA a; intro a hA
  refine D.valF hA rfl (fun _ => R.nilCheck rfl) rfl ?_; clear hA a; intro a hA
  refine D.valF hA rfl (fun _ => R.fieldAddr (q := 1) fi119_1 rfl rfl rfl) rfl ?_; clear hA a; intro a hA
  refine D.val hA rfl (by kernel_rfl) (fun _ hM => R.load sz3 rfl (hM.cell (k := 2) rfl rfl)) rfl ?_; clear hA a; intro a hA
  refine D.call hA rfl (R.callF Try.func63 rfl rfl rfl) rfl (get_ok m c [0, cc * 64 + pp, 0] s o hmc 1 (by omega) (by first | decide | simp) (by omega) _ (hM.mem (k := 3) rfl)) ?_; clear hA a
  rintro e w1 ⟨rfl, hn⟩
  replace hM : Mem _ _ [memO m c [0, cc * 64 + pp, 0] (s + 1) ⟨1, 1, cc * 64 + pp, cc * 64 + pp, true⟩, pt p #[.pointer (some ⟨q, 0, none⟩), .int .i64 wr, .slice av X.length cap, .int .i64 co, .bool false, .int .i64 hd, .bool false, .bool tk] 124, pt pl ((vals ls)) 43, pt q #[.pointer (some ⟨m, 0, none⟩), .int .i64 1, .int .i64 wk, .slice (some ⟨pl, 0, none⟩) np_ np_] 119] _ := hM.callW (k := 3) rfl hn (fun _ h => h); clear hn
  refine ⟨.tuple #[.int .i64 (cc * 64 + pp), .int .i64 0], rfl, (hM.drop 0), fun a hA => ?_⟩
  refine D.valF hA rfl (fun _ => R.move rfl) rfl ?_; clear hA a; intro a hA
  refine D.valF hA rfl (fun _ => R.extract (v := .int .i64 (cc * 64 + pp)) rfl rfl) rfl ?_; clear hA a; intro a hA
  refine D.valF hA rfl (fun _ => R.extract (v := .int .i64 0) rfl rfl) rfl ?_; clear hA a; intro a hA
  refine D.valF hA rfl (fun _ => R.nilCheck rfl) rfl ?_; clear hA a; intro a hA
  refine D.valF hA rfl (fun _ => R.fieldAddr (q := 5) fi124_5 rfl rfl rfl) rfl ?_; clear hA a; intro a hA
  refine D.store (k := 1) hA hM rfl sz3 rfl rfl rfl rfl rfl ?_; clear hM
  intro w2 hM; refine ⟨fun hne => absurd rfl hne, ?_⟩
  replace hM : Mem _ _ [memO m c [0, cc * 64 + pp, 0] (s + 1) ⟨1, 1, cc * 64 + pp, cc * 64 + pp, true⟩, pt p #[.pointer (some ⟨q, 0, none⟩), .int .i64 wr, .slice av X.length cap, .int .i64 co, .bool false, .int .i64 (cc * 64 + pp), .bool false, .bool tk] 124, pt pl ((vals ls)) 43, pt q #[.pointer (some ⟨m, 0, none⟩), .int .i64 1, .int .i64 wk, .slice (some ⟨pl, 0, none⟩) np_ np_] 119] _ := hM
  refine D.done ?_
  replace hA : St 39 [(0, _)] a := hA.sub ((.cons rfl .nil))
  refine Ends.seq ?_
  refine Ends.region ?_
  refine S.val hA (R.move rfl) rfl ?_; clear hA a; intro a hA
  refine S.val hA (R.nilCheck rfl) rfl ?_; clear hA a; intro a hA
  refine S.val hA (R.fieldAddr (q := 4) fi124_4 rfl rfl rfl) rfl ?_; clear hA a; intro a hA
  refine S.store (k := 1) hA hM sz4 rfl rfl rfl rfl rfl ?_; clear hM
  intro w3 hM
  replace hM : Mem _ _ [memO m c [0, cc * 64 + pp, 0] (s + 1) ⟨1, 1, cc * 64 + pp, cc * 64 + pp, true⟩, pt p #[.pointer (some ⟨q, 0, none⟩), .int .i64 wr, .slice av X.length cap, .int .i64 co, .bool true, .int .i64 (cc * 64 + pp), .bool false, .bool tk] 124, pt pl ((vals ls)) 43, pt q #[.pointer (some ⟨m, 0, none⟩), .int .i64 1, .int .i64 wk, .slice (some ⟨pl, 0, none⟩) np_ np_] 119] _ := hM
  refine S.done ?_
  replace hA : St 39 [(0, _)] a := hA.sub ((.cons rfl .nil))
  refine Ends.drawn (Mem w (feet [pt p #[.pointer (some ⟨q, 0, none⟩), .int .i64 wr, .slice av X.length cap, .int .i64 co, .bool false, .int .i64 hd, .bool false, .bool tk] 124, pt pl ((vals ls)) 43, pt q #[.pointer (some ⟨m, 0, none⟩), .int .i64 1, .int .i64 wk, .slice (some ⟨pl, 0, none⟩) np_ np_] 119, memO m c [0, cc * 64 + pp, 0] s o]) [pt p #[.pointer (some ⟨q, 0, none⟩), .int .i64 wr, .slice av X.length cap, .int .i64 co, .bool true, .int .i64 (cc * 64 + pp), .bool false, .bool tk] 124, pt pl ((vals ls)) 43, pt q #[.pointer (some ⟨m, 0, none⟩), .int .i64 1, .int .i64 wk, .slice (some ⟨pl, 0, none⟩) np_ np_] 119]) [(0, true), (1, true), (2, true), (3, true), (4, true), (5, true), (6, true), (7, true), (8, true), (9, true), (10, true), (11, true), (12, true), (13, false)] 13 mixed (by kernel_rfl) (by kernel_rfl) (by kernel_rfl) (hM.drop 0).drew ?_
  replace hM := hM.drew
  refine D.valF hA rfl (fun _ => R.move rfl) rfl ?_; clear hA a; intro a hA
  refine D.valF hA rfl (fun _ => R.move rfl) rfl ?_; clear hA a; intro a hA
  refine D.valF hA rfl (fun _ => R.nilCheck rfl) rfl ?_; clear hA a; intro a hA
  refine D.valF hA rfl (fun _ => R.fieldAddr (q := 5) fi124_5 rfl rfl rfl) rfl ?_; clear hA a; intro a hA
  refine D.val hA rfl (by kernel_rfl) (fun _ hM => R.load sz3 rfl (hM.cell (k := 0) rfl rfl)) rfl ?_; clear hA a; intro a hA
  refine D.valF hA rfl (fun _ => R.to (v := .int .i64 cc) (R.shr rfl rfl (by omega)) (congrArg (Value.int .i64) (shr6 cc pp (by omega)))) rfl ?_; clear hA a; intro a hA
  refine D.valF hA rfl (fun _ => R.move rfl) rfl ?_; clear hA a; intro a hA
  refine D.valF hA rfl (fun _ => R.nilCheck rfl) rfl ?_; clear hA a; intro a hA
  refine D.valF hA rfl (fun _ => R.fieldAddr (q := 3) fi124_3 rfl rfl rfl) rfl ?_; clear hA a; intro a hA
  refine D.val hA rfl (by kernel_rfl) (fun _ hM => R.load sz3 rfl (hM.cell (k := 0) rfl rfl)) rfl ?_; clear hA a; intro a hA
  refine D.valF hA rfl (fun _ => R.tt (R.leq rfl rfl) (by omega)) rfl ?_; clear hA a; intro a hA
  refine D.valF hA rfl (fun _ => R.nilCheck rfl) rfl ?_; clear hA a; intro a hA
  refine D.valF hA rfl (fun _ => R.fieldAddr (q := 6) fi124_6 rfl rfl rfl) rfl ?_; clear hA a; intro a hA
  refine D.store (k := 1) hA hM rfl sz4 rfl rfl rfl rfl rfl ?_; clear hM
  intro w4 hM; refine ⟨fun hne => absurd rfl hne, ?_⟩
  replace hM : Mem _ _ [memO m c [0, cc * 64 + pp, 0] (s + 1) ⟨1, 1, cc * 64 + pp, cc * 64 + pp, true⟩, pt p #[.pointer (some ⟨q, 0, none⟩), .int .i64 wr, .slice av X.length cap, .int .i64 co, .bool true, .int .i64 (cc * 64 + pp), .bool true, .bool tk] 124, pt pl ((vals ls)) 43, pt q #[.pointer (some ⟨m, 0, none⟩), .int .i64 1, .int .i64 wk, .slice (some ⟨pl, 0, none⟩) np_ np_] 119] _ := hM
  refine D.done ?_
  replace hA : St 39 [] a := hA.sub (.nil)
  refine Ends.end0 Try.func72 Try.results72 hA ?_
  replace hM := hM.front (k := 3) rfl
  replace hM := hM.front (k := 3) rfl
  replace hM := hM.front (k := 3) rfl
  replace hM : Mem _ _ [pt p #[.pointer (some ⟨q, 0, none⟩), .int .i64 wr, .slice av X.length cap, .int .i64 co, .bool true, .int .i64 (cc * 64 + pp), .bool true, .bool tk] 124, pt pl ((vals ls)) 43, pt q #[.pointer (some ⟨m, 0, none⟩), .int .i64 1, .int .i64 wk, .slice (some ⟨pl, 0, none⟩) np_ np_] 119, memO m c [0, cc * 64 + pp, 0] (s + 1) ⟨1, 1, cc * 64 + pp, cc * 64 + pp, true⟩] _ := hM
  exact ⟨rfl, hM.firstN 4⟩
set_option maxRecDepth 100000 in
set_option maxHeartbeats 400000 in
theorem istep_look_worse (p q pl np_ : Nat) (wk wr co hd : Int) (tk : Bool) (av : Option Addr) (X : List Int) (cap : Nat) (ls : List Value) (m c : Nat) (s : Int) (o : CellOp) (hmc : m ≠ c) (cc pp : Int) (hcc : 0 ≤ cc ∧ cc ≤ 1125899906842624) (hpp : 0 ≤ pp ∧ pp < 64) (hs : 0 ≤ s ∧ s < 9223372036854775807) (hv : cc ≤ co) (w : World) (hM : Mem w (feet [pt p #[.pointer (some ⟨q, 0, none⟩), .int .i64 wr, .slice av X.length cap, .int .i64 co, .bool false, .int .i64 hd, .bool false, .bool tk] 124, pt pl ((vals ls)) 43, pt q #[.pointer (some ⟨m, 0, none⟩), .int .i64 1, .int .i64 wk, .slice (some ⟨pl, 0, none⟩) np_ np_] 119, memO m c [0, cc * 64 + pp, 0] s o]) [pt p #[.pointer (some ⟨q, 0, none⟩), .int .i64 wr, .slice av X.length cap, .int .i64 co, .bool false, .int .i64 hd, .bool false, .bool tk] 124, pt pl ((vals ls)) 43, pt q #[.pointer (some ⟨m, 0, none⟩), .int .i64 1, .int .i64 wk, .slice (some ⟨pl, 0, none⟩) np_ np_] 119, memO m c [0, cc * 64 + pp, 0] s o] w) :
    Calls Try.prog 35 #[.pointer (some ⟨p, 0, none⟩)] w fun e w' => e = .returned (.bool true) ∧ Mem w (feet [pt p #[.pointer (some ⟨q, 0, none⟩), .int .i64 wr, .slice av X.length cap, .int .i64 co, .bool false, .int .i64 hd, .bool false, .bool tk] 124, pt pl ((vals ls)) 43, pt q #[.pointer (some ⟨m, 0, none⟩), .int .i64 1, .int .i64 wk, .slice (some ⟨pl, 0, none⟩) np_ np_] 119, memO m c [0, cc * 64 + pp, 0] s o]) [pt p #[.pointer (some ⟨q, 0, none⟩), .int .i64 wr, .slice av X.length cap, .int .i64 co, .bool true, .int .i64 (cc * 64 + pp), .bool true, .bool tk] 124, pt pl ((vals ls)) 43, pt q #[.pointer (some ⟨m, 0, none⟩), .int .i64 1, .int .i64 wk, .slice (some ⟨pl, 0, none⟩) np_ np_] 119, memO m c [0, cc * 64 + pp, 0] (s + 1) ⟨1, 1, cc * 64 + pp, cc * 64 + pp, true⟩] w' := by
  have hM0 : True := trivial  -- have hM
  refine Calls.of_ends (vs := [.pointer (some ⟨p, 0, none⟩)]) Try.func35 rfl Try.ntmps35 rfl ?_
  intro a hA
  replace hA : St 24 [(0, _)] a := hA
  refine Ends.seq ?_
  refine Ends.region ?_
  refine S.val hA (R.assign rfl) rfl ?_; clear hA a; intro a hA
  refine S.done ?_
  replace hA : St 24 [(0, _), (2, _)] a := hA.sub ((.cons rfl (.cons rfl .nil)))
  refine Ends.seq ?_
  refine Ends.block ?_
  refine Ends.seq ?_
  refine Ends.region ?_
  refine S.val hA (R.move rfl) rfl ?_; clear hA a; intro a hA
  refine S.val hA (R.eqlNil Try.underlying54 rfl rfl) rfl ?_; clear hA a; intro a hA
  refine S.val hA (R.assign rfl) rfl ?_; clear hA a; intro a hA
  refine S.done ?_
  replace hA : St 24 [(0, _), (2, _), (5, _)] a := hA.sub ((.cons rfl (.cons rfl (.cons rfl .nil))))
  refine Ends.condF hA rfl ?_
  refine Ends.seq ?_
  refine Ends.region ?_
  refine S.val hA (R.move rfl) rfl ?_; clear hA a; intro a hA
  refine S.val hA (R.nilCheck rfl) rfl ?_; clear hA a; intro a hA
  refine S.val hA (R.fieldAddr (q := 6) fi124_6 rfl rfl rfl) rfl ?_; clear hA a; intro a hA
  refine S.val hA (R.load sz4 rfl (hM.cell (k := 0) rfl rfl)) rfl ?_; clear hA a; intro a hA
  refine S.val hA (R.assign rfl) rfl ?_; clear hA a; intro a hA
  refine S.done ?_
  replace hA : St 24 [(0, _), (2, _), (8, _)] a := hA.sub ((.cons rfl (.cons rfl (.cons rfl .nil))))
  refine Ends.condF hA rfl ?_
  refine Ends.seq ?_
  refine Ends.region ?_
  refine S.val hA (R.move rfl) rfl ?_; clear hA a; intro a hA
  refine S.val hA (R.nilCheck rfl) rfl ?_; clear hA a; intro a hA
  refine S.val hA (R.fieldAddr (q := 4) fi124_4 rfl rfl rfl) rfl ?_; clear hA a; intro a hA
  refine S.val hA (R.load sz4 rfl (hM.cell (k := 0) rfl rfl)) rfl ?_; clear hA a; intro a hA
  refine S.val hA (R.assign rfl) rfl ?_; clear hA a; intro a hA
  refine S.done ?_
  replace hA : St 24 [(0, _), (2, _), (13, _)] a := hA.sub ((.cons rfl (.cons rfl (.cons rfl .nil))))
  refine Ends.condF hA rfl ?_
  refine Ends.region ?_
  refine S.val hA (R.move rfl) rfl ?_; clear hA a; intro a hA
  refine S.call hA (R.callF Try.func72 rfl rfl rfl) rfl (ilk_worse p q pl np_ wk wr co hd tk av X cap ls m c s o hmc cc pp hcc hpp hs hv _ (hM.hereN 4)) ?_; clear hA a
  rintro e w1 ⟨rfl, hn⟩
  replace hM : Mem _ _ [pt p #[.pointer (some ⟨q, 0, none⟩), .int .i64 wr, .slice av X.length cap, .int .i64 co, .bool true, .int .i64 (cc * 64 + pp), .bool true, .bool tk] 124, pt pl ((vals ls)) 43, pt q #[.pointer (some ⟨m, 0, none⟩), .int .i64 1, .int .i64 wk, .slice (some ⟨pl, 0, none⟩) np_ np_] 119, memO m c [0, cc * 64 + pp, 0] (s + 1) ⟨1, 1, cc * 64 + pp, cc * 64 + pp, true⟩] _ := hM.callL 4 hn; clear hn
  refine ⟨.tuple #[], rfl, fun a hA => ?_⟩
  refine S.done ?_
  replace hA : St 24 [(0, _), (2, _)] a := hA.sub ((.cons rfl (.cons rfl .nil)))
  refine Ends.inBlock ?_
  refine Ends.seq ?_
  refine Ends.region ?_
  refine S.val hA (R.move rfl) rfl ?_; clear hA a; intro a hA
  refine S.val hA (R.nilCheck rfl) rfl ?_; clear hA a; intro a hA
  refine S.val hA (R.fieldAddr (q := 6) fi124_6 rfl rfl rfl) rfl ?_; clear hA a; intro a hA
  refine S.val hA (R.load sz4 rfl (hM.cell (k := 0) rfl rfl)) rfl ?_; clear hA a; intro a hA
  refine S.val hA (R.assign rfl) rfl ?_; clear hA a; intro a hA
  refine S.done ?_
  replace hA : St 24 [(2, _)] a := hA.sub ((.cons rfl .nil))
  refine Ends.ret1 Try.func35 Try.results35 hA rfl ?_
  exact ⟨rfl, hM.firstN 4⟩
set_option maxRecDepth 100000 in
set_option maxHeartbeats 400000 in
theorem ilk_better (p q pl np_ : Nat) (wk wr co hd : Int) (tk : Bool) (av : Option Addr) (X : List Int) (cap : Nat) (ls : List Value) (m c : Nat) (s : Int) (o : CellOp) (hmc : m ≠ c) (cc pp : Int) (hcc : 0 ≤ cc ∧ cc ≤ 1125899906842624) (hpp : 0 ≤ pp ∧ pp < 64) (hs : 0 ≤ s ∧ s < 9223372036854775807) (hv : co < cc) (w : World) (hM : Mem w (feet [pt p #[.pointer (some ⟨q, 0, none⟩), .int .i64 wr, .slice av X.length cap, .int .i64 co, .bool false, .int .i64 hd, .bool false, .bool tk] 124, pt pl ((vals ls)) 43, pt q #[.pointer (some ⟨m, 0, none⟩), .int .i64 1, .int .i64 wk, .slice (some ⟨pl, 0, none⟩) np_ np_] 119, memO m c [0, cc * 64 + pp, 0] s o]) [pt p #[.pointer (some ⟨q, 0, none⟩), .int .i64 wr, .slice av X.length cap, .int .i64 co, .bool false, .int .i64 hd, .bool false, .bool tk] 124, pt pl ((vals ls)) 43, pt q #[.pointer (some ⟨m, 0, none⟩), .int .i64 1, .int .i64 wk, .slice (some ⟨pl, 0, none⟩) np_ np_] 119, memO m c [0, cc * 64 + pp, 0] s o] w) :
    Calls Try.prog 72 #[.pointer (some ⟨p, 0, none⟩)] w fun e w' => e = .returned (.tuple #[]) ∧ Mem w (feet [pt p #[.pointer (some ⟨q, 0, none⟩), .int .i64 wr, .slice av X.length cap, .int .i64 co, .bool false, .int .i64 hd, .bool false, .bool tk] 124, pt pl ((vals ls)) 43, pt q #[.pointer (some ⟨m, 0, none⟩), .int .i64 1, .int .i64 wk, .slice (some ⟨pl, 0, none⟩) np_ np_] 119, memO m c [0, cc * 64 + pp, 0] s o]) [pt p #[.pointer (some ⟨q, 0, none⟩), .int .i64 wr, .slice av X.length cap, .int .i64 co, .bool true, .int .i64 (cc * 64 + pp), .bool false, .bool tk] 124, pt pl ((vals ls)) 43, pt q #[.pointer (some ⟨m, 0, none⟩), .int .i64 1, .int .i64 wk, .slice (some ⟨pl, 0, none⟩) np_ np_] 119, memO m c [0, cc * 64 + pp, 0] (s + 1) ⟨1, 1, cc * 64 + pp, cc * 64 + pp, true⟩] w' := by
  have hM0 : True := trivial  -- have hM
  refine Calls.of_ends (vs := [.pointer (some ⟨p, 0, none⟩)]) Try.func72 rfl Try.ntmps72 rfl ?_
  intro a hA
  replace hA : St 39 [(0, _)] a := hA
  refine Ends.seq ?_
  refine Ends.drawn (Mem w (feet [pt p #[.pointer (some ⟨q, 0, none⟩), .int .i64 wr, .slice av X.length cap, .int .i64 co, .bool false, .int .i64 hd, .bool false, .bool tk] 124, pt pl ((vals ls)) 43, pt q #[.pointer (some ⟨m, 0, none⟩), .int .i64 1, .int .i64 wk, .slice (some ⟨pl, 0, none⟩) np_ np_] 119, memO m c [0, cc * 64 + pp, 0] s o]) [pt p #[.pointer (some ⟨q, 0, none⟩), .int .i64 wr, .slice av X.length cap, .int .i64 co, .bool false, .int .i64 hd, .bool false, .bool tk] 124, pt pl ((vals ls)) 43, pt q #[.pointer (some ⟨m, 0, none⟩), .int .i64 1, .int .i64 wk, .slice (some ⟨pl, 0, none⟩) np_ np_] 119]) [(0, true), (1, true), (2, true), (3, true), (4, true), (5, true), (6, true), (7, true), (8, true), (9, true), (10, true), (11, true), (12, true), (13, true), (14, true), (15, false), (16, true), (17, true), (18, true), (19, true), (20, true), (21, false)] 21 mixed (by kernel_rfl) (by kernel_rfl) (by kernel_rfl) (hM.drop 3).drew ?_
  replace hM := hM.drew
  refine D.valF hA rfl (fun _ => R.move rfl) rfl ?_; clear hA a; intro a hA
  refine D.valF hA rfl (fun _ => R.move rfl) rfl ?_; clear hA a; intro a hA
  refine D.valF hA rfl (fun _ => R.nilCheck rfl) rfl ?_; clear hA a; intro a hA
  refine D.valF hA rfl (fun _ => R.fieldAddr (q := 0) fi124_0 rfl rfl rfl) rfl ?_; clear hA a; intro a hA
  refine D.val hA rfl (by kernel_rfl) (fun _ hM => R.load sz48 rfl (hM.cell (k := 0) rfl rfl)) rfl ?_; clear hA a; intro a hA
  refine D.valF hA rfl (fun _ => R.nilCheck rfl) rfl ?_; clear hA a; intro a hA
  refine D.valF hA rfl (fun _ => R.fieldAddr (q := 0) fi119_0 rfl rfl rfl) rfl ?_; clear hA a; intro a hA
  refine D.val hA rfl (by kernel_rfl) (fun _ hM => R.load sz24 rfl (hM.cell (k := 2) rfl rfl)) rfl ?_; clear hA a; intro a hA
  refine D.valF hA rfl (fun _ => R.move rfl) rfl ?_; clear hA a; intro a hA
  refine D.valF hA rfl (fun _ => R.nilCheck rfl) rfl ?_; clear hA a; intro a hA
  refine D.valF hA rfl (fun _ => R.fieldAddr (q := 0) fi124_0 rfl rfl rfl) rfl ?_; clear hA a; intro a hA
  refine D.val hA rfl (by kernel_rfl) (fun _ hM => R.load sz48 rfl (hM.cell (k := 0) rfl rfl)) rfl ?_; clear hA a; intro a hA
  refine D.valF hA rfl (fun _ => R.nilCheck rfl) rfl ?_; clear hA a; intro a hA
  refine D.valF hA rfl (fun _ => R.fieldAddr (q := 1) fi119_1 rfl rfl rfl) rfl ?_; clear hA a; intro a hA
  refine D.val hA rfl (by kernel_rfl) (fun _ hM => R.load sz3 rfl (hM.cell (k := 2) rfl rfl)) rfl ?_; clear hA a; intro a hA
  refine D.call hA rfl (R.callF Try.func63 rfl rfl rfl) rfl (get_ok m c [0, cc * 64 + pp, 0] s o hmc 1 (by omega) (by first | decide | simp) (by omega) _ (hM.mem (k := 3) rfl)) ?_; clear hA a
  rintro e w1 ⟨rfl, hn⟩
  replace hM : Mem _ _ [memO m c [0, cc * 64 + pp, 0] (s + 1) ⟨1, 1, cc * 64 + pp, cc * 64 + pp, true⟩, pt p #[.pointer (some ⟨q, 0, none⟩), .int .i64 wr, .slice av X.length cap, .int .i64 co, .bool false, .int .i64 hd, .bool false, .bool tk] 124, pt pl ((vals ls)) 43, pt q #[.pointer (some ⟨m, 0, none⟩), .int .i64 1, .int .i64 wk, .slice (some ⟨pl, 0, none⟩) np_ np_] 119] _ := hM.callW (k := 3) rfl hn (fun _ h => h); clear hn
  refine ⟨.tuple #[.int .i64 (cc * 64 + pp), .int .i64 0], rfl, (hM.drop 0), fun a hA => ?_⟩
  refine D.valF hA rfl (fun _ => R.move rfl) rfl ?_; clear hA a; intro a hA
  refine D.valF hA rfl (fun _ => R.extract (v := .int .i64 (cc * 64 + pp)) rfl rfl) rfl ?_; clear hA a; intro a hA
  refine D.valF hA rfl (fun _ => R.extract (v := .int .i64 0) rfl rfl) rfl ?_; clear hA a; intro a hA
  refine D.valF hA rfl (fun _ => R.nilCheck rfl) rfl ?_; clear hA a; intro a hA
  refine D.valF hA rfl (fun _ => R.fieldAddr (q := 5) fi124_5 rfl rfl rfl) rfl ?_; clear hA a; intro a hA
  refine D.store (k := 1) hA hM rfl sz3 rfl rfl rfl rfl rfl ?_; clear hM
  intro w2 hM; refine ⟨fun hne => absurd rfl hne, ?_⟩
  replace hM : Mem _ _ [memO m c [0, cc * 64 + pp, 0] (s + 1) ⟨1, 1, cc * 64 + pp, cc * 64 + pp, true⟩, pt p #[.pointer (some ⟨q, 0, none⟩), .int .i64 wr, .slice av X.length cap, .int .i64 co, .bool false, .int .i64 (cc * 64 + pp), .bool false, .bool tk] 124, pt pl ((vals ls)) 43, pt q #[.pointer (some ⟨m, 0, none⟩), .int .i64 1, .int .i64 wk, .slice (some ⟨pl, 0, none⟩) np_ np_] 119] _ := hM
  refine D.done ?_
  replace hA : St 39 [(0, _)] a := hA.sub ((.cons rfl .nil))
  refine Ends.seq ?_
  refine Ends.region ?_
  refine S.val hA (R.move rfl) rfl ?_; clear hA a; intro a hA
  refine S.val hA (R.nilCheck rfl) rfl ?_; clear hA a; intro a hA
  refine S.val hA (R.fieldAddr (q := 4) fi124_4 rfl rfl rfl) rfl ?_; clear hA a; intro a hA
  refine S.store (k := 1) hA hM sz4 rfl rfl rfl rfl rfl ?_; clear hM
  intro w3 hM
  replace hM : Mem _ _ [memO m c [0, cc * 64 + pp, 0] (s + 1) ⟨1, 1, cc * 64 + pp, cc * 64 + pp, true⟩, pt p #[.pointer (some ⟨q, 0, none⟩), .int .i64 wr, .slice av X.length cap, .int .i64 co, .bool true, .int .i64 (cc * 64 + pp), .bool false, .bool tk] 124, pt pl ((vals ls)) 43, pt q #[.pointer (some ⟨m, 0, none⟩), .int .i64 1, .int .i64 wk, .slice (some ⟨pl, 0, none⟩) np_ np_] 119] _ := hM
  refine S.done ?_
  replace hA : St 39 [(0, _)] a := hA.sub ((.cons rfl .nil))
  refine Ends.drawn (Mem w (feet [pt p #[.pointer (some ⟨q, 0, none⟩), .int .i64 wr, .slice av X.length cap, .int .i64 co, .bool false, .int .i64 hd, .bool false, .bool tk] 124, pt pl ((vals ls)) 43, pt q #[.pointer (some ⟨m, 0, none⟩), .int .i64 1, .int .i64 wk, .slice (some ⟨pl, 0, none⟩) np_ np_] 119, memO m c [0, cc * 64 + pp, 0] s o]) [pt p #[.pointer (some ⟨q, 0, none⟩), .int .i64 wr, .slice av X.length cap, .int .i64 co, .bool true, .int .i64 (cc * 64 + pp), .bool false, .bool tk] 124, pt pl ((vals ls)) 43, pt q #[.pointer (some ⟨m, 0, none⟩), .int .i64 1, .int .i64 wk, .slice (some ⟨pl, 0, none⟩) np_ np_] 119]) [(0, true), (1, true), (2, true), (3, true), (4, true), (5, true), (6, true), (7, true), (8, true), (9, true), (10, true), (11, true), (12, true), (13, false)] 13 mixed (by kernel_rfl) (by kernel_rfl) (by kernel_rfl) (hM.drop 0).drew ?_
  replace hM := hM.drew
  refine D.valF hA rfl (fun _ => R.move rfl) rfl ?_; clear hA a; intro a hA
  refine D.valF hA rfl (fun _ => R.move rfl) rfl ?_; clear hA a; intro a hA
  refine D.valF hA rfl (fun _ => R.nilCheck rfl) rfl ?_; clear hA a; intro a hA
  refine D.valF hA rfl (fun _ => R.fieldAddr (q := 5) fi124_5 rfl rfl rfl) rfl ?_; clear hA a; intro a hA
  refine D.val hA rfl (by kernel_rfl) (fun _ hM => R.load sz3 rfl (hM.cell (k := 0) rfl rfl)) rfl ?_; clear hA a; intro a hA
  refine D.valF hA rfl (fun _ => R.to (v := .int .i64 cc) (R.shr rfl rfl (by omega)) (congrArg (Value.int .i64) (shr6 cc pp (by omega)))) rfl ?_; clear hA a; intro a hA
  refine D.valF hA rfl (fun _ => R.move rfl) rfl ?_; clear hA a; intro a hA
  refine D.valF hA rfl (fun _ => R.nilCheck rfl) rfl ?_; clear hA a; intro a hA
  refine D.valF hA rfl (fun _ => R.fieldAddr (q := 3) fi124_3 rfl rfl rfl) rfl ?_; clear hA a; intro a hA
  refine D.val hA rfl (by kernel_rfl) (fun _ hM => R.load sz3 rfl (hM.cell (k := 0) rfl rfl)) rfl ?_; clear hA a; intro a hA
  refine D.valF hA rfl (fun _ => R.ff (R.leq rfl rfl) (by omega)) rfl ?_; clear hA a; intro a hA
  refine D.valF hA rfl (fun _ => R.nilCheck rfl) rfl ?_; clear hA a; intro a hA
  refine D.valF hA rfl (fun _ => R.fieldAddr (q := 6) fi124_6 rfl rfl rfl) rfl ?_; clear hA a; intro a hA
  refine D.store (k := 1) hA hM rfl sz4 rfl rfl rfl rfl rfl ?_; clear hM
  intro w4 hM; refine ⟨fun hne => absurd rfl hne, ?_⟩
  replace hM : Mem _ _ [memO m c [0, cc * 64 + pp, 0] (s + 1) ⟨1, 1, cc * 64 + pp, cc * 64 + pp, true⟩, pt p #[.pointer (some ⟨q, 0, none⟩), .int .i64 wr, .slice av X.length cap, .int .i64 co, .bool true, .int .i64 (cc * 64 + pp), .bool false, .bool tk] 124, pt pl ((vals ls)) 43, pt q #[.pointer (some ⟨m, 0, none⟩), .int .i64 1, .int .i64 wk, .slice (some ⟨pl, 0, none⟩) np_ np_] 119] _ := hM
  refine D.done ?_
  replace hA : St 39 [] a := hA.sub (.nil)
  refine Ends.end0 Try.func72 Try.results72 hA ?_
  replace hM := hM.front (k := 3) rfl
  replace hM := hM.front (k := 3) rfl
  replace hM := hM.front (k := 3) rfl
  replace hM : Mem _ _ [pt p #[.pointer (some ⟨q, 0, none⟩), .int .i64 wr, .slice av X.length cap, .int .i64 co, .bool true, .int .i64 (cc * 64 + pp), .bool false, .bool tk] 124, pt pl ((vals ls)) 43, pt q #[.pointer (some ⟨m, 0, none⟩), .int .i64 1, .int .i64 wk, .slice (some ⟨pl, 0, none⟩) np_ np_] 119, memO m c [0, cc * 64 + pp, 0] (s + 1) ⟨1, 1, cc * 64 + pp, cc * 64 + pp, true⟩] _ := hM
  exact ⟨rfl, hM.firstN 4⟩
set_option maxRecDepth 100000 in
set_option maxHeartbeats 400000 in
theorem istep_look_better (p q pl np_ : Nat) (wk wr co hd : Int) (tk : Bool) (av : Option Addr) (X : List Int) (cap : Nat) (ls : List Value) (m c : Nat) (s : Int) (o : CellOp) (hmc : m ≠ c) (cc pp : Int) (hcc : 0 ≤ cc ∧ cc ≤ 1125899906842624) (hpp : 0 ≤ pp ∧ pp < 64) (hs : 0 ≤ s ∧ s < 9223372036854775807) (hv : co < cc) (w : World) (hM : Mem w (feet [pt p #[.pointer (some ⟨q, 0, none⟩), .int .i64 wr, .slice av X.length cap, .int .i64 co, .bool false, .int .i64 hd, .bool false, .bool tk] 124, pt pl ((vals ls)) 43, pt q #[.pointer (some ⟨m, 0, none⟩), .int .i64 1, .int .i64 wk, .slice (some ⟨pl, 0, none⟩) np_ np_] 119, memO m c [0, cc * 64 + pp, 0] s o]) [pt p #[.pointer (some ⟨q, 0, none⟩), .int .i64 wr, .slice av X.length cap, .int .i64 co, .bool false, .int .i64 hd, .bool false, .bool tk] 124, pt pl ((vals ls)) 43, pt q #[.pointer (some ⟨m, 0, none⟩), .int .i64 1, .int .i64 wk, .slice (some ⟨pl, 0, none⟩) np_ np_] 119, memO m c [0, cc * 64 + pp, 0] s o] w) :
    Calls Try.prog 35 #[.pointer (some ⟨p, 0, none⟩)] w fun e w' => e = .returned (.bool false) ∧ Mem w (feet [pt p #[.pointer (some ⟨q, 0, none⟩), .int .i64 wr, .slice av X.length cap, .int .i64 co, .bool false, .int .i64 hd, .bool false, .bool tk] 124, pt pl ((vals ls)) 43, pt q #[.pointer (some ⟨m, 0, none⟩), .int .i64 1, .int .i64 wk, .slice (some ⟨pl, 0, none⟩) np_ np_] 119, memO m c [0, cc * 64 + pp, 0] s o]) [pt p #[.pointer (some ⟨q, 0, none⟩), .int .i64 wr, .slice av X.length cap, .int .i64 co, .bool true, .int .i64 (cc * 64 + pp), .bool false, .bool tk] 124, pt pl ((vals ls)) 43, pt q #[.pointer (some ⟨m, 0, none⟩), .int .i64 1, .int .i64 wk, .slice (some ⟨pl, 0, none⟩) np_ np_] 119, memO m c [0, cc * 64 + pp, 0] (s + 1) ⟨1, 1, cc * 64 + pp, cc * 64 + pp, true⟩] w' := by
  have hM0 : True := trivial  -- have hM
  refine Calls.of_ends (vs := [.pointer (some ⟨p, 0, none⟩)]) Try.func35 rfl Try.ntmps35 rfl ?_
  intro a hA
  replace hA : St 24 [(0, _)] a := hA
  refine Ends.seq ?_
  refine Ends.region ?_
  refine S.val hA (R.assign rfl) rfl ?_; clear hA a; intro a hA
  refine S.done ?_
  replace hA : St 24 [(0, _), (2, _)] a := hA.sub ((.cons rfl (.cons rfl .nil)))
  refine Ends.seq ?_
  refine Ends.block ?_
  refine Ends.seq ?_
  refine Ends.region ?_
  refine S.val hA (R.move rfl) rfl ?_; clear hA a; intro a hA
  refine S.val hA (R.eqlNil Try.underlying54 rfl rfl) rfl ?_; clear hA a; intro a hA
  refine S.val hA (R.assign rfl) rfl ?_; clear hA a; intro a hA
  refine S.done ?_
  replace hA : St 24 [(0, _), (2, _), (5, _)] a := hA.sub ((.cons rfl (.cons rfl (.cons rfl .nil))))
  refine Ends.condF hA rfl ?_
  refine Ends.seq ?_
  refine Ends.region ?_
  refine S.val hA (R.move rfl) rfl ?_; clear hA a; intro a hA
  refine S.val hA (R.nilCheck rfl) rfl ?_; clear hA a; intro a hA
  refine S.val hA (R.fieldAddr (q := 6) fi124_6 rfl rfl rfl) rfl ?_; clear hA a; intro a hA
  refine S.val hA (R.load sz4 rfl (hM.cell (k := 0) rfl rfl)) rfl ?_; clear hA a; intro a hA
  refine S.val hA (R.assign rfl) rfl ?_; clear hA a; intro a hA
  refine S.done ?_
  replace hA : St 24 [(0, _), (2, _), (8, _)] a := hA.sub ((.cons rfl (.cons rfl (.cons rfl .nil))))
  refine Ends.condF hA rfl ?_
  refine Ends.seq ?_
  refine Ends.region ?_
  refine S.val hA (R.move rfl) rfl ?_; clear hA a; intro a hA
  refine S.val hA (R.nilCheck rfl) rfl ?_; clear hA a; intro a hA
  refine S.val hA (R.fieldAddr (q := 4) fi124_4 rfl rfl rfl) rfl ?_; clear hA a; intro a hA
  refine S.val hA (R.load sz4 rfl (hM.cell (k := 0) rfl rfl)) rfl ?_; clear hA a; intro a hA
  refine S.val hA (R.assign rfl) rfl ?_; clear hA a; intro a hA
  refine S.done ?_
  replace hA : St 24 [(0, _), (2, _), (13, _)] a := hA.sub ((.cons rfl (.cons rfl (.cons rfl .nil))))
  refine Ends.condF hA rfl ?_
  refine Ends.region ?_
  refine S.val hA (R.move rfl) rfl ?_; clear hA a; intro a hA
  refine S.call hA (R.callF Try.func72 rfl rfl rfl) rfl (ilk_better p q pl np_ wk wr co hd tk av X cap ls m c s o hmc cc pp hcc hpp hs hv _ (hM.hereN 4)) ?_; clear hA a
  rintro e w1 ⟨rfl, hn⟩
  replace hM : Mem _ _ [pt p #[.pointer (some ⟨q, 0, none⟩), .int .i64 wr, .slice av X.length cap, .int .i64 co, .bool true, .int .i64 (cc * 64 + pp), .bool false, .bool tk] 124, pt pl ((vals ls)) 43, pt q #[.pointer (some ⟨m, 0, none⟩), .int .i64 1, .int .i64 wk, .slice (some ⟨pl, 0, none⟩) np_ np_] 119, memO m c [0, cc * 64 + pp, 0] (s + 1) ⟨1, 1, cc * 64 + pp, cc * 64 + pp, true⟩] _ := hM.callL 4 hn; clear hn
  refine ⟨.tuple #[], rfl, fun a hA => ?_⟩
  refine S.done ?_
  replace hA : St 24 [(0, _), (2, _)] a := hA.sub ((.cons rfl (.cons rfl .nil)))
  refine Ends.inBlock ?_
  refine Ends.seq ?_
  refine Ends.region ?_
  refine S.val hA (R.move rfl) rfl ?_; clear hA a; intro a hA
  refine S.val hA (R.nilCheck rfl) rfl ?_; clear hA a; intro a hA
  refine S.val hA (R.fieldAddr (q := 6) fi124_6 rfl rfl rfl) rfl ?_; clear hA a; intro a hA
  refine S.val hA (R.load sz4 rfl (hM.cell (k := 0) rfl rfl)) rfl ?_; clear hA a; intro a hA
  refine S.val hA (R.assign rfl) rfl ?_; clear hA a; intro a hA
  refine S.done ?_
  replace hA : St 24 [(2, _)] a := hA.sub ((.cons rfl .nil))
  refine Ends.ret1 Try.func35 Try.results35 hA rfl ?_
  exact ⟨rfl, hM.firstN 4⟩
set_option maxRecDepth 100000 in
set_option maxHeartbeats 400000 in
theorem iswap_hit (p q pl np_ : Nat) (wk wr co np : Int) (tk : Bool) (av : Option Addr) (X : List Int) (cap : Nat) (ls : List Value) (m c : Nat) (s : Int) (o : CellOp) (hmc : m ≠ c) (cc pp : Int) (hcc : 0 ≤ cc ∧ cc ≤ 1125899906842624) (hpp : 0 ≤ pp ∧ pp < 64) (hs : 0 ≤ s ∧ s < 9223372036854775807) (hwr : 0 ≤ wr ∧ wr < 16) (hco : 0 ≤ co ∧ co ≤ 1125899906842624) (hnp : np < np_) (hlen : ls.length = np_) (hf : (pp = 2 * wr ∧ np = 2 * wr + 1) ∨ (pp ≠ 2 * wr ∧ np = 2 * wr)) (w : World) (hM : Mem w (feet [pt p #[.pointer (some ⟨q, 0, none⟩), .int .i64 wr, .slice av X.length cap, .int .i64 co, .bool true, .int .i64 (cc * 64 + pp), .bool false, .bool tk] 124, pt pl ((vals ls)) 43, pt q #[.pointer (some ⟨m, 0, none⟩), .int .i64 1, .int .i64 wk, .slice (some ⟨pl, 0, none⟩) np_ np_] 119, memO m c [0, cc * 64 + pp, 0] s o]) [pt p #[.pointer (some ⟨q, 0, none⟩), .int .i64 wr, .slice av X.length cap, .int .i64 co, .bool true, .int .i64 (cc * 64 + pp), .bool false, .bool tk] 124, pt pl ((vals ls)) 43, pt q #[.pointer (some ⟨m, 0, none⟩), .int .i64 1, .int .i64 wk, .slice (some ⟨pl, 0, none⟩) np_ np_] 119, memO m c [0, cc * 64 + pp, 0] s o] w) :
    Calls Try.prog 71 #[.pointer (some ⟨p, 0, none⟩)] w fun e w' => e = .returned (.tuple #[]) ∧ Mem w (feet [pt p #[.pointer (some ⟨q, 0, none⟩), .int .i64 wr, .slice av X.length cap, .int .i64 co, .bool true, .int .i64 (cc * 64 + pp), .bool false, .bool tk] 124, pt pl ((vals ls)) 43, pt q #[.pointer (some ⟨m, 0, none⟩), .int .i64 1, .int .i64 wk, .slice (some ⟨pl, 0, none⟩) np_ np_] 119, memO m c [0, cc * 64 + pp, 0] s o]) [pt p #[.pointer (some ⟨q, 0, none⟩), .int .i64 wr, .slice av X.length cap, .int .i64 co, .bool false, .int .i64 (cc * 64 + pp), .bool true, .bool true] 124, pt pl ((vals (ls.set np.toNat (.slice av X.length cap)))) 43, pt q #[.pointer (some ⟨m, 0, none⟩), .int .i64 1, .int .i64 wk, .slice (some ⟨pl, 0, none⟩) np_ np_] 119, memO m c [0, co * 64 + np, 0] (s + 1) ⟨3, 1, cc * 64 + pp, co * 64 + np, true⟩] w' := by
  have hM0 : True := trivial  -- have hM
  refine Calls.of_ends (vs := [.pointer (some ⟨p, 0, none⟩)]) Try.func71 rfl Try.ntmps71 rfl ?_
  intro a hA
  replace hA : St 59 [(0, _)] a := hA
  refine Ends.seq ?_
  refine Ends.region ?_
  refine S.val hA (R.move rfl) rfl ?_; clear hA a; intro a hA
  refine S.call hA (R.callF Try.func84 rfl rfl rfl) rfl (ifree_any p q wr av X cap co cc pp true false tk np hcc hpp hwr hf _ (hM.block (k := 0) rfl)) ?_; clear hA a
  rintro e w1 ⟨rfl, rfl⟩
  refine ⟨.int .i64 np, rfl, fun a hA => ?_⟩
  refine S.val hA (R.assign rfl) rfl ?_; clear hA a; intro a hA
  refine S.done ?_
  replace hA : St 59 [(0, _), (2, _)] a := hA.sub ((.cons rfl (.cons rfl .nil)))
  refine Ends.seq ?_
  refine Ends.drawn (Mem w (feet [pt p #[.pointer (some ⟨q, 0, none⟩), .int .i64 wr, .slice av X.length cap, .int .i64 co, .bool true, .int .i64 (cc * 64 + pp), .bool false, .bool tk] 124, pt pl ((vals ls)) 43, pt q #[.pointer (some ⟨m, 0, none⟩), .int .i64 1, .int .i64 wk, .slice (some ⟨pl, 0, none⟩) np_ np_] 119, memO m c [0, cc * 64 + pp, 0] s o]) [pt p #[.pointer (some ⟨q, 0, none⟩), .int .i64 wr, .slice av X.length cap, .int .i64 co, .bool true, .int .i64 (cc * 64 + pp), .bool false, .bool tk] 124, pt pl ((vals ls)) 43, pt q #[.pointer (some ⟨m, 0, none⟩), .int .i64 1, .int .i64 wk, .slice (some ⟨pl, 0, none⟩) np_ np_] 119]) [(0, true), (1, true), (2, true), (3, true), (4, true), (5, true), (6, true), (7, true), (8, true), (9, true), (10, true), (11, true), (12, true), (13, false)] 13 mixed (by kernel_rfl) (by kernel_rfl) (by kernel_rfl) (hM.drop 3).drew ?_
  replace hM := hM.drew
  refine D.valF hA rfl (fun _ => R.move rfl) rfl ?_; clear hA a; intro a hA
  refine D.valF hA rfl (fun _ => R.nilCheck rfl) rfl ?_; clear hA a; intro a hA
  refine D.valF hA rfl (fun _ => R.fieldAddr (q := 0) fi124_0 rfl rfl rfl) rfl ?_; clear hA a; intro a hA
  refine D.val hA rfl (by kernel_rfl) (fun _ hM => R.load sz48 rfl (hM.cell (k := 0) rfl rfl)) rfl ?_; clear hA a; intro a hA
  refine D.valF hA rfl (fun _ => R.nilCheck rfl) rfl ?_; clear hA a; intro a hA
  refine D.valF hA rfl (fun _ => R.fieldAddr (q := 3) fi119_3 rfl rfl rfl) rfl ?_; clear hA a; intro a hA
  refine D.val hA rfl (by kernel_rfl) (fun _ hM => R.load sz95 rfl (hM.cell (k := 2) rfl rfl)) rfl ?_; clear hA a; intro a hA
  refine D.valF hA rfl (fun _ => R.move rfl) rfl ?_; clear hA a; intro a hA
  refine D.valF hA rfl (fun _ => R.move rfl) rfl ?_; clear hA a; intro a hA
  refine D.valF hA rfl (fun _ => R.nilCheck rfl) rfl ?_; clear hA a; intro a hA
  refine D.valF hA rfl (fun _ => R.fieldAddr (q := 2) fi124_2 rfl rfl rfl) rfl ?_; clear hA a; intro a hA
  refine D.val hA rfl (by kernel_rfl) (fun _ hM => R.load sz43 rfl (hM.cell (k := 0) rfl rfl)) rfl ?_; clear hA a; intro a hA
  refine D.valF hA rfl (fun _ => R.indexAddr (q := np.toNat) sl95 rfl rfl (by omega) (by omega)) rfl ?_; clear hA a; intro a hA
  refine D.store (k := 1) hA hM rfl sz43 rfl rfl rfl rfl (vals_get _ _ (by omega)) ?_; clear hM
  intro w2 hM; refine ⟨fun hne => absurd rfl hne, ?_⟩
  rw [vals_set] at hM
  replace hM : Mem _ _ [pt p #[.pointer (some ⟨q, 0, none⟩), .int .i64 wr, .slice av X.length cap, .int .i64 co, .bool true, .int .i64 (cc * 64 + pp), .bool false, .bool tk] 124, pt pl ((vals (ls.set np.toNat (.slice av X.length cap)))) 43, pt q #[.pointer (some ⟨m, 0, none⟩), .int .i64 1, .int .i64 wk, .slice (some ⟨pl, 0, none⟩) np_ np_] 119, memO m c [0, cc * 64 + pp, 0] s o] _ := hM
  refine D.done ?_
  replace hA : St 59 [(0, _), (2, _)] a := hA.sub ((.cons rfl (.cons rfl .nil)))
  refine Ends.seq ?_
  refine Ends.drawn (Mem w (feet [pt p #[.pointer (some ⟨q, 0, none⟩), .int .i64 wr, .slice av X.length cap, .int .i64 co, .bool true, .int .i64 (cc * 64 + pp), .bool false, .bool tk] 124, pt pl ((vals ls)) 43, pt q #[.pointer (some ⟨m, 0, none⟩), .int .i64 1, .int .i64 wk, .slice (some ⟨pl, 0, none⟩) np_ np_] 119, memO m c [0, cc * 64 + pp, 0] s o]) [pt p #[.pointer (some ⟨q, 0, none⟩), .int .i64 wr, .slice av X.length cap, .int .i64 co, .bool true, .int .i64 (cc * 64 + pp), .bool false, .bool tk] 124, pt pl ((vals (ls.set np.toNat (.slice av X.length cap)))) 43, pt q #[.pointer (some ⟨m, 0, none⟩), .int .i64 1, .int .i64 wk, .slice (some ⟨pl, 0, none⟩) np_ np_] 119]) [(0, true), (1, true), (2, true), (3, true), (4, true), (5, true), (6, true), (7, true), (8, true), (9, true), (10, true), (11, true), (12, true), (13, true), (14, true), (15, true), (16, true), (17, true), (18, true), (19, true), (20, true), (21, true), (22, true), (23, true), (24, false), (25, false), (26, true), (27, true), (28, true), (29, true), (30, true), (31, false)] 31 mixed (by kernel_rfl) (by kernel_rfl) (by kernel_rfl) (hM.drop 3).drew ?_
  replace hM := hM.drew
  refine D.valF hA rfl (fun _ => R.move rfl) rfl ?_; clear hA a; intro a hA
  refine D.valF hA rfl (fun _ => R.move rfl) rfl ?_; clear hA a; intro a hA
  refine D.valF hA rfl (fun _ => R.nilCheck rfl) rfl ?_; clear hA a; intro a hA
  refine D.valF hA rfl (fun _ => R.fieldAddr (q := 0) fi124_0 rfl rfl rfl) rfl ?_; clear hA a; intro a hA
  refine D.val hA rfl (by kernel_rfl) (fun _ hM => R.load sz48 rfl (hM.cell (k := 0) rfl rfl)) rfl ?_; clear hA a; intro a hA
  refine D.valF hA rfl (fun _ => R.nilCheck rfl) rfl ?_; clear hA a; intro a hA
  refine D.valF hA rfl (fun _ => R.fieldAddr (q := 0) fi119_0 rfl rfl rfl) rfl ?_; clear hA a; intro a hA
  refine D.val hA rfl (by kernel_rfl) (fun _ hM => R.load sz24 rfl (hM.cell (k := 2) rfl rfl)) rfl ?_; clear hA a; intro a hA
  refine D.valF hA rfl (fun _ => R.move rfl) rfl ?_; clear hA a; intro a hA
  refine D.valF hA rfl (fun _ => R.nilCheck rfl) rfl ?_; clear hA a; intro a hA
  refine D.valF hA rfl (fun _ => R.fieldAddr (q := 0) fi124_0 rfl rfl rfl) rfl ?_; clear hA a; intro a hA
  refine D.val hA rfl (by kernel_rfl) (fun _ hM => R.load sz48 rfl (hM.cell (k := 0) rfl rfl)) rfl ?_; clear hA a; intro a hA
  refine D.valF hA rfl (fun _ => R.nilCheck rfl) rfl ?_; clear hA a; intro a hA
  refine D.valF hA rfl (fun _ => R.fieldAddr (q := 1) fi119_1 rfl rfl rfl) rfl ?_; clear hA a; intro a hA
  refine D.val hA rfl (by kernel_rfl) (fun _ hM => R.load sz3 rfl (hM.cell (k := 2) rfl rfl)) rfl ?_; clear hA a; intro a hA
  refine D.valF hA rfl (fun _ => R.move rfl) rfl ?_; clear hA a; intro a hA
  refine D.valF hA rfl (fun _ => R.nilCheck rfl) rfl ?_; clear hA a; intro a hA
  refine D.valF hA rfl (fun _ => R.fieldAddr (q := 5) fi124_5 rfl rfl rfl) rfl ?_; clear hA a; intro a hA
  refine D.val hA rfl (by kernel_rfl) (fun _ hM => R.load sz3 rfl (hM.cell (k := 0) rfl rfl)) rfl ?_; clear hA a; intro a hA
  refine D.valF hA rfl (fun _ => R.move rfl) rfl ?_; clear hA a; intro a hA
  refine D.valF hA rfl (fun _ => R.nilCheck rfl) rfl ?_; clear hA a; intro a hA
  refine D.valF hA rfl (fun _ => R.fieldAddr (q := 3) fi124_3 rfl rfl rfl) rfl ?_; clear hA a; intro a hA
  refine D.val hA rfl (by kernel_rfl) (fun _ hM => R.load sz3 rfl (hM.cell (k := 0) rfl rfl)) rfl ?_; clear hA a; intro a hA
  refine D.valF hA rfl (fun _ => R.move rfl) rfl ?_; clear hA a; intro a hA
  refine D.call hA rfl (R.callF Try.func70 rfl rfl rfl) rfl (ipack_any co np (by omega) (by omega) _) ?_; clear hA a
  rintro e w3 ⟨rfl, rfl⟩
  refine ⟨.int .i64 (co * 64 + np), rfl, (hM.drop 3), fun a hA => ?_⟩
  refine D.call hA rfl (R.callF Try.func61 rfl rfl rfl) rfl (cas_hit m c [0, cc * 64 + pp, 0] s o hmc 1 (cc * 64 + pp) (co * 64 + np) (by omega) (by first | decide | simp) (by omega) rfl _ (hM.mem (k := 3) rfl)) ?_; clear hA a
  rintro e w4 ⟨rfl, hn⟩
  replace hM : Mem _ _ [memO m c [0, co * 64 + np, 0] (s + 1) ⟨3, 1, cc * 64 + pp, co * 64 + np, true⟩, pt p #[.pointer (some ⟨q, 0, none⟩), .int .i64 wr, .slice av X.length cap, .int .i64 co, .bool true, .int .i64 (cc * 64 + pp), .bool false, .bool tk] 124, pt pl ((vals (ls.set np.toNat (.slice av X.length cap)))) 43, pt q #[.pointer (some ⟨m, 0, none⟩), .int .i64 1, .int .i64 wk, .slice (some ⟨pl, 0, none⟩) np_ np_] 119] _ := hM.callW (k := 3) rfl hn (fun _ h => h); clear hn
  refine ⟨.tuple #[.bool true, .int .i64 0], rfl, (hM.drop 0), fun a hA => ?_⟩
  refine D.valF hA rfl (fun _ => R.move rfl) rfl ?_; clear hA a; intro a hA
  refine D.valF hA rfl (fun _ => R.extract (v := .bool true) rfl rfl) rfl ?_; clear hA a; intro a hA
  refine D.valF hA rfl (fun _ => R.extract (v := .int .i64 0) rfl rfl) rfl ?_; clear hA a; intro a hA
  refine D.valF hA rfl (fun _ => R.nilCheck rfl) rfl ?_; clear hA a; intro a hA
  refine D.valF hA rfl (fun _ => R.fieldAddr (q := 7) fi124_7 rfl rfl rfl) rfl ?_; clear hA a; intro a hA
  refine D.store (k := 1) hA hM rfl sz4 rfl rfl rfl rfl rfl ?_; clear hM
  intro w5 hM; refine ⟨fun hne => absurd rfl hne, ?_⟩
  replace hM : Mem _ _ [memO m c [0, co * 64 + np, 0] (s + 1) ⟨3, 1, cc * 64 + pp, co * 64 + np, true⟩, pt p #[.pointer (some ⟨q, 0, none⟩), .int .i64 wr, .slice av X.length cap, .int .i64 co, .bool true, .int .i64 (cc * 64 + pp), .bool false, .bool true] 124, pt pl ((vals (ls.set np.toNat (.slice av X.length cap)))) 43, pt q #[.pointer (some ⟨m, 0, none⟩), .int .i64 1, .int .i64 wk, .slice (some ⟨pl, 0, none⟩) np_ np_] 119] _ := hM
  refine D.done ?_
  replace hA : St 59 [(0, _)] a := hA.sub ((.cons rfl .nil))
  refine Ends.region ?_
  refine S.val hA (R.move rfl) rfl ?_; clear hA a; intro a hA
  refine S.val hA (R.move rfl) rfl ?_; clear hA a; intro a hA
  refine S.val hA (R.move rfl) rfl ?_; clear hA a; intro a hA
  refine S.val hA (R.nilCheck rfl) rfl ?_; clear hA a; intro a hA
  refine S.val hA (R.fieldAddr (q := 7) fi124_7 rfl rfl rfl) rfl ?_; clear hA a; intro a hA
  refine S.val hA (R.load sz4 rfl (hM.cell (k := 1) rfl rfl)) rfl ?_; clear hA a; intro a hA
  refine S.val hA (R.nilCheck rfl) rfl ?_; clear hA a; intro a hA
  refine S.val hA (R.fieldAddr (q := 6) fi124_6 rfl rfl rfl) rfl ?_; clear hA a; intro a hA
  refine S.store (k := 1) hA hM sz4 rfl rfl rfl rfl rfl ?_; clear hM
  intro w6 hM
  replace hM : Mem _ _ [memO m c [0, co * 64 + np, 0] (s + 1) ⟨3, 1, cc * 64 + pp, co * 64 + np, true⟩, pt p #[.pointer (some ⟨q, 0, none⟩), .int .i64 wr, .slice av X.length cap, .int .i64 co, .bool true, .int .i64 (cc * 64 + pp), .bool true, .bool true] 124, pt pl ((vals (ls.set np.toNat (.slice av X.length cap)))) 43, pt q #[.pointer (some ⟨m, 0, none⟩), .int .i64 1, .int .i64 wk, .slice (some ⟨pl, 0, none⟩) np_ np_] 119] _ := hM
  refine S.val hA (R.nilCheck rfl) rfl ?_; clear hA a; intro a hA
  refine S.val hA (R.fieldAddr (q := 4) fi124_4 rfl rfl rfl) rfl ?_; clear hA a; intro a hA
  refine S.store (k := 1) hA hM sz4 rfl rfl rfl rfl rfl ?_; clear hM
  intro w7 hM
  replace hM : Mem _ _ [memO m c [0, co * 64 + np, 0] (s + 1) ⟨3, 1, cc * 64 + pp, co * 64 + np, true⟩, pt p #[.pointer (some ⟨q, 0, none⟩), .int .i64 wr, .slice av X.length cap, .int .i64 co, .bool false, .int .i64 (cc * 64 + pp), .bool true, .bool true] 124, pt pl ((vals (ls.set np.toNat (.slice av X.length cap)))) 43, pt q #[.pointer (some ⟨m, 0, none⟩), .int .i64 1, .int .i64 wk, .slice (some ⟨pl, 0, none⟩) np_ np_] 119] _ := hM
  refine S.done ?_
  replace hA : St 59 [] a := hA.sub (.nil)
  refine Ends.end0 Try.func71 Try.results71 hA ?_
  replace hM := hM.front (k := 3) rfl
  replace hM := hM.front (k := 3) rfl
  replace hM := hM.front (k := 3) rfl
  replace hM : Mem _ _ [pt p #[.pointer (some ⟨q, 0, none⟩), .int .i64 wr, .slice av X.length cap, .int .i64 co, .bool false, .int .i64 (cc * 64 + pp), .bool true, .bool true] 124, pt pl ((vals (ls.set np.toNat (.slice av X.length cap)))) 43, pt q #[.pointer (some ⟨m, 0, none⟩), .int .i64 1, .int .i64 wk, .slice (some ⟨pl, 0, none⟩) np_ np_] 119, memO m c [0, co * 64 + np, 0] (s + 1) ⟨3, 1, cc * 64 + pp, co * 64 + np, true⟩] _ := hM
  exact ⟨rfl, hM.firstN 4⟩
set_option maxRecDepth 100000 in
set_option maxHeartbeats 400000 in
theorem istep_hit (p q pl np_ : Nat) (wk wr co np : Int) (tk : Bool) (av : Option Addr) (X : List Int) (cap : Nat) (ls : List Value) (m c : Nat) (s : Int) (o : CellOp) (hmc : m ≠ c) (cc pp : Int) (hcc : 0 ≤ cc ∧ cc ≤ 1125899906842624) (hpp : 0 ≤ pp ∧ pp < 64) (hs : 0 ≤ s ∧ s < 9223372036854775807) (hwr : 0 ≤ wr ∧ wr < 16) (hco : 0 ≤ co ∧ co ≤ 1125899906842624) (hnp : np < np_) (hlen : ls.length = np_) (hf : (pp = 2 * wr ∧ np = 2 * wr + 1) ∨ (pp ≠ 2 * wr ∧ np = 2 * wr)) (w : World) (hM : Mem w (feet [pt p #[.pointer (some ⟨q, 0, none⟩), .int .i64 wr, .slice av X.length cap, .int .i64 co, .bool true, .int .i64 (cc * 64 + pp), .bool false, .bool tk] 124, pt pl ((vals ls)) 43, pt q #[.pointer (some ⟨m, 0, none⟩), .int .i64 1, .int .i64 wk, .slice (some ⟨pl, 0, none⟩) np_ np_] 119, memO m c [0, cc * 64 + pp, 0] s o]) [pt p #[.pointer (some ⟨q, 0, none⟩), .int .i64 wr, .slice av X.length cap, .int .i64 co, .bool true, .int .i64 (cc * 64 + pp), .bool false, .bool tk] 124, pt pl ((vals ls)) 43, pt q #[.pointer (some ⟨m, 0, none⟩), .int .i64 1, .int .i64 wk, .slice (some ⟨pl, 0, none⟩) np_ np_] 119, memO m c [0, cc * 64 + pp, 0] s o] w) :
    Calls Try.prog 35 #[.pointer (some ⟨p, 0, none⟩)] w fun e w' => e = .returned (.bool true) ∧ Mem w (feet [pt p #[.pointer (some ⟨q, 0, none⟩), .int .i64 wr, .slice av X.length cap, .int .i64 co, .bool true, .int .i64 (cc * 64 + pp), .bool false, .bool tk] 124, pt pl ((vals ls)) 43, pt q #[.pointer (some ⟨m, 0, none⟩), .int .i64 1, .int .i64 wk, .slice (some ⟨pl, 0, none⟩) np_ np_] 119, memO m c [0, cc * 64 + pp, 0] s o]) [pt p #[.pointer (some ⟨q, 0, none⟩), .int .i64 wr, .slice av X.length cap, .int .i64 co, .bool false, .int .i64 (cc * 64 + pp), .bool true, .bool true] 124, pt pl ((vals (ls.set np.toNat (.slice av X.length cap)))) 43, pt q #[.pointer (some ⟨m, 0, none⟩), .int .i64 1, .int .i64 wk, .slice (some ⟨pl, 0, none⟩) np_ np_] 119, memO m c [0, co * 64 + np, 0] (s + 1) ⟨3, 1, cc * 64 + pp, co * 64 + np, true⟩] w' := by
  have hM0 : True := trivial  -- have hM
  refine Calls.of_ends (vs := [.pointer (some ⟨p, 0, none⟩)]) Try.func35 rfl Try.ntmps35 rfl ?_
  intro a hA
  replace hA : St 24 [(0, _)] a := hA
  refine Ends.seq ?_
  refine Ends.region ?_
  refine S.val hA (R.assign rfl) rfl ?_; clear hA a; intro a hA
  refine S.done ?_
  replace hA : St 24 [(0, _), (2, _)] a := hA.sub ((.cons rfl (.cons rfl .nil)))
  refine Ends.seq ?_
  refine Ends.block ?_
  refine Ends.seq ?_
  refine Ends.region ?_
  refine S.val hA (R.move rfl) rfl ?_; clear hA a; intro a hA
  refine S.val hA (R.eqlNil Try.underlying54 rfl rfl) rfl ?_; clear hA a; intro a hA
  refine S.val hA (R.assign rfl) rfl ?_; clear hA a; intro a hA
  refine S.done ?_
  replace hA : St 24 [(0, _), (2, _), (5, _)] a := hA.sub ((.cons rfl (.cons rfl (.cons rfl .nil))))
  refine Ends.condF hA rfl ?_
  refine Ends.seq ?_
  refine Ends.region ?_
  refine S.val hA (R.move rfl) rfl ?_; clear hA a; intro a hA
  refine S.val hA (R.nilCheck rfl) rfl ?_; clear hA a; intro a hA
  refine S.val hA (R.fieldAddr (q := 6) fi124_6 rfl rfl rfl) rfl ?_; clear hA a; intro a hA
  refine S.val hA (R.load sz4 rfl (hM.cell (k := 0) rfl rfl)) rfl ?_; clear hA a; intro a hA
  refine S.val hA (R.assign rfl) rfl ?_; clear hA a; intro a hA
  refine S.done ?_
  replace hA : St 24 [(0, _), (2, _), (8, _)] a := hA.sub ((.cons rfl (.cons rfl (.cons rfl .nil))))
  refine Ends.condF hA rfl ?_
  refine Ends.seq ?_
  refine Ends.region ?_
  refine S.val hA (R.move rfl) rfl ?_; clear hA a; intro a hA
  refine S.val hA (R.nilCheck rfl) rfl ?_; clear hA a; intro a hA
  refine S.val hA (R.fieldAddr (q := 4) fi124_4 rfl rfl rfl) rfl ?_; clear hA a; intro a hA
  refine S.val hA (R.load sz4 rfl (hM.cell (k := 0) rfl rfl)) rfl ?_; clear hA a; intro a hA
  refine S.val hA (R.assign rfl) rfl ?_; clear hA a; intro a hA
  refine S.done ?_
  replace hA : St 24 [(0, _), (2, _), (13, _)] a := hA.sub ((.cons rfl (.cons rfl (.cons rfl .nil))))
  refine Ends.condT hA rfl ?_
  refine Ends.region ?_
  refine S.val hA (R.move rfl) rfl ?_; clear hA a; intro a hA
  refine S.call hA (R.callF Try.func71 rfl rfl rfl) rfl (iswap_hit p q pl np_ wk wr co np tk av X cap ls m c s o hmc cc pp hcc hpp hs hwr hco hnp hlen hf _ (hM.hereN 4)) ?_; clear hA a
  rintro e w1 ⟨rfl, hn⟩
  replace hM : Mem _ _ [pt p #[.pointer (some ⟨q, 0, none⟩), .int .i64 wr, .slice av X.length cap, .int .i64 co, .bool false, .int .i64 (cc * 64 + pp), .bool true, .bool true] 124, pt pl ((vals (ls.set np.toNat (.slice av X.length cap)))) 43, pt q #[.pointer (some ⟨m, 0, none⟩), .int .i64 1, .int .i64 wk, .slice (some ⟨pl, 0, none⟩) np_ np_] 119, memO m c [0, co * 64 + np, 0] (s + 1) ⟨3, 1, cc * 64 + pp, co * 64 + np, true⟩] _ := hM.callL 4 hn; clear hn
  refine ⟨.tuple #[], rfl, fun a hA => ?_⟩
  refine S.done ?_
  replace hA : St 24 [(0, _), (2, _)] a := hA.sub ((.cons rfl (.cons rfl .nil)))
  refine Ends.inBlock ?_
  refine Ends.seq ?_
  refine Ends.region ?_
  refine S.val hA (R.move rfl) rfl ?_; clear hA a; intro a hA
  refine S.val hA (R.nilCheck rfl) rfl ?_; clear hA a; intro a hA
  refine S.val hA (R.fieldAddr (q := 6) fi124_6 rfl rfl rfl) rfl ?_; clear hA a; intro a hA
  refine S.val hA (R.load sz4 rfl (hM.cell (k := 0) rfl rfl)) rfl ?_; clear hA a; intro a hA
  refine S.val hA (R.assign rfl) rfl ?_; clear hA a; intro a hA
  refine S.done ?_
  replace hA : St 24 [(2, _)] a := hA.sub ((.cons rfl .nil))
  refine Ends.ret1 Try.func35 Try.results35 hA rfl ?_
  exact ⟨rfl, hM.firstN 4⟩
end Go.Proofs.Ytjjbognomeplbaa
