/-
  kurganlaw16.cells answers true; the law CellSizes.
-/
import Derived.Test.YtlkemphhbamcfaaCellW
import Derived.Test.YtlkemphhbamcfaaPacks
namespace Go.Proofs.Ytlkemphhbamcfaa
open Go.RowKit

set_option maxRecDepth 100000 in
set_option maxHeartbeats 400000 in
theorem cells16  (w : World) :
    Calls Try.prog 42 #[] w fun e w' => e = .returned (.bool true) ∧ Below w.heap.size w w' := by
  have hM := Mem.start w
  refine Calls.of_ends (vs := []) Try.func42 rfl Try.ntmps42 rfl ?_
  intro a hA
  replace hA : St 62 [] a := hA
  refine Ends.seq ?_
  refine Ends.region ?_
  refine S.val hA (R.assign rfl) rfl ?_; clear hA a; intro a hA
  refine S.done ?_
  replace hA : St 62 [(0, _)] a := hA.sub ((.cons rfl .nil))
  refine Ends.seq ?_
  refine Ends.region ?_
  refine S.call hA (R.callF Try.func44 rfl rfl rfl) rfl (new_ok 2 (by omega) (by omega) _) ?_; clear hA a
  rintro e w1 ⟨m1, c2, rfl, hm1c2, hn⟩
  replace hM : Mem _ _ [memO m1 c2 [0, 0] 0 ⟨0, 0, 0, 0, false⟩] _ := hM.call hn; clear hn
  refine ⟨.tuple #[.pointer (some ⟨m1, 0, none⟩), .int .i64 0], rfl, fun a hA => ?_⟩
  refine S.val hA (R.move rfl) rfl ?_; clear hA a; intro a hA
  refine S.val hA (R.extract (v := .pointer (some ⟨m1, 0, none⟩)) rfl rfl) rfl ?_; clear hA a; intro a hA
  refine S.val hA (R.extract (v := .int .i64 0) rfl rfl) rfl ?_; clear hA a; intro a hA
  refine S.val hA (R.assign rfl) rfl ?_; clear hA a; intro a hA
  refine S.val hA (R.assign rfl) rfl ?_; clear hA a; intro a hA
  refine S.done ?_
  replace hA : St 62 [(0, _), (1, _), (2, _)] a := hA.sub ((.cons rfl (.cons rfl (.cons rfl .nil))))
  refine Ends.seq ?_
  refine Ends.region ?_
  refine S.val hA (R.move rfl) rfl ?_; clear hA a; intro a hA
  refine S.call hA (R.callF Try.func50 rfl rfl rfl) rfl (cas_hit m1 c2 [0, 0] 0 ⟨0, 0, 0, 0, false⟩ hm1c2 1 0 7 (by omega) (by decide) (by omega) (by decide) _ (hM.mem (k := 0) rfl)) ?_; clear hA a
  rintro e w2 ⟨rfl, hn⟩
  replace hM : Mem _ _ [memO m1 c2 [0, 7] 1 ⟨3, 1, 0, 7, true⟩] _ := hM.callW (k := 0) rfl hn (fun _ h => h); clear hn
  refine ⟨.tuple #[.bool true, .int .i64 0], rfl, fun a hA => ?_⟩
  refine S.val hA (R.move rfl) rfl ?_; clear hA a; intro a hA
  refine S.val hA (R.extract (v := .bool true) rfl rfl) rfl ?_; clear hA a; intro a hA
  refine S.val hA (R.extract (v := .int .i64 0) rfl rfl) rfl ?_; clear hA a; intro a hA
  refine S.val hA (R.assign rfl) rfl ?_; clear hA a; intro a hA
  refine S.val hA (R.assign rfl) rfl ?_; clear hA a; intro a hA
  refine S.done ?_
  replace hA : St 62 [(0, _), (1, _), (2, _), (3, _), (4, _)] a := hA.sub ((.cons rfl (.cons rfl (.cons rfl (.cons rfl (.cons rfl .nil))))))
  refine Ends.seq ?_
  refine Ends.region ?_
  refine S.val hA (R.move rfl) rfl ?_; clear hA a; intro a hA
  refine S.call hA (R.callF Try.func50 rfl rfl rfl) rfl (cas_not m1 c2 [0, 7] 1 ⟨3, 1, 0, 7, true⟩ hm1c2 1 0 8 (by omega) (by decide) (by omega) (by decide) _ (hM.mem (k := 0) rfl)) ?_; clear hA a
  rintro e w3 ⟨rfl, hn⟩
  replace hM : Mem _ _ [memO m1 c2 [0, 7] 2 ⟨3, 1, 7, 7, false⟩] _ := hM.callW (k := 0) rfl hn (fun _ h => h); clear hn
  refine ⟨.tuple #[.bool false, .int .i64 0], rfl, fun a hA => ?_⟩
  refine S.val hA (R.move rfl) rfl ?_; clear hA a; intro a hA
  refine S.val hA (R.extract (v := .bool false) rfl rfl) rfl ?_; clear hA a; intro a hA
  refine S.val hA (R.extract (v := .int .i64 0) rfl rfl) rfl ?_; clear hA a; intro a hA
  refine S.val hA (R.assign rfl) rfl ?_; clear hA a; intro a hA
  refine S.val hA (R.assign rfl) rfl ?_; clear hA a; intro a hA
  refine S.done ?_
  replace hA : St 62 [(0, _), (1, _), (2, _), (3, _), (4, _), (5, _), (6, _)] a := hA.sub ((.cons rfl (.cons rfl (.cons rfl (.cons rfl (.cons rfl (.cons rfl (.cons rfl .nil))))))))
  refine Ends.seq ?_
  refine Ends.region ?_
  refine S.val hA (R.move rfl) rfl ?_; clear hA a; intro a hA
  refine S.call hA (R.callF Try.func45 rfl rfl rfl) rfl (get_ok m1 c2 [0, 7] 2 ⟨3, 1, 7, 7, false⟩ hm1c2 1 (by omega) (by decide) (by omega) _ (hM.mem (k := 0) rfl)) ?_; clear hA a
  rintro e w4 ⟨rfl, hn⟩
  replace hM : Mem _ _ [memO m1 c2 [0, 7] 3 ⟨1, 1, 7, 7, true⟩] _ := hM.callW (k := 0) rfl hn (fun _ h => h); clear hn
  refine ⟨.tuple #[.int .i64 7, .int .i64 0], rfl, fun a hA => ?_⟩
  refine S.val hA (R.move rfl) rfl ?_; clear hA a; intro a hA
  refine S.val hA (R.extract (v := .int .i64 7) rfl rfl) rfl ?_; clear hA a; intro a hA
  refine S.val hA (R.extract (v := .int .i64 0) rfl rfl) rfl ?_; clear hA a; intro a hA
  refine S.val hA (R.assign rfl) rfl ?_; clear hA a; intro a hA
  refine S.val hA (R.assign rfl) rfl ?_; clear hA a; intro a hA
  refine S.done ?_
  replace hA : St 62 [(0, _), (1, _), (2, _), (3, _), (4, _), (5, _), (6, _), (7, _), (8, _)] a := hA.sub ((.cons rfl (.cons rfl (.cons rfl (.cons rfl (.cons rfl (.cons rfl (.cons rfl (.cons rfl (.cons rfl .nil))))))))))
  refine Ends.seq ?_
  refine Ends.region ?_
  refine S.val hA (R.move rfl) rfl ?_; clear hA a; intro a hA
  refine S.val hA (R.tt (R.eql rfl rfl) (by first | decide | simp | omega)) rfl ?_; clear hA a; intro a hA
  refine S.val hA (R.move rfl) rfl ?_; clear hA a; intro a hA
  refine S.valg (dj := 30) hA (by kernel_rfl) rfl (R.move rfl) rfl ?_; clear hA a; intro a hA
  refine S.valg (dj := 30) hA (by kernel_rfl) rfl (R.tt (R.eql rfl rfl) (by first | decide | simp | omega)) rfl ?_; clear hA a; intro a hA
  refine S.val hA (R.pickT rfl rfl) rfl ?_; clear hA a; intro a hA
  refine S.val hA (R.move rfl) rfl ?_; clear hA a; intro a hA
  refine S.valg (dj := 34) hA (by kernel_rfl) rfl (R.move rfl) rfl ?_; clear hA a; intro a hA
  refine S.valg (dj := 34) hA (by kernel_rfl) rfl (R.tt (R.eql rfl rfl) (by first | decide | simp | omega)) rfl ?_; clear hA a; intro a hA
  refine S.val hA (R.pickT rfl rfl) rfl ?_; clear hA a; intro a hA
  refine S.val hA (R.move rfl) rfl ?_; clear hA a; intro a hA
  refine S.valg (dj := 38) hA (by kernel_rfl) rfl (R.move rfl) rfl ?_; clear hA a; intro a hA
  refine S.valg (dj := 38) hA (by kernel_rfl) rfl (R.tt (R.eql rfl rfl) (by first | decide | simp | omega)) rfl ?_; clear hA a; intro a hA
  refine S.val hA (R.pickT rfl rfl) rfl ?_; clear hA a; intro a hA
  refine S.val hA (R.move rfl) rfl ?_; clear hA a; intro a hA
  refine S.valg (dj := 42) hA (by kernel_rfl) rfl (R.move rfl) rfl ?_; clear hA a; intro a hA
  refine S.val hA (R.pickT rfl rfl) rfl ?_; clear hA a; intro a hA
  refine S.val hA (R.move rfl) rfl ?_; clear hA a; intro a hA
  refine S.valg (dj := 45) hA (by kernel_rfl) rfl (R.move rfl) rfl ?_; clear hA a; intro a hA
  refine S.valg (dj := 45) hA (by kernel_rfl) rfl (R.not rfl) rfl ?_; clear hA a; intro a hA
  refine S.val hA (R.pickT rfl rfl) rfl ?_; clear hA a; intro a hA
  refine S.val hA (R.move rfl) rfl ?_; clear hA a; intro a hA
  refine S.valg (dj := 49) hA (by kernel_rfl) rfl (R.move rfl) rfl ?_; clear hA a; intro a hA
  refine S.valg (dj := 49) hA (by kernel_rfl) rfl (R.tt (R.eql rfl rfl) (by first | decide | simp | omega)) rfl ?_; clear hA a; intro a hA
  refine S.val hA (R.pickT rfl rfl) rfl ?_; clear hA a; intro a hA
  refine S.val hA (R.move rfl) rfl ?_; clear hA a; intro a hA
  refine S.valg (dj := 53) hA (by kernel_rfl) rfl (R.move rfl) rfl ?_; clear hA a; intro a hA
  refine S.callg (dj := 53) hA (by kernel_rfl) rfl (R.callF Try.func47 rfl rfl rfl) rfl (steps_ok m1 c2 [0, 7] 3 ⟨1, 1, 7, 7, true⟩ hm1c2 _ (hM.mem (k := 0) rfl)) ?_; clear hA a
  rintro e w5 ⟨rfl, rfl⟩
  refine ⟨.int .i64 3, rfl, fun a hA => ?_⟩
  refine S.valg (dj := 53) hA (by kernel_rfl) rfl (R.tt (R.eql rfl rfl) (by first | decide | simp | omega)) rfl ?_; clear hA a; intro a hA
  refine S.val hA (R.pickT rfl rfl) rfl ?_; clear hA a; intro a hA
  refine S.val hA (R.move rfl) rfl ?_; clear hA a; intro a hA
  refine S.callg (dj := 58) hA (by kernel_rfl) rfl (R.callF Try.func39 rfl rfl rfl) rfl (pack_in 2 5 (by omega) (by omega) _) ?_; clear hA a
  rintro e w6 ⟨rfl, rfl⟩
  refine ⟨.int .i64 8589934598, rfl, fun a hA => ?_⟩
  refine S.valg (dj := 58) hA (by kernel_rfl) rfl (R.tt (R.eql rfl rfl) (by first | decide | simp | omega)) rfl ?_; clear hA a; intro a hA
  refine S.val hA (R.pickT rfl rfl) rfl ?_; clear hA a; intro a hA
  refine S.val hA (R.assign rfl) rfl ?_; clear hA a; intro a hA
  refine S.done ?_
  replace hA : St 62 [(0, _)] a := hA.sub ((.cons rfl .nil))
  refine Ends.ret1 Try.func42 Try.results42 hA rfl ?_
  exact ⟨rfl, hM.nilL.below⟩
set_option maxRecDepth 100000 in
set_option maxHeartbeats 400000 in
theorem cellSizes_low (n : Int) (h0 : n < 0) (w : World) :
    Calls Try.prog 13 #[.int .i64 n] w fun e w' => e = .returned (.bool true) ∧ Below w.heap.size w w' := by
  have hM := Mem.start w
  refine Calls.of_ends (vs := [.int .i64 n]) Try.func13 rfl Try.ntmps13 rfl ?_
  intro a hA
  replace hA : St 73 [(0, _)] a := hA
  refine Ends.seq ?_
  refine Ends.region ?_
  refine S.val hA (R.assign rfl) rfl ?_; clear hA a; intro a hA
  refine S.done ?_
  replace hA : St 73 [(0, _), (2, _)] a := hA.sub ((.cons rfl (.cons rfl .nil)))
  refine Ends.seq ?_
  refine Ends.seq ?_
  refine Ends.region ?_
  refine S.val hA (R.move rfl) rfl ?_; clear hA a; intro a hA
  refine S.val hA (R.ff (R.gtr rfl rfl) (by omega)) rfl ?_; clear hA a; intro a hA
  refine S.val hA (R.move rfl) rfl ?_; clear hA a; intro a hA
  refine S.no (dj := 9) hA (by kernel_rfl) rfl rfl rfl ?_; clear hA a; intro a hA
  refine S.no (dj := 9) hA (by kernel_rfl) rfl rfl rfl ?_; clear hA a; intro a hA
  refine S.val hA (R.pickF rfl rfl) rfl ?_; clear hA a; intro a hA
  refine S.done ?_
  replace hA : St 73 [(0, _), (2, _), (12, _)] a := hA.sub ((.cons rfl (.cons rfl (.cons rfl .nil))))
  refine Ends.condF hA rfl ?_
  refine Ends.skip ?_
  refine Ends.seq ?_
  refine Ends.region ?_
  refine S.val hA (R.move rfl) rfl ?_; clear hA a; intro a hA
  refine S.call hA (R.callF Try.func44 rfl rfl rfl) rfl (new_low n h0 _) ?_; clear hA a
  rintro e w1 ⟨rfl, rfl⟩
  refine ⟨.tuple #[.pointer none, .int .i64 1], rfl, fun a hA => ?_⟩
  refine S.val hA (R.move rfl) rfl ?_; clear hA a; intro a hA
  refine S.val hA (R.extract (v := .pointer none) rfl rfl) rfl ?_; clear hA a; intro a hA
  refine S.val hA (R.extract (v := .int .i64 1) rfl rfl) rfl ?_; clear hA a; intro a hA
  refine S.val hA (R.assign rfl) rfl ?_; clear hA a; intro a hA
  refine S.val hA (R.assign rfl) rfl ?_; clear hA a; intro a hA
  refine S.done ?_
  replace hA : St 73 [(0, _), (2, _), (3, _), (4, _)] a := hA.sub ((.cons rfl (.cons rfl (.cons rfl (.cons rfl .nil)))))
  refine Ends.seq ?_
  refine Ends.seq ?_
  refine Ends.region ?_
  refine S.val hA (R.move rfl) rfl ?_; clear hA a; intro a hA
  refine S.val hA (R.tt (R.lss rfl rfl) (by omega)) rfl ?_; clear hA a; intro a hA
  refine S.val hA (R.move rfl) rfl ?_; clear hA a; intro a hA
  refine S.no (dj := 23) hA (by kernel_rfl) rfl rfl rfl ?_; clear hA a; intro a hA
  refine S.no (dj := 23) hA (by kernel_rfl) rfl rfl rfl ?_; clear hA a; intro a hA
  refine S.val hA (R.pickT rfl rfl) rfl ?_; clear hA a; intro a hA
  refine S.done ?_
  replace hA : St 73 [(0, _), (2, _), (3, _), (4, _), (26, _)] a := hA.sub ((.cons rfl (.cons rfl (.cons rfl (.cons rfl (.cons rfl .nil))))))
  refine Ends.condT hA rfl ?_
  refine Ends.seq ?_
  refine Ends.region ?_
  refine S.call hA (R.callF Try.func42 rfl rfl rfl) rfl (cells16 _) ?_; clear hA a
  rintro e w2 ⟨rfl, hb⟩
  replace hM := hM.callB hb; clear hb
  refine ⟨.bool true, rfl, fun a hA => ?_⟩
  refine S.val hA (R.move rfl) rfl ?_; clear hA a; intro a hA
  refine S.valg (dj := 28) hA (by kernel_rfl) rfl (R.move rfl) rfl ?_; clear hA a; intro a hA
  refine S.valg (dj := 28) hA (by kernel_rfl) rfl (R.eqlNil Try.underlying64 rfl rfl) rfl ?_; clear hA a; intro a hA
  refine S.val hA (R.pickT rfl rfl) rfl ?_; clear hA a; intro a hA
  refine S.val hA (R.move rfl) rfl ?_; clear hA a; intro a hA
  refine S.valg (dj := 32) hA (by kernel_rfl) rfl (R.move rfl) rfl ?_; clear hA a; intro a hA
  refine S.valg (dj := 32) hA (by kernel_rfl) rfl (R.tt (R.eql rfl rfl) (by first | decide | simp | omega)) rfl ?_; clear hA a; intro a hA
  refine S.val hA (R.pickT rfl rfl) rfl ?_; clear hA a; intro a hA
  refine S.val hA (R.assign rfl) rfl ?_; clear hA a; intro a hA
  refine S.done ?_
  replace hA : St 73 [(0, _), (2, _), (3, _), (4, _)] a := hA.sub ((.cons rfl (.cons rfl (.cons rfl (.cons rfl .nil)))))
  refine Ends.ret1 Try.func13 Try.results13 hA rfl ?_
  exact ⟨rfl, hM.nilL.below⟩
set_option maxRecDepth 100000 in
set_option maxHeartbeats 400000 in
theorem cellSizes_high (n : Int) (h0 : 1048576 < n) (w : World) :
    Calls Try.prog 13 #[.int .i64 n] w fun e w' => e = .returned (.bool true) ∧ Below w.heap.size w w' := by
  have hM := Mem.start w
  refine Calls.of_ends (vs := [.int .i64 n]) Try.func13 rfl Try.ntmps13 rfl ?_
  intro a hA
  replace hA : St 73 [(0, _)] a := hA
  refine Ends.seq ?_
  refine Ends.region ?_
  refine S.val hA (R.assign rfl) rfl ?_; clear hA a; intro a hA
  refine S.done ?_
  replace hA : St 73 [(0, _), (2, _)] a := hA.sub ((.cons rfl (.cons rfl .nil)))
  refine Ends.seq ?_
  refine Ends.seq ?_
  refine Ends.region ?_
  refine S.val hA (R.move rfl) rfl ?_; clear hA a; intro a hA
  refine S.val hA (R.tt (R.gtr rfl rfl) (by omega)) rfl ?_; clear hA a; intro a hA
  refine S.val hA (R.move rfl) rfl ?_; clear hA a; intro a hA
  refine S.valg (dj := 9) hA (by kernel_rfl) rfl (R.move rfl) rfl ?_; clear hA a; intro a hA
  refine S.valg (dj := 9) hA (by kernel_rfl) rfl (R.ff (R.leq rfl rfl) (by omega)) rfl ?_; clear hA a; intro a hA
  refine S.val hA (R.pickT rfl rfl) rfl ?_; clear hA a; intro a hA
  refine S.done ?_
  replace hA : St 73 [(0, _), (2, _), (12, _)] a := hA.sub ((.cons rfl (.cons rfl (.cons rfl .nil))))
  refine Ends.condF hA rfl ?_
  refine Ends.skip ?_
  refine Ends.seq ?_
  refine Ends.region ?_
  refine S.val hA (R.move rfl) rfl ?_; clear hA a; intro a hA
  refine S.call hA (R.callF Try.func44 rfl rfl rfl) rfl (new_high n h0 _) ?_; clear hA a
  rintro e w1 ⟨rfl, rfl⟩
  refine ⟨.tuple #[.pointer none, .int .i64 1], rfl, fun a hA => ?_⟩
  refine S.val hA (R.move rfl) rfl ?_; clear hA a; intro a hA
  refine S.val hA (R.extract (v := .pointer none) rfl rfl) rfl ?_; clear hA a; intro a hA
  refine S.val hA (R.extract (v := .int .i64 1) rfl rfl) rfl ?_; clear hA a; intro a hA
  refine S.val hA (R.assign rfl) rfl ?_; clear hA a; intro a hA
  refine S.val hA (R.assign rfl) rfl ?_; clear hA a; intro a hA
  refine S.done ?_
  replace hA : St 73 [(0, _), (2, _), (3, _), (4, _)] a := hA.sub ((.cons rfl (.cons rfl (.cons rfl (.cons rfl .nil)))))
  refine Ends.seq ?_
  refine Ends.seq ?_
  refine Ends.region ?_
  refine S.val hA (R.move rfl) rfl ?_; clear hA a; intro a hA
  refine S.val hA (R.ff (R.lss rfl rfl) (by omega)) rfl ?_; clear hA a; intro a hA
  refine S.val hA (R.move rfl) rfl ?_; clear hA a; intro a hA
  refine S.valg (dj := 23) hA (by kernel_rfl) rfl (R.move rfl) rfl ?_; clear hA a; intro a hA
  refine S.valg (dj := 23) hA (by kernel_rfl) rfl (R.tt (R.gtr rfl rfl) (by omega)) rfl ?_; clear hA a; intro a hA
  refine S.val hA (R.pickF rfl rfl) rfl ?_; clear hA a; intro a hA
  refine S.done ?_
  replace hA : St 73 [(0, _), (2, _), (3, _), (4, _), (26, _)] a := hA.sub ((.cons rfl (.cons rfl (.cons rfl (.cons rfl (.cons rfl .nil))))))
  refine Ends.condT hA rfl ?_
  refine Ends.seq ?_
  refine Ends.region ?_
  refine S.call hA (R.callF Try.func42 rfl rfl rfl) rfl (cells16 _) ?_; clear hA a
  rintro e w2 ⟨rfl, hb⟩
  replace hM := hM.callB hb; clear hb
  refine ⟨.bool true, rfl, fun a hA => ?_⟩
  refine S.val hA (R.move rfl) rfl ?_; clear hA a; intro a hA
  refine S.valg (dj := 28) hA (by kernel_rfl) rfl (R.move rfl) rfl ?_; clear hA a; intro a hA
  refine S.valg (dj := 28) hA (by kernel_rfl) rfl (R.eqlNil Try.underlying64 rfl rfl) rfl ?_; clear hA a; intro a hA
  refine S.val hA (R.pickT rfl rfl) rfl ?_; clear hA a; intro a hA
  refine S.val hA (R.move rfl) rfl ?_; clear hA a; intro a hA
  refine S.valg (dj := 32) hA (by kernel_rfl) rfl (R.move rfl) rfl ?_; clear hA a; intro a hA
  refine S.valg (dj := 32) hA (by kernel_rfl) rfl (R.tt (R.eql rfl rfl) (by first | decide | simp | omega)) rfl ?_; clear hA a; intro a hA
  refine S.val hA (R.pickT rfl rfl) rfl ?_; clear hA a; intro a hA
  refine S.val hA (R.assign rfl) rfl ?_; clear hA a; intro a hA
  refine S.done ?_
  replace hA : St 73 [(0, _), (2, _), (3, _), (4, _)] a := hA.sub ((.cons rfl (.cons rfl (.cons rfl (.cons rfl .nil)))))
  refine Ends.ret1 Try.func13 Try.results13 hA rfl ?_
  exact ⟨rfl, hM.nilL.below⟩
set_option maxRecDepth 100000 in
set_option maxHeartbeats 400000 in
theorem cellSizes_mid (n : Int) (h0 : 0 ≤ n) (h1 : n ≤ 3000) (w : World) :
    Calls Try.prog 13 #[.int .i64 n] w fun e w' => e = .returned (.bool true) ∧ Below w.heap.size w w' := by
  have hM := Mem.start w
  refine Calls.of_ends (vs := [.int .i64 n]) Try.func13 rfl Try.ntmps13 rfl ?_
  intro a hA
  replace hA : St 73 [(0, _)] a := hA
  refine Ends.seq ?_
  refine Ends.region ?_
  refine S.val hA (R.assign rfl) rfl ?_; clear hA a; intro a hA
  refine S.done ?_
  replace hA : St 73 [(0, _), (2, _)] a := hA.sub ((.cons rfl (.cons rfl .nil)))
  refine Ends.seq ?_
  refine Ends.seq ?_
  refine Ends.region ?_
  refine S.val hA (R.move rfl) rfl ?_; clear hA a; intro a hA
  refine S.val hA (R.ff (R.gtr rfl rfl) (by omega)) rfl ?_; clear hA a; intro a hA
  refine S.val hA (R.move rfl) rfl ?_; clear hA a; intro a hA
  refine S.no (dj := 9) hA (by kernel_rfl) rfl rfl rfl ?_; clear hA a; intro a hA
  refine S.no (dj := 9) hA (by kernel_rfl) rfl rfl rfl ?_; clear hA a; intro a hA
  refine S.val hA (R.pickF rfl rfl) rfl ?_; clear hA a; intro a hA
  refine S.done ?_
  replace hA : St 73 [(0, _), (2, _), (12, _)] a := hA.sub ((.cons rfl (.cons rfl (.cons rfl .nil))))
  refine Ends.condF hA rfl ?_
  refine Ends.skip ?_
  refine Ends.seq ?_
  refine Ends.region ?_
  refine S.val hA (R.move rfl) rfl ?_; clear hA a; intro a hA
  refine S.call hA (R.callF Try.func44 rfl rfl rfl) rfl (new_ok n (by omega) (by omega) _) ?_; clear hA a
  rintro e w1 ⟨m1, c2, rfl, hm1c2, hn⟩
  replace hM : Mem _ _ [memO m1 c2 ((List.replicate n.toNat 0)) 0 ⟨0, 0, 0, 0, false⟩] _ := hM.call hn; clear hn
  refine ⟨.tuple #[.pointer (some ⟨m1, 0, none⟩), .int .i64 0], rfl, fun a hA => ?_⟩
  refine S.val hA (R.move rfl) rfl ?_; clear hA a; intro a hA
  refine S.val hA (R.extract (v := .pointer (some ⟨m1, 0, none⟩)) rfl rfl) rfl ?_; clear hA a; intro a hA
  refine S.val hA (R.extract (v := .int .i64 0) rfl rfl) rfl ?_; clear hA a; intro a hA
  refine S.val hA (R.assign rfl) rfl ?_; clear hA a; intro a hA
  refine S.val hA (R.assign rfl) rfl ?_; clear hA a; intro a hA
  refine S.done ?_
  replace hA : St 73 [(0, _), (2, _), (3, _), (4, _)] a := hA.sub ((.cons rfl (.cons rfl (.cons rfl (.cons rfl .nil)))))
  refine Ends.seq ?_
  refine Ends.seq ?_
  refine Ends.region ?_
  refine S.val hA (R.move rfl) rfl ?_; clear hA a; intro a hA
  refine S.val hA (R.ff (R.lss rfl rfl) (by omega)) rfl ?_; clear hA a; intro a hA
  refine S.val hA (R.move rfl) rfl ?_; clear hA a; intro a hA
  refine S.valg (dj := 23) hA (by kernel_rfl) rfl (R.move rfl) rfl ?_; clear hA a; intro a hA
  refine S.valg (dj := 23) hA (by kernel_rfl) rfl (R.ff (R.gtr rfl rfl) (by omega)) rfl ?_; clear hA a; intro a hA
  refine S.val hA (R.pickF rfl rfl) rfl ?_; clear hA a; intro a hA
  refine S.done ?_
  replace hA : St 73 [(0, _), (2, _), (3, _), (4, _), (26, _)] a := hA.sub ((.cons rfl (.cons rfl (.cons rfl (.cons rfl (.cons rfl .nil))))))
  refine Ends.condF hA rfl ?_
  refine Ends.skip ?_
  refine Ends.seq ?_
  refine Ends.region ?_
  refine S.val hA (R.move rfl) rfl ?_; clear hA a; intro a hA
  refine S.val hA (R.move rfl) rfl ?_; clear hA a; intro a hA
  refine S.call hA (R.callF Try.func45 rfl rfl rfl) rfl (get_high m1 c2 ((List.replicate n.toNat 0)) 0 ⟨0, 0, 0, 0, false⟩ hm1c2 n (by omega) (by simp; omega) _ (hM.mem (k := 0) rfl)) ?_; clear hA a
  rintro e w2 ⟨rfl, rfl⟩
  refine ⟨.tuple #[.int .i64 0, .int .i64 11], rfl, fun a hA => ?_⟩
  refine S.val hA (R.move rfl) rfl ?_; clear hA a; intro a hA
  refine S.val hA (R.extract (v := .int .i64 0) rfl rfl) rfl ?_; clear hA a; intro a hA
  refine S.val hA (R.extract (v := .int .i64 11) rfl rfl) rfl ?_; clear hA a; intro a hA
  refine S.val hA (R.assign rfl) rfl ?_; clear hA a; intro a hA
  refine S.val hA (R.assign rfl) rfl ?_; clear hA a; intro a hA
  refine S.done ?_
  replace hA : St 73 [(0, _), (2, _), (3, _), (4, _), (6, _)] a := hA.sub ((.cons rfl (.cons rfl (.cons rfl (.cons rfl (.cons rfl .nil))))))
  refine Ends.seq ?_
  refine Ends.region ?_
  refine S.call hA (R.callF Try.func42 rfl rfl rfl) rfl (cells16 _) ?_; clear hA a
  rintro e w3 ⟨rfl, hb⟩
  replace hM := hM.callB hb; clear hb
  refine ⟨.bool true, rfl, fun a hA => ?_⟩
  refine S.val hA (R.move rfl) rfl ?_; clear hA a; intro a hA
  refine S.valg (dj := 43) hA (by kernel_rfl) rfl (R.move rfl) rfl ?_; clear hA a; intro a hA
  refine S.valg (dj := 43) hA (by kernel_rfl) rfl (R.tt (R.eql rfl rfl) (by first | decide | simp | omega)) rfl ?_; clear hA a; intro a hA
  refine S.val hA (R.pickT rfl rfl) rfl ?_; clear hA a; intro a hA
  refine S.val hA (R.move rfl) rfl ?_; clear hA a; intro a hA
  refine S.valg (dj := 47) hA (by kernel_rfl) rfl (R.move rfl) rfl ?_; clear hA a; intro a hA
  refine S.callg (dj := 47) hA (by kernel_rfl) rfl (R.callF Try.func46 rfl rfl rfl) rfl (size_ok m1 c2 ((List.replicate n.toNat 0)) 0 ⟨0, 0, 0, 0, false⟩ hm1c2 _ (hM.mem (k := 0) rfl)) ?_; clear hA a
  rintro e w4 ⟨rfl, rfl⟩
  refine ⟨.int .i64 ((((List.replicate n.toNat 0)).length : Int)), rfl, fun a hA => ?_⟩
  refine S.valg (dj := 47) hA (by kernel_rfl) rfl (R.move rfl) rfl ?_; clear hA a; intro a hA
  refine S.valg (dj := 47) hA (by kernel_rfl) rfl (R.tt (R.eql rfl rfl) (by simp; omega)) rfl ?_; clear hA a; intro a hA
  refine S.val hA (R.pickT rfl rfl) rfl ?_; clear hA a; intro a hA
  refine S.val hA (R.move rfl) rfl ?_; clear hA a; intro a hA
  refine S.valg (dj := 53) hA (by kernel_rfl) rfl (R.move rfl) rfl ?_; clear hA a; intro a hA
  refine S.valg (dj := 53) hA (by kernel_rfl) rfl (R.tt (R.eql rfl rfl) (by first | decide | simp | omega)) rfl ?_; clear hA a; intro a hA
  refine S.val hA (R.pickT rfl rfl) rfl ?_; clear hA a; intro a hA
  refine S.val hA (R.move rfl) rfl ?_; clear hA a; intro a hA
  refine S.valg (dj := 57) hA (by kernel_rfl) rfl (R.move rfl) rfl ?_; clear hA a; intro a hA
  refine S.callg (dj := 57) hA (by kernel_rfl) rfl (R.callF Try.func47 rfl rfl rfl) rfl (steps_ok m1 c2 ((List.replicate n.toNat 0)) 0 ⟨0, 0, 0, 0, false⟩ hm1c2 _ (hM.mem (k := 0) rfl)) ?_; clear hA a
  rintro e w5 ⟨rfl, rfl⟩
  refine ⟨.int .i64 0, rfl, fun a hA => ?_⟩
  refine S.valg (dj := 57) hA (by kernel_rfl) rfl (R.tt (R.eql rfl rfl) (by first | decide | simp | omega)) rfl ?_; clear hA a; intro a hA
  refine S.val hA (R.pickT rfl rfl) rfl ?_; clear hA a; intro a hA
  refine S.val hA (R.move rfl) rfl ?_; clear hA a; intro a hA
  refine S.valg (dj := 62) hA (by kernel_rfl) rfl (R.move rfl) rfl ?_; clear hA a; intro a hA
  refine S.valg (dj := 62) hA (by kernel_rfl) rfl (R.move rfl) rfl ?_; clear hA a; intro a hA
  refine S.callg (dj := 62) hA (by kernel_rfl) rfl (R.callF Try.func48 rfl rfl rfl) rfl (peek_high m1 c2 ((List.replicate n.toNat 0)) 0 ⟨0, 0, 0, 0, false⟩ hm1c2 n (by omega) (by simp; omega) _ (hM.mem (k := 0) rfl)) ?_; clear hA a
  rintro e w6 ⟨rfl, rfl⟩
  refine ⟨.int .i64 0, rfl, fun a hA => ?_⟩
  refine S.valg (dj := 62) hA (by kernel_rfl) rfl (R.tt (R.eql rfl rfl) (by first | decide | simp | omega)) rfl ?_; clear hA a; intro a hA
  refine S.val hA (R.pickT rfl rfl) rfl ?_; clear hA a; intro a hA
  refine S.val hA (R.move rfl) rfl ?_; clear hA a; intro a hA
  refine S.valg (dj := 68) hA (by kernel_rfl) rfl (R.move rfl) rfl ?_; clear hA a; intro a hA
  refine S.callg (dj := 68) hA (by kernel_rfl) rfl (R.callF Try.func48 rfl rfl rfl) rfl (peek_low m1 c2 ((List.replicate n.toNat 0)) 0 ⟨0, 0, 0, 0, false⟩ hm1c2 (-1) (by omega) _ (hM.mem (k := 0) rfl)) ?_; clear hA a
  rintro e w7 ⟨rfl, rfl⟩
  refine ⟨.int .i64 0, rfl, fun a hA => ?_⟩
  refine S.valg (dj := 68) hA (by kernel_rfl) rfl (R.tt (R.eql rfl rfl) (by first | decide | simp | omega)) rfl ?_; clear hA a; intro a hA
  refine S.val hA (R.pickT rfl rfl) rfl ?_; clear hA a; intro a hA
  refine S.val hA (R.assign rfl) rfl ?_; clear hA a; intro a hA
  refine S.done ?_
  replace hA : St 73 [(2, _)] a := hA.sub ((.cons rfl .nil))
  refine Ends.ret1 Try.func13 Try.results13 hA rfl ?_
  exact ⟨rfl, hM.nilL.below⟩
set_option maxRecDepth 100000 in
set_option maxHeartbeats 400000 in
theorem cellSizes_big (n : Int) (h0 : 3000 < n) (h1 : n ≤ 1048576) (w : World) :
    Calls Try.prog 13 #[.int .i64 n] w fun e w' => e = .returned (.bool true) ∧ Below w.heap.size w w' := by
  have hM := Mem.start w
  refine Calls.of_ends (vs := [.int .i64 n]) Try.func13 rfl Try.ntmps13 rfl ?_
  intro a hA
  replace hA : St 73 [(0, _)] a := hA
  refine Ends.seq ?_
  refine Ends.region ?_
  refine S.val hA (R.assign rfl) rfl ?_; clear hA a; intro a hA
  refine S.done ?_
  replace hA : St 73 [(0, _), (2, _)] a := hA.sub ((.cons rfl (.cons rfl .nil)))
  refine Ends.seq ?_
  refine Ends.seq ?_
  refine Ends.region ?_
  refine S.val hA (R.move rfl) rfl ?_; clear hA a; intro a hA
  refine S.val hA (R.tt (R.gtr rfl rfl) (by omega)) rfl ?_; clear hA a; intro a hA
  refine S.val hA (R.move rfl) rfl ?_; clear hA a; intro a hA
  refine S.valg (dj := 9) hA (by kernel_rfl) rfl (R.move rfl) rfl ?_; clear hA a; intro a hA
  refine S.valg (dj := 9) hA (by kernel_rfl) rfl (R.tt (R.leq rfl rfl) (by omega)) rfl ?_; clear hA a; intro a hA
  refine S.val hA (R.pickT rfl rfl) rfl ?_; clear hA a; intro a hA
  refine S.done ?_
  replace hA : St 73 [(0, _), (2, _), (12, _)] a := hA.sub ((.cons rfl (.cons rfl (.cons rfl .nil))))
  refine Ends.condT hA rfl ?_
  refine Ends.region ?_
  refine S.val hA (R.move rfl) rfl ?_; clear hA a; intro a hA
  refine S.val hA (R.remI rfl rfl rfl (by omega)) rfl ?_; clear hA a; intro a hA
  refine S.val hA (R.subI rfl rfl (r := 1048576 - (n % 3)) rfl (by omega)) rfl ?_; clear hA a; intro a hA
  refine S.val hA (R.assign rfl) rfl ?_; clear hA a; intro a hA
  refine S.done ?_
  replace hA : St 73 [(0, _), (2, _)] a := hA.sub ((.cons rfl (.cons rfl .nil)))
  refine Ends.seq ?_
  refine Ends.region ?_
  refine S.val hA (R.move rfl) rfl ?_; clear hA a; intro a hA
  refine S.call hA (R.callF Try.func44 rfl rfl rfl) rfl (new_ok (1048576 - (n % 3)) (by omega) (by omega) _) ?_; clear hA a
  rintro e w1 ⟨m1, c2, rfl, hm1c2, hn⟩
  replace hM : Mem _ _ [memO m1 c2 ((List.replicate (1048576 - (n % 3)).toNat 0)) 0 ⟨0, 0, 0, 0, false⟩] _ := hM.call hn; clear hn
  refine ⟨.tuple #[.pointer (some ⟨m1, 0, none⟩), .int .i64 0], rfl, fun a hA => ?_⟩
  refine S.val hA (R.move rfl) rfl ?_; clear hA a; intro a hA
  refine S.val hA (R.extract (v := .pointer (some ⟨m1, 0, none⟩)) rfl rfl) rfl ?_; clear hA a; intro a hA
  refine S.val hA (R.extract (v := .int .i64 0) rfl rfl) rfl ?_; clear hA a; intro a hA
  refine S.val hA (R.assign rfl) rfl ?_; clear hA a; intro a hA
  refine S.val hA (R.assign rfl) rfl ?_; clear hA a; intro a hA
  refine S.done ?_
  replace hA : St 73 [(0, _), (2, _), (3, _), (4, _)] a := hA.sub ((.cons rfl (.cons rfl (.cons rfl (.cons rfl .nil)))))
  refine Ends.seq ?_
  refine Ends.seq ?_
  refine Ends.region ?_
  refine S.val hA (R.move rfl) rfl ?_; clear hA a; intro a hA
  refine S.val hA (R.ff (R.lss rfl rfl) (by omega)) rfl ?_; clear hA a; intro a hA
  refine S.val hA (R.move rfl) rfl ?_; clear hA a; intro a hA
  refine S.valg (dj := 23) hA (by kernel_rfl) rfl (R.move rfl) rfl ?_; clear hA a; intro a hA
  refine S.valg (dj := 23) hA (by kernel_rfl) rfl (R.ff (R.gtr rfl rfl) (by omega)) rfl ?_; clear hA a; intro a hA
  refine S.val hA (R.pickF rfl rfl) rfl ?_; clear hA a; intro a hA
  refine S.done ?_
  replace hA : St 73 [(0, _), (2, _), (3, _), (4, _), (26, _)] a := hA.sub ((.cons rfl (.cons rfl (.cons rfl (.cons rfl (.cons rfl .nil))))))
  refine Ends.condF hA rfl ?_
  refine Ends.skip ?_
  refine Ends.seq ?_
  refine Ends.region ?_
  refine S.val hA (R.move rfl) rfl ?_; clear hA a; intro a hA
  refine S.val hA (R.move rfl) rfl ?_; clear hA a; intro a hA
  refine S.call hA (R.callF Try.func45 rfl rfl rfl) rfl (get_high m1 c2 ((List.replicate (1048576 - (n % 3)).toNat 0)) 0 ⟨0, 0, 0, 0, false⟩ hm1c2 (1048576 - (n % 3)) (by omega) (by simp; omega) _ (hM.mem (k := 0) rfl)) ?_; clear hA a
  rintro e w2 ⟨rfl, rfl⟩
  refine ⟨.tuple #[.int .i64 0, .int .i64 11], rfl, fun a hA => ?_⟩
  refine S.val hA (R.move rfl) rfl ?_; clear hA a; intro a hA
  refine S.val hA (R.extract (v := .int .i64 0) rfl rfl) rfl ?_; clear hA a; intro a hA
  refine S.val hA (R.extract (v := .int .i64 11) rfl rfl) rfl ?_; clear hA a; intro a hA
  refine S.val hA (R.assign rfl) rfl ?_; clear hA a; intro a hA
  refine S.val hA (R.assign rfl) rfl ?_; clear hA a; intro a hA
  refine S.done ?_
  replace hA : St 73 [(0, _), (2, _), (3, _), (4, _), (6, _)] a := hA.sub ((.cons rfl (.cons rfl (.cons rfl (.cons rfl (.cons rfl .nil))))))
  refine Ends.seq ?_
  refine Ends.region ?_
  refine S.call hA (R.callF Try.func42 rfl rfl rfl) rfl (cells16 _) ?_; clear hA a
  rintro e w3 ⟨rfl, hb⟩
  replace hM := hM.callB hb; clear hb
  refine ⟨.bool true, rfl, fun a hA => ?_⟩
  refine S.val hA (R.move rfl) rfl ?_; clear hA a; intro a hA
  refine S.valg (dj := 43) hA (by kernel_rfl) rfl (R.move rfl) rfl ?_; clear hA a; intro a hA
  refine S.valg (dj := 43) hA (by kernel_rfl) rfl (R.tt (R.eql rfl rfl) (by first | decide | simp | omega)) rfl ?_; clear hA a; intro a hA
  refine S.val hA (R.pickT rfl rfl) rfl ?_; clear hA a; intro a hA
  refine S.val hA (R.move rfl) rfl ?_; clear hA a; intro a hA
  refine S.valg (dj := 47) hA (by kernel_rfl) rfl (R.move rfl) rfl ?_; clear hA a; intro a hA
  refine S.callg (dj := 47) hA (by kernel_rfl) rfl (R.callF Try.func46 rfl rfl rfl) rfl (size_ok m1 c2 ((List.replicate (1048576 - (n % 3)).toNat 0)) 0 ⟨0, 0, 0, 0, false⟩ hm1c2 _ (hM.mem (k := 0) rfl)) ?_; clear hA a
  rintro e w4 ⟨rfl, rfl⟩
  refine ⟨.int .i64 ((((List.replicate (1048576 - (n % 3)).toNat 0)).length : Int)), rfl, fun a hA => ?_⟩
  refine S.valg (dj := 47) hA (by kernel_rfl) rfl (R.move rfl) rfl ?_; clear hA a; intro a hA
  refine S.valg (dj := 47) hA (by kernel_rfl) rfl (R.tt (R.eql rfl rfl) (by simp; omega)) rfl ?_; clear hA a; intro a hA
  refine S.val hA (R.pickT rfl rfl) rfl ?_; clear hA a; intro a hA
  refine S.val hA (R.move rfl) rfl ?_; clear hA a; intro a hA
  refine S.valg (dj := 53) hA (by kernel_rfl) rfl (R.move rfl) rfl ?_; clear hA a; intro a hA
  refine S.valg (dj := 53) hA (by kernel_rfl) rfl (R.tt (R.eql rfl rfl) (by first | decide | simp | omega)) rfl ?_; clear hA a; intro a hA
  refine S.val hA (R.pickT rfl rfl) rfl ?_; clear hA a; intro a hA
  refine S.val hA (R.move rfl) rfl ?_; clear hA a; intro a hA
  refine S.valg (dj := 57) hA (by kernel_rfl) rfl (R.move rfl) rfl ?_; clear hA a; intro a hA
  refine S.callg (dj := 57) hA (by kernel_rfl) rfl (R.callF Try.func47 rfl rfl rfl) rfl (steps_ok m1 c2 ((List.replicate (1048576 - (n % 3)).toNat 0)) 0 ⟨0, 0, 0, 0, false⟩ hm1c2 _ (hM.mem (k := 0) rfl)) ?_; clear hA a
  rintro e w5 ⟨rfl, rfl⟩
  refine ⟨.int .i64 0, rfl, fun a hA => ?_⟩
  refine S.valg (dj := 57) hA (by kernel_rfl) rfl (R.tt (R.eql rfl rfl) (by first | decide | simp | omega)) rfl ?_; clear hA a; intro a hA
  refine S.val hA (R.pickT rfl rfl) rfl ?_; clear hA a; intro a hA
  refine S.val hA (R.move rfl) rfl ?_; clear hA a; intro a hA
  refine S.valg (dj := 62) hA (by kernel_rfl) rfl (R.move rfl) rfl ?_; clear hA a; intro a hA
  refine S.valg (dj := 62) hA (by kernel_rfl) rfl (R.move rfl) rfl ?_; clear hA a; intro a hA
  refine S.callg (dj := 62) hA (by kernel_rfl) rfl (R.callF Try.func48 rfl rfl rfl) rfl (peek_high m1 c2 ((List.replicate (1048576 - (n % 3)).toNat 0)) 0 ⟨0, 0, 0, 0, false⟩ hm1c2 (1048576 - (n % 3)) (by omega) (by simp; omega) _ (hM.mem (k := 0) rfl)) ?_; clear hA a
  rintro e w6 ⟨rfl, rfl⟩
  refine ⟨.int .i64 0, rfl, fun a hA => ?_⟩
  refine S.valg (dj := 62) hA (by kernel_rfl) rfl (R.tt (R.eql rfl rfl) (by first | decide | simp | omega)) rfl ?_; clear hA a; intro a hA
  refine S.val hA (R.pickT rfl rfl) rfl ?_; clear hA a; intro a hA
  refine S.val hA (R.move rfl) rfl ?_; clear hA a; intro a hA
  refine S.valg (dj := 68) hA (by kernel_rfl) rfl (R.move rfl) rfl ?_; clear hA a; intro a hA
  refine S.callg (dj := 68) hA (by kernel_rfl) rfl (R.callF Try.func48 rfl rfl rfl) rfl (peek_low m1 c2 ((List.replicate (1048576 - (n % 3)).toNat 0)) 0 ⟨0, 0, 0, 0, false⟩ hm1c2 (-1) (by omega) _ (hM.mem (k := 0) rfl)) ?_; clear hA a
  rintro e w7 ⟨rfl, rfl⟩
  refine ⟨.int .i64 0, rfl, fun a hA => ?_⟩
  refine S.valg (dj := 68) hA (by kernel_rfl) rfl (R.tt (R.eql rfl rfl) (by first | decide | simp | omega)) rfl ?_; clear hA a; intro a hA
  refine S.val hA (R.pickT rfl rfl) rfl ?_; clear hA a; intro a hA
  refine S.val hA (R.assign rfl) rfl ?_; clear hA a; intro a hA
  refine S.done ?_
  replace hA : St 73 [(2, _)] a := hA.sub ((.cons rfl .nil))
  refine Ends.ret1 Try.func13 Try.results13 hA rfl ?_
  exact ⟨rfl, hM.nilL.below⟩
theorem cellSizes_any (n : Int) (_h : (Lit.int .i64 n).wf = true) (w : World) : Calls Try.prog 13 #[.int .i64 n] w fun e w' => e = .returned (.bool true) ∧ Below w.heap.size w w' := by
  rcases Int.lt_or_le n 0 with h | h
  · exact cellSizes_low n h w
  · rcases Int.lt_or_le 1048576 n with g | g
    · exact cellSizes_high n g w
    · rcases Int.lt_or_le 3000 n with k | k
      · exact cellSizes_big n k g w
      · exact cellSizes_mid n h k w

end Go.Proofs.Ytlkemphhbamcfaa
