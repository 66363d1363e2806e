/-
  The statements' small helps on package inc; the laws IncNews and IncAlone.
-/
import Derived.Test.YtjjbognomeplbaaIncW
import Derived.Test.YtjjbognomeplbaaSl
namespace Go.Proofs.Ytjjbognomeplbaa
open Go.RowKit

set_option maxRecDepth 100000 in
set_option maxHeartbeats 400000 in
theorem inone_any  (w : World) :
    Calls Try.prog 29 #[] w fun e w' => e = .returned (.pointer none) ∧ w = w' := by
  have hM := Mem.start w
  refine Calls.of_ends (vs := []) Try.func29 rfl Try.ntmps29 rfl ?_
  intro a hA
  replace hA : St 1 [] a := hA
  refine Ends.seq ?_
  refine Ends.region ?_
  refine S.val hA (R.assign rfl) rfl ?_; clear hA a; intro a hA
  refine S.done ?_
  replace hA : St 1 [(0, _)] a := hA.sub ((.cons rfl .nil))
  refine Ends.seq ?_
  refine Ends.region ?_
  refine S.val hA (R.assign rfl) rfl ?_; clear hA a; intro a hA
  refine S.done ?_
  replace hA : St 1 [(0, _)] a := hA.sub ((.cons rfl .nil))
  refine Ends.ret1 Try.func29 Try.results29 hA rfl ?_
  exact ⟨rfl, rfl⟩
set_option maxRecDepth 100000 in
set_option maxHeartbeats 400000 in
theorem ifresh_any (wk co : Int) (av : Option Addr) (X : List Int) (cap : Nat) (hX : X.length ≤ 1000) (hwk : 1 ≤ wk ∧ wk ≤ 16) (hco : 0 ≤ co ∧ co ≤ 1125899906842624) (w : World) (hM : Mem w (feet [own 3 1 (.slice av X.length cap) X.length (X.map (Value.int .i64))]) [own 3 1 (.slice av X.length cap) X.length (X.map (Value.int .i64))] w) :
    Calls Try.prog 38 #[.int .i64 wk, .slice av X.length cap, .int .i64 co] w fun e w' => ∃ q m c pl a2 c2, e = .returned (.tuple #[.pointer (some ⟨q, 0, none⟩), .pointer (some ⟨m, 0, none⟩), .bool true]) ∧ m ≠ c ∧ Mem w (feet [own 3 1 (.slice av X.length cap) X.length (X.map (Value.int .i64))]) [pt q #[.pointer (some ⟨m, 0, none⟩), .int .i64 1, .int .i64 wk, .slice (some ⟨pl, 0, none⟩) (2 * wk + 1).toNat (2 * wk + 1).toNat] 119, pt pl (vals ((nils (2 * wk + 1).toNat).set (2 * wk).toNat (.slice a2 X.length c2))) 43, own 3 1 (.slice a2 X.length c2) X.length (X.map (Value.int .i64)), memO m c [0, co * 64 + 2 * wk, 0] 1 ⟨2, 1, 0, co * 64 + 2 * wk, true⟩] w' := by
  have hM0 : True := trivial  -- have hM
  refine Calls.of_ends (vs := [.int .i64 wk, .slice av X.length cap, .int .i64 co]) Try.func38 rfl Try.ntmps38 rfl ?_
  intro a hA
  replace hA : St 33 [(0, _), (1, _), (2, _)] a := hA
  refine Ends.seq ?_
  refine Ends.region ?_
  refine S.val hA (R.assign rfl) rfl ?_; clear hA a; intro a hA
  refine S.val hA (R.assign rfl) rfl ?_; clear hA a; intro a hA
  refine S.val hA (R.assign rfl) rfl ?_; clear hA a; intro a hA
  refine S.done ?_
  replace hA : St 33 [(0, _), (1, _), (2, _), (6, _), (7, _), (8, _)] a := hA.sub ((.cons rfl (.cons rfl (.cons rfl (.cons rfl (.cons rfl (.cons rfl .nil)))))))
  refine Ends.seq ?_
  refine Ends.region ?_
  refine S.call hA (R.callF Try.func20 rfl rfl rfl) rfl (new_ok 3 (by omega) (by omega) _) ?_; clear hA a
  rintro e w1 ⟨m1, c2, rfl, hm1c2, hn⟩
  replace hM : Mem _ _ [memO m1 c2 [0, 0, 0] 0 ⟨0, 0, 0, 0, false⟩, own 3 1 (.slice av X.length cap) X.length (X.map (Value.int .i64))] _ := hM.call hn; clear hn
  refine ⟨.tuple #[.pointer (some ⟨m1, 0, none⟩), .int .i64 0], rfl, fun a hA => ?_⟩
  refine S.val hA (R.move rfl) rfl ?_; clear hA a; intro a hA
  refine S.val hA (R.extract (v := .pointer (some ⟨m1, 0, none⟩)) rfl rfl) rfl ?_; clear hA a; intro a hA
  refine S.val hA (R.extract (v := .int .i64 0) rfl rfl) rfl ?_; clear hA a; intro a hA
  refine S.val hA (R.assign rfl) rfl ?_; clear hA a; intro a hA
  refine S.val hA (R.assign rfl) rfl ?_; clear hA a; intro a hA
  refine S.done ?_
  replace hA : St 33 [(0, _), (1, _), (2, _), (6, _), (7, _), (8, _), (9, _), (10, _)] a := hA.sub ((.cons rfl (.cons rfl (.cons rfl (.cons rfl (.cons rfl (.cons rfl (.cons rfl (.cons rfl .nil)))))))))
  refine Ends.seq ?_
  refine Ends.region ?_
  refine S.val hA (R.move rfl) rfl ?_; clear hA a; intro a hA
  refine S.val hA (R.move rfl) rfl ?_; clear hA a; intro a hA
  refine S.val hA (R.move rfl) rfl ?_; clear hA a; intro a hA
  refine S.val hA (R.move rfl) rfl ?_; clear hA a; intro a hA
  replace hM := hM.front (k := 1) rfl
  replace hM : Mem _ _ [own 3 1 (.slice av X.length cap) X.length (X.map (Value.int .i64)), memO m1 c2 [0, 0, 0] 0 ⟨0, 0, 0, 0, false⟩] _ := hM
  refine S.call hA (R.callF Try.func28 rfl rfl rfl) rfl (inew_ok m1 c2 [0, 0, 0] 0 ⟨0, 0, 0, 0, false⟩ hm1c2 1 wk co av X cap (by first | omega | decide | (simp; done) | (simp; omega)) (by first | omega | decide | (simp; done) | (simp; omega)) (by first | omega | decide | (simp; done) | (simp; omega)) (by first | omega | decide | (simp; done) | (simp; omega)) (by first | omega | decide | (simp; done) | (simp; omega)) (by first | omega | decide | (simp; done) | (simp; omega)) _ (hM.hereN 2)) ?_; clear hA a
  rintro e w2 ⟨q3, pl4, a5, c6, rfl, hn⟩
  replace hM : Mem _ _ [pt q3 #[.pointer (some ⟨m1, 0, none⟩), .int .i64 1, .int .i64 wk, .slice (some ⟨pl4, 0, none⟩) ((2 * wk + 1).toNat) ((2 * wk + 1).toNat)] 119, pt pl4 ((vals ((nils (2 * wk + 1).toNat).set (2 * wk).toNat (.slice a5 X.length c6)))) 43, own 3 1 (.slice a5 X.length c6) X.length (X.map (Value.int .i64)), memO m1 c2 [0, co * 64 + 2 * wk, 0] 1 ⟨2, 1, 0, co * 64 + 2 * wk, true⟩] _ := hM.callL 2 hn; clear hn
  refine ⟨.tuple #[.pointer (some ⟨q3, 0, none⟩), .int .i64 0], rfl, fun a hA => ?_⟩
  refine S.val hA (R.move rfl) rfl ?_; clear hA a; intro a hA
  refine S.val hA (R.extract (v := .pointer (some ⟨q3, 0, none⟩)) rfl rfl) rfl ?_; clear hA a; intro a hA
  refine S.val hA (R.extract (v := .int .i64 0) rfl rfl) rfl ?_; clear hA a; intro a hA
  refine S.val hA (R.assign rfl) rfl ?_; clear hA a; intro a hA
  refine S.val hA (R.assign rfl) rfl ?_; clear hA a; intro a hA
  refine S.done ?_
  replace hA : St 33 [(6, _), (7, _), (8, _), (9, _), (10, _), (11, _), (12, _)] a := hA.sub ((.cons rfl (.cons rfl (.cons rfl (.cons rfl (.cons rfl (.cons rfl (.cons rfl .nil))))))))
  refine Ends.seq ?_
  refine Ends.region ?_
  refine S.val hA (R.move rfl) rfl ?_; clear hA a; intro a hA
  refine S.val hA (R.move rfl) rfl ?_; clear hA a; intro a hA
  refine S.val hA (R.move rfl) rfl ?_; clear hA a; intro a hA
  refine S.val hA (R.tt (R.eql rfl rfl) (by first | decide | simp | omega)) rfl ?_; clear hA a; intro a hA
  refine S.val hA (R.move rfl) rfl ?_; clear hA a; intro a hA
  refine S.valg (dj := 29) hA (by kernel_rfl) rfl (R.move rfl) rfl ?_; clear hA a; intro a hA
  refine S.valg (dj := 29) hA (by kernel_rfl) rfl (R.tt (R.eql rfl rfl) (by first | decide | simp | omega)) rfl ?_; clear hA a; intro a hA
  refine S.val hA (R.pickT rfl rfl) rfl ?_; clear hA a; intro a hA
  refine S.val hA (R.assign rfl) rfl ?_; clear hA a; intro a hA
  refine S.val hA (R.assign rfl) rfl ?_; clear hA a; intro a hA
  refine S.val hA (R.assign rfl) rfl ?_; clear hA a; intro a hA
  refine S.done ?_
  replace hA : St 33 [(6, _), (7, _), (8, _)] a := hA.sub ((.cons rfl (.cons rfl (.cons rfl .nil))))
  refine Ends.ret3 Try.func38 Try.results38 hA rfl rfl rfl ?_
  exact ⟨_, _, _, _, _, _, rfl, hm1c2, hM.firstN 4⟩
set_option maxRecDepth 100000 in
set_option maxHeartbeats 400000 in
theorem irun_leave (p q pl np_ : Nat) (wk wr co : Int) (av : Option Addr) (X : List Int) (cap : Nat) (ls : List Value) (m c : Nat) (s : Int) (o : CellOp) (hmc : m ≠ c) (cc pp : Int) (hcc : 0 ≤ cc ∧ cc ≤ 1125899906842624) (hpp : 0 ≤ pp ∧ pp < 64) (hs : 0 ≤ s ∧ s < 9223372036854775806) (hv : cc ≤ co) (w : World) (hM : Mem w (feet [pt p #[.pointer (some ⟨q, 0, none⟩), .int .i64 wr, .slice av X.length cap, .int .i64 co, .bool false, .int .i64 0, .bool false, .bool false] 124, pt pl ((vals ls)) 43, pt q #[.pointer (some ⟨m, 0, none⟩), .int .i64 1, .int .i64 wk, .slice (some ⟨pl, 0, none⟩) np_ np_] 119, memO m c [0, cc * 64 + pp, 0] s o]) [pt p #[.pointer (some ⟨q, 0, none⟩), .int .i64 wr, .slice av X.length cap, .int .i64 co, .bool false, .int .i64 0, .bool false, .bool false] 124, pt pl ((vals ls)) 43, pt q #[.pointer (some ⟨m, 0, none⟩), .int .i64 1, .int .i64 wk, .slice (some ⟨pl, 0, none⟩) np_ np_] 119, memO m c [0, cc * 64 + pp, 0] s o] w) :
    Calls Try.prog 41 #[.pointer (some ⟨p, 0, none⟩)] w fun e w' => e = .returned (.bool true) ∧ Mem w (feet [pt p #[.pointer (some ⟨q, 0, none⟩), .int .i64 wr, .slice av X.length cap, .int .i64 co, .bool false, .int .i64 0, .bool false, .bool false] 124, pt pl ((vals ls)) 43, pt q #[.pointer (some ⟨m, 0, none⟩), .int .i64 1, .int .i64 wk, .slice (some ⟨pl, 0, none⟩) np_ np_] 119, memO m c [0, cc * 64 + pp, 0] s o]) [pt p #[.pointer (some ⟨q, 0, none⟩), .int .i64 wr, .slice av X.length cap, .int .i64 co, .bool true, .int .i64 (cc * 64 + pp), .bool true, .bool false] 124, pt pl ((vals ls)) 43, pt q #[.pointer (some ⟨m, 0, none⟩), .int .i64 1, .int .i64 wk, .slice (some ⟨pl, 0, none⟩) np_ np_] 119, memO m c [0, cc * 64 + pp, 0] (s + 1) ⟨1, 1, cc * 64 + pp, cc * 64 + pp, true⟩] w' := by
  have hM0 : True := trivial  -- have hM
  refine Calls.of_ends (vs := [.pointer (some ⟨p, 0, none⟩)]) Try.func41 rfl Try.ntmps41 rfl ?_
  intro a hA
  replace hA : St 17 [(0, _)] a := hA
  refine Ends.seq ?_
  refine Ends.region ?_
  refine S.val hA (R.assign rfl) rfl ?_; clear hA a; intro a hA
  refine S.done ?_
  replace hA : St 17 [(0, _), (2, _)] a := hA.sub ((.cons rfl (.cons rfl .nil)))
  refine Ends.seq ?_
  refine Ends.seq ?_
  refine Ends.region ?_
  refine S.val hA (R.assign rfl) rfl ?_; clear hA a; intro a hA
  refine S.done ?_
  replace hA : St 17 [(0, _), (2, _), (3, _)] a := hA.sub ((.cons rfl (.cons rfl (.cons rfl .nil))))
  refine Ends.block ?_
  refine Ends.unroll ?_
  refine Ends.seq ?_
  refine Ends.seq ?_
  refine Ends.region ?_
  refine S.val hA (R.move rfl) rfl ?_; clear hA a; intro a hA
  refine S.val hA (R.tt (R.lss rfl rfl) (by first | decide | simp | omega)) rfl ?_; clear hA a; intro a hA
  refine S.val hA (R.move rfl) rfl ?_; clear hA a; intro a hA
  refine S.valg (dj := 6) hA (by kernel_rfl) rfl (R.move rfl) rfl ?_; clear hA a; intro a hA
  refine S.callg (dj := 6) hA (by kernel_rfl) rfl (R.callF Try.func34 rfl rfl rfl) rfl (iact_over p q wr av X cap co 0 false false false _ (hM.block (k := 0) rfl)) ?_; clear hA a
  rintro e w1 ⟨rfl, rfl⟩
  refine ⟨.bool false, rfl, fun a hA => ?_⟩
  refine S.valg (dj := 6) hA (by kernel_rfl) rfl (R.not rfl) rfl ?_; clear hA a; intro a hA
  refine S.val hA (R.pickT rfl rfl) rfl ?_; clear hA a; intro a hA
  refine S.done ?_
  replace hA : St 17 [(0, _), (2, _), (3, _), (4, _), (5, _), (6, _), (7, _), (8, _), (9, _), (10, _)] a := hA.sub ((.cons rfl (.cons rfl (.cons rfl (.cons rfl (.cons rfl (.cons rfl (.cons rfl (.cons rfl (.cons rfl (.cons rfl .nil)))))))))))
  refine Ends.condT hA rfl ?_
  refine Ends.skip ?_
  refine Ends.seq ?_
  refine Ends.block ?_
  refine Ends.region ?_
  refine S.val hA (R.move rfl) rfl ?_; clear hA a; intro a hA
  refine S.call hA (R.callF Try.func35 rfl rfl rfl) rfl (istep_look_worse p q pl np_ wk wr co 0 false av X cap ls m c s o hmc cc pp (by first | omega | decide | (simp; done) | (simp; omega)) (by first | omega | decide | (simp; done) | (simp; omega)) (by first | omega | decide | (simp; done) | (simp; omega)) (by omega) _ (hM.hereN 4)) ?_; clear hA a
  rintro e w2 ⟨rfl, hn⟩
  replace hM : Mem _ _ [pt p #[.pointer (some ⟨q, 0, none⟩), .int .i64 wr, .slice av X.length cap, .int .i64 co, .bool true, .int .i64 (cc * 64 + pp), .bool true, .bool false] 124, pt pl ((vals ls)) 43, pt q #[.pointer (some ⟨m, 0, none⟩), .int .i64 1, .int .i64 wk, .slice (some ⟨pl, 0, none⟩) np_ np_] 119, memO m c [0, cc * 64 + pp, 0] (s + 1) ⟨1, 1, cc * 64 + pp, cc * 64 + pp, true⟩] _ := hM.callL 4 hn; clear hn
  refine ⟨.bool true, rfl, fun a hA => ?_⟩
  refine S.done ?_
  replace hA : St 17 [(0, _), (2, _), (3, _), (4, _), (5, _), (6, _), (7, _), (8, _), (9, _), (10, _), (13, _)] a := hA.sub ((.cons rfl (.cons rfl (.cons rfl (.cons rfl (.cons rfl (.cons rfl (.cons rfl (.cons rfl (.cons rfl (.cons rfl (.cons rfl .nil))))))))))))
  refine Ends.inBlock ?_
  refine Ends.region ?_
  refine S.val hA (R.move rfl) rfl ?_; clear hA a; intro a hA
  refine S.val hA (R.addI rfl rfl (r := 1) rfl (by omega)) rfl ?_; clear hA a; intro a hA
  refine S.val hA (R.assign rfl) rfl ?_; clear hA a; intro a hA
  refine S.done ?_
  replace hA : St 17 [(0, _), (2, _), (3, _), (4, _), (5, _), (6, _), (7, _), (8, _), (9, _), (10, _), (11, _), (12, _), (13, _)] a := hA.sub ((.cons rfl (.cons rfl (.cons rfl (.cons rfl (.cons rfl (.cons rfl (.cons rfl (.cons rfl (.cons rfl (.cons rfl (.cons rfl (.cons rfl (.cons rfl .nil))))))))))))))
  refine Ends.inLoop ?_
  refine Ends.seq ?_
  refine Ends.seq ?_
  refine Ends.region ?_
  refine S.val hA (R.move rfl) rfl ?_; clear hA a; intro a hA
  refine S.val hA (R.tt (R.lss rfl rfl) (by first | decide | simp | omega)) rfl ?_; clear hA a; intro a hA
  refine S.val hA (R.move rfl) rfl ?_; clear hA a; intro a hA
  refine S.valg (dj := 6) hA (by kernel_rfl) rfl (R.move rfl) rfl ?_; clear hA a; intro a hA
  refine S.callg (dj := 6) hA (by kernel_rfl) rfl (R.callF Try.func34 rfl rfl rfl) rfl (iact_over p q wr av X cap co (cc * 64 + pp) true true false _ (hM.block (k := 0) rfl)) ?_; clear hA a
  rintro e w3 ⟨rfl, rfl⟩
  refine ⟨.bool true, rfl, fun a hA => ?_⟩
  refine S.valg (dj := 6) hA (by kernel_rfl) rfl (R.not rfl) rfl ?_; clear hA a; intro a hA
  refine S.val hA (R.pickT rfl rfl) rfl ?_; clear hA a; intro a hA
  refine S.done ?_
  replace hA : St 17 [(0, _), (2, _), (3, _), (4, _), (5, _), (6, _), (7, _), (8, _), (9, _), (10, _), (11, _), (12, _), (13, _)] a := hA.sub ((.cons rfl (.cons rfl (.cons rfl (.cons rfl (.cons rfl (.cons rfl (.cons rfl (.cons rfl (.cons rfl (.cons rfl (.cons rfl (.cons rfl (.cons rfl .nil))))))))))))))
  refine Ends.condF hA rfl ?_
  refine Ends.exit rfl ?_
  replace hA : St 17 [(0, _), (2, _)] a := hA.sub ((.cons rfl (.cons rfl .nil)))
  refine Ends.seq ?_
  refine Ends.region ?_
  refine S.val hA (R.move rfl) rfl ?_; clear hA a; intro a hA
  refine S.call hA (R.callF Try.func34 rfl rfl rfl) rfl (iact_over p q wr av X cap co (cc * 64 + pp) true true false _ (hM.block (k := 0) rfl)) ?_; clear hA a
  rintro e w4 ⟨rfl, rfl⟩
  refine ⟨.bool true, rfl, fun a hA => ?_⟩
  refine S.val hA (R.assign rfl) rfl ?_; clear hA a; intro a hA
  refine S.done ?_
  replace hA : St 17 [(2, _)] a := hA.sub ((.cons rfl .nil))
  refine Ends.ret1 Try.func41 Try.results41 hA rfl ?_
  exact ⟨rfl, hM⟩
set_option maxRecDepth 100000 in
set_option maxHeartbeats 400000 in
theorem irun_take (p q pl np_ : Nat) (wk wr co : Int) (av : Option Addr) (X : List Int) (cap : Nat) (ls : List Value) (m c : Nat) (s : Int) (o : CellOp) (hmc : m ≠ c) (cc pp : Int) (hcc : 0 ≤ cc ∧ cc ≤ 1125899906842624) (hpp : 0 ≤ pp ∧ pp < 64) (hs : 0 ≤ s ∧ s < 9223372036854775806) (np : Int) (hwr : 0 ≤ wr ∧ wr < 16) (hco : 0 ≤ co ∧ co ≤ 1125899906842624) (hnp : np < np_) (hlen : ls.length = np_) (hf : (pp = 2 * wr ∧ np = 2 * wr + 1) ∨ (pp ≠ 2 * wr ∧ np = 2 * wr)) (hv : co < cc) (w : World) (hM : Mem w (feet [pt p #[.pointer (some ⟨q, 0, none⟩), .int .i64 wr, .slice av X.length cap, .int .i64 co, .bool false, .int .i64 0, .bool false, .bool false] 124, pt pl ((vals ls)) 43, pt q #[.pointer (some ⟨m, 0, none⟩), .int .i64 1, .int .i64 wk, .slice (some ⟨pl, 0, none⟩) np_ np_] 119, memO m c [0, cc * 64 + pp, 0] s o]) [pt p #[.pointer (some ⟨q, 0, none⟩), .int .i64 wr, .slice av X.length cap, .int .i64 co, .bool false, .int .i64 0, .bool false, .bool false] 124, pt pl ((vals ls)) 43, pt q #[.pointer (some ⟨m, 0, none⟩), .int .i64 1, .int .i64 wk, .slice (some ⟨pl, 0, none⟩) np_ np_] 119, memO m c [0, cc * 64 + pp, 0] s o] w) :
    Calls Try.prog 41 #[.pointer (some ⟨p, 0, none⟩)] w fun e w' => e = .returned (.bool true) ∧ Mem w (feet [pt p #[.pointer (some ⟨q, 0, none⟩), .int .i64 wr, .slice av X.length cap, .int .i64 co, .bool false, .int .i64 0, .bool false, .bool false] 124, pt pl ((vals ls)) 43, pt q #[.pointer (some ⟨m, 0, none⟩), .int .i64 1, .int .i64 wk, .slice (some ⟨pl, 0, none⟩) np_ np_] 119, memO m c [0, cc * 64 + pp, 0] s o]) [pt p #[.pointer (some ⟨q, 0, none⟩), .int .i64 wr, .slice av X.length cap, .int .i64 co, .bool false, .int .i64 (cc * 64 + pp), .bool true, .bool true] 124, pt pl ((vals (ls.set np.toNat (.slice av X.length cap)))) 43, pt q #[.pointer (some ⟨m, 0, none⟩), .int .i64 1, .int .i64 wk, .slice (some ⟨pl, 0, none⟩) np_ np_] 119, memO m c [0, co * 64 + np, 0] (s + 1 + 1) ⟨3, 1, cc * 64 + pp, co * 64 + np, true⟩] w' := by
  have hM0 : True := trivial  -- have hM
  refine Calls.of_ends (vs := [.pointer (some ⟨p, 0, none⟩)]) Try.func41 rfl Try.ntmps41 rfl ?_
  intro a hA
  replace hA : St 17 [(0, _)] a := hA
  refine Ends.seq ?_
  refine Ends.region ?_
  refine S.val hA (R.assign rfl) rfl ?_; clear hA a; intro a hA
  refine S.done ?_
  replace hA : St 17 [(0, _), (2, _)] a := hA.sub ((.cons rfl (.cons rfl .nil)))
  refine Ends.seq ?_
  refine Ends.seq ?_
  refine Ends.region ?_
  refine S.val hA (R.assign rfl) rfl ?_; clear hA a; intro a hA
  refine S.done ?_
  replace hA : St 17 [(0, _), (2, _), (3, _)] a := hA.sub ((.cons rfl (.cons rfl (.cons rfl .nil))))
  refine Ends.block ?_
  refine Ends.unroll ?_
  refine Ends.seq ?_
  refine Ends.seq ?_
  refine Ends.region ?_
  refine S.val hA (R.move rfl) rfl ?_; clear hA a; intro a hA
  refine S.val hA (R.tt (R.lss rfl rfl) (by first | decide | simp | omega)) rfl ?_; clear hA a; intro a hA
  refine S.val hA (R.move rfl) rfl ?_; clear hA a; intro a hA
  refine S.valg (dj := 6) hA (by kernel_rfl) rfl (R.move rfl) rfl ?_; clear hA a; intro a hA
  refine S.callg (dj := 6) hA (by kernel_rfl) rfl (R.callF Try.func34 rfl rfl rfl) rfl (iact_over p q wr av X cap co 0 false false false _ (hM.block (k := 0) rfl)) ?_; clear hA a
  rintro e w1 ⟨rfl, rfl⟩
  refine ⟨.bool false, rfl, fun a hA => ?_⟩
  refine S.valg (dj := 6) hA (by kernel_rfl) rfl (R.not rfl) rfl ?_; clear hA a; intro a hA
  refine S.val hA (R.pickT rfl rfl) rfl ?_; clear hA a; intro a hA
  refine S.done ?_
  replace hA : St 17 [(0, _), (2, _), (3, _), (4, _), (5, _), (6, _), (7, _), (8, _), (9, _), (10, _)] a := hA.sub ((.cons rfl (.cons rfl (.cons rfl (.cons rfl (.cons rfl (.cons rfl (.cons rfl (.cons rfl (.cons rfl (.cons rfl .nil)))))))))))
  refine Ends.condT hA rfl ?_
  refine Ends.skip ?_
  refine Ends.seq ?_
  refine Ends.block ?_
  refine Ends.region ?_
  refine S.val hA (R.move rfl) rfl ?_; clear hA a; intro a hA
  refine S.call hA (R.callF Try.func35 rfl rfl rfl) rfl (istep_look_better p q pl np_ wk wr co 0 false av X cap ls m c s o hmc cc pp (by first | omega | decide | (simp; done) | (simp; omega)) (by first | omega | decide | (simp; done) | (simp; omega)) (by first | omega | decide | (simp; done) | (simp; omega)) (by omega) _ (hM.hereN 4)) ?_; clear hA a
  rintro e w2 ⟨rfl, hn⟩
  replace hM : Mem _ _ [pt p #[.pointer (some ⟨q, 0, none⟩), .int .i64 wr, .slice av X.length cap, .int .i64 co, .bool true, .int .i64 (cc * 64 + pp), .bool false, .bool false] 124, pt pl ((vals ls)) 43, pt q #[.pointer (some ⟨m, 0, none⟩), .int .i64 1, .int .i64 wk, .slice (some ⟨pl, 0, none⟩) np_ np_] 119, memO m c [0, cc * 64 + pp, 0] (s + 1) ⟨1, 1, cc * 64 + pp, cc * 64 + pp, true⟩] _ := hM.callL 4 hn; clear hn
  refine ⟨.bool false, rfl, fun a hA => ?_⟩
  refine S.done ?_
  replace hA : St 17 [(0, _), (2, _), (3, _), (4, _), (5, _), (6, _), (7, _), (8, _), (9, _), (10, _), (13, _)] a := hA.sub ((.cons rfl (.cons rfl (.cons rfl (.cons rfl (.cons rfl (.cons rfl (.cons rfl (.cons rfl (.cons rfl (.cons rfl (.cons rfl .nil))))))))))))
  refine Ends.inBlock ?_
  refine Ends.region ?_
  refine S.val hA (R.move rfl) rfl ?_; clear hA a; intro a hA
  refine S.val hA (R.addI rfl rfl (r := 1) rfl (by omega)) rfl ?_; clear hA a; intro a hA
  refine S.val hA (R.assign rfl) rfl ?_; clear hA a; intro a hA
  refine S.done ?_
  replace hA : St 17 [(0, _), (2, _), (3, _), (4, _), (5, _), (6, _), (7, _), (8, _), (9, _), (10, _), (11, _), (12, _), (13, _)] a := hA.sub ((.cons rfl (.cons rfl (.cons rfl (.cons rfl (.cons rfl (.cons rfl (.cons rfl (.cons rfl (.cons rfl (.cons rfl (.cons rfl (.cons rfl (.cons rfl .nil))))))))))))))
  refine Ends.inLoop ?_
  refine Ends.seq ?_
  refine Ends.seq ?_
  refine Ends.region ?_
  refine S.val hA (R.move rfl) rfl ?_; clear hA a; intro a hA
  refine S.val hA (R.tt (R.lss rfl rfl) (by first | decide | simp | omega)) rfl ?_; clear hA a; intro a hA
  refine S.val hA (R.move rfl) rfl ?_; clear hA a; intro a hA
  refine S.valg (dj := 6) hA (by kernel_rfl) rfl (R.move rfl) rfl ?_; clear hA a; intro a hA
  refine S.callg (dj := 6) hA (by kernel_rfl) rfl (R.callF Try.func34 rfl rfl rfl) rfl (iact_over p q wr av X cap co (cc * 64 + pp) true false false _ (hM.block (k := 0) rfl)) ?_; clear hA a
  rintro e w3 ⟨rfl, rfl⟩
  refine ⟨.bool false, rfl, fun a hA => ?_⟩
  refine S.valg (dj := 6) hA (by kernel_rfl) rfl (R.not rfl) rfl ?_; clear hA a; intro a hA
  refine S.val hA (R.pickT rfl rfl) rfl ?_; clear hA a; intro a hA
  refine S.done ?_
  replace hA : St 17 [(0, _), (2, _), (3, _), (4, _), (5, _), (6, _), (7, _), (8, _), (9, _), (10, _), (11, _), (12, _), (13, _)] a := hA.sub ((.cons rfl (.cons rfl (.cons rfl (.cons rfl (.cons rfl (.cons rfl (.cons rfl (.cons rfl (.cons rfl (.cons rfl (.cons rfl (.cons rfl (.cons rfl .nil))))))))))))))
  refine Ends.condT hA rfl ?_
  refine Ends.skip ?_
  refine Ends.seq ?_
  refine Ends.block ?_
  refine Ends.region ?_
  refine S.val hA (R.move rfl) rfl ?_; clear hA a; intro a hA
  refine S.call hA (R.callF Try.func35 rfl rfl rfl) rfl (istep_hit p q pl np_ wk wr co np false av X cap ls m c (s + 1) ⟨1, 1, cc * 64 + pp, cc * 64 + pp, true⟩ hmc cc pp (by first | omega | decide | (simp; done) | (simp; omega)) (by first | omega | decide | (simp; done) | (simp; omega)) (by first | omega | decide | (simp; done) | (simp; omega)) (by first | omega | decide | (simp; done) | (simp; omega)) (by first | omega | decide | (simp; done) | (simp; omega)) (by first | omega | decide | (simp; done) | (simp; omega)) hlen hf _ (hM.hereN 4)) ?_; clear hA a
  rintro e w4 ⟨rfl, hn⟩
  replace hM : Mem _ _ [pt p #[.pointer (some ⟨q, 0, none⟩), .int .i64 wr, .slice av X.length cap, .int .i64 co, .bool false, .int .i64 (cc * 64 + pp), .bool true, .bool true] 124, pt pl ((vals (ls.set np.toNat (.slice av X.length cap)))) 43, pt q #[.pointer (some ⟨m, 0, none⟩), .int .i64 1, .int .i64 wk, .slice (some ⟨pl, 0, none⟩) np_ np_] 119, memO m c [0, co * 64 + np, 0] (s + 1 + 1) ⟨3, 1, cc * 64 + pp, co * 64 + np, true⟩] _ := hM.callL 4 hn; clear hn
  refine ⟨.bool true, rfl, fun a hA => ?_⟩
  refine S.done ?_
  replace hA : St 17 [(0, _), (2, _), (3, _), (4, _), (5, _), (6, _), (7, _), (8, _), (9, _), (10, _), (11, _), (12, _), (13, _)] a := hA.sub ((.cons rfl (.cons rfl (.cons rfl (.cons rfl (.cons rfl (.cons rfl (.cons rfl (.cons rfl (.cons rfl (.cons rfl (.cons rfl (.cons rfl (.cons rfl .nil))))))))))))))
  refine Ends.inBlock ?_
  refine Ends.region ?_
  refine S.val hA (R.move rfl) rfl ?_; clear hA a; intro a hA
  refine S.val hA (R.addI rfl rfl (r := 2) rfl (by omega)) rfl ?_; clear hA a; intro a hA
  refine S.val hA (R.assign rfl) rfl ?_; clear hA a; intro a hA
  refine S.done ?_
  replace hA : St 17 [(0, _), (2, _), (3, _), (4, _), (5, _), (6, _), (7, _), (8, _), (9, _), (10, _), (11, _), (12, _), (13, _)] a := hA.sub ((.cons rfl (.cons rfl (.cons rfl (.cons rfl (.cons rfl (.cons rfl (.cons rfl (.cons rfl (.cons rfl (.cons rfl (.cons rfl (.cons rfl (.cons rfl .nil))))))))))))))
  refine Ends.inLoop ?_
  refine Ends.seq ?_
  refine Ends.seq ?_
  refine Ends.region ?_
  refine S.val hA (R.move rfl) rfl ?_; clear hA a; intro a hA
  refine S.val hA (R.ff (R.lss rfl rfl) (by first | decide | simp | omega)) rfl ?_; clear hA a; intro a hA
  refine S.val hA (R.move rfl) rfl ?_; clear hA a; intro a hA
  refine S.no (dj := 6) hA (by kernel_rfl) rfl rfl rfl ?_; clear hA a; intro a hA
  refine S.no (dj := 6) hA (by kernel_rfl) rfl rfl rfl ?_; clear hA a; intro a hA
  refine S.no (dj := 6) hA (by kernel_rfl) rfl rfl rfl ?_; clear hA a; intro a hA
  refine S.val hA (R.pickF rfl rfl) rfl ?_; clear hA a; intro a hA
  refine S.done ?_
  replace hA : St 17 [(0, _), (2, _), (3, _), (4, _), (5, _), (6, _), (10, _), (11, _), (12, _), (13, _)] a := hA.sub ((.cons rfl (.cons rfl (.cons rfl (.cons rfl (.cons rfl (.cons rfl (.cons rfl (.cons rfl (.cons rfl (.cons rfl .nil)))))))))))
  refine Ends.condF hA rfl ?_
  refine Ends.exit rfl ?_
  replace hA : St 17 [(0, _), (2, _)] a := hA.sub ((.cons rfl (.cons rfl .nil)))
  refine Ends.seq ?_
  refine Ends.region ?_
  refine S.val hA (R.move rfl) rfl ?_; clear hA a; intro a hA
  refine S.call hA (R.callF Try.func34 rfl rfl rfl) rfl (iact_over p q wr av X cap co (cc * 64 + pp) false true true _ (hM.block (k := 0) rfl)) ?_; clear hA a
  rintro e w5 ⟨rfl, rfl⟩
  refine ⟨.bool true, rfl, fun a hA => ?_⟩
  refine S.val hA (R.assign rfl) rfl ?_; clear hA a; intro a hA
  refine S.done ?_
  replace hA : St 17 [(2, _)] a := hA.sub ((.cons rfl .nil))
  refine Ends.ret1 Try.func41 Try.results41 hA rfl ?_
  exact ⟨rfl, hM⟩
set_option maxRecDepth 100000 in
set_option maxHeartbeats 400000 in
theorem iincs_any  (w : World) :
    Calls Try.prog 31 #[] w fun e w' => e = .returned (.bool true) ∧ Below w.heap.size w w' := by
  have hM := Mem.start w
  refine Calls.of_ends (vs := []) Try.func31 rfl Try.ntmps31 rfl ?_
  intro a hA
  replace hA : St 56 [] a := hA
  refine Ends.seq ?_
  refine Ends.region ?_
  refine S.val hA (R.assign rfl) rfl ?_; clear hA a; intro a hA
  refine S.done ?_
  replace hA : St 56 [(0, _)] a := hA.sub ((.cons rfl .nil))
  refine Ends.seq ?_
  refine Ends.region ?_
  refine S.buildSl (cells := #[.int .i64 1]) hA hM Try.underlying43 info3 rfl rfl rfl rfl (by kernel_rfl) rfl ?_; clear hA hM a; intro b1 w1 hb2 hM a hA
  replace hM : Mem _ _ [pt b1 #[.int .i64 1] 3] _ := hM
  replace hM := hM.ownPt (cap := 1) (n := 1) (sz := 1) (xs := [.int .i64 1]) rfl (by decide) (by decide) rfl
  replace hM : Mem _ _ [own 3 1 (.slice (some ⟨b1, 0, none⟩) ((([1] : List Int)).length) 1) ((([1] : List Int)).length) ((([1] : List Int)).map (Value.int .i64))] _ := hM
  refine S.call hA (R.callF Try.func38 rfl rfl rfl) rfl (ifresh_any 2 9 (some ⟨b1, 0, none⟩) (([1] : List Int)) 1 (by first | omega | decide | (simp; done) | (simp; omega)) (by first | omega | decide | (simp; done) | (simp; omega)) (by first | omega | decide | (simp; done) | (simp; omega)) _ (hM.hereN 1)) ?_; clear hA a
  rintro e w2 ⟨q3, m4, c5, pl6, a7, c8, rfl, hm4c5, hn⟩
  replace hM : Mem _ _ [pt q3 #[.pointer (some ⟨m4, 0, none⟩), .int .i64 1, .int .i64 2, .slice (some ⟨pl6, 0, none⟩) 5 5] 119, pt pl6 #[.slice none 0 0, .slice none 0 0, .slice none 0 0, .slice none 0 0, .slice a7 ((([1] : List Int)).length) c8] 43, own 3 1 (.slice a7 ((([1] : List Int)).length) c8) ((([1] : List Int)).length) ((([1] : List Int)).map (Value.int .i64)), memO m4 c5 [0, 9 * 64 + 4, 0] 1 ⟨2, 1, 0, 9 * 64 + 4, true⟩] _ := hM.callL 1 hn; clear hn
  refine ⟨.tuple #[.pointer (some ⟨q3, 0, none⟩), .pointer (some ⟨m4, 0, none⟩), .bool true], rfl, fun a hA => ?_⟩
  refine S.val hA (R.move rfl) rfl ?_; clear hA a; intro a hA
  refine S.val hA (R.extract (v := .pointer (some ⟨q3, 0, none⟩)) rfl rfl) rfl ?_; clear hA a; intro a hA
  refine S.val hA (R.extract (v := .pointer (some ⟨m4, 0, none⟩)) rfl rfl) rfl ?_; clear hA a; intro a hA
  refine S.val hA (R.extract (v := .bool true) rfl rfl) rfl ?_; clear hA a; intro a hA
  refine S.val hA (R.assign rfl) rfl ?_; clear hA a; intro a hA
  refine S.val hA (R.assign rfl) rfl ?_; clear hA a; intro a hA
  refine S.val hA (R.assign rfl) rfl ?_; clear hA a; intro a hA
  refine S.done ?_
  replace hA : St 56 [(0, _), (1, _), (3, _)] a := hA.sub ((.cons rfl (.cons rfl (.cons rfl .nil))))
  refine Ends.seq ?_
  refine Ends.seq ?_
  refine Ends.region ?_
  refine S.val hA (R.move rfl) rfl ?_; clear hA a; intro a hA
  refine S.val hA (R.not rfl) rfl ?_; clear hA a; intro a hA
  refine S.done ?_
  replace hA : St 56 [(0, _), (1, _), (15, _)] a := hA.sub ((.cons rfl (.cons rfl (.cons rfl .nil))))
  refine Ends.condF hA rfl ?_
  refine Ends.skip ?_
  refine Ends.seq ?_
  refine Ends.region ?_
  refine S.val hA (R.move rfl) rfl ?_; clear hA a; intro a hA
  refine S.buildSl (cells := #[.int .i64 2]) hA hM Try.underlying43 info3 rfl rfl rfl rfl (by kernel_rfl) rfl ?_; clear hA hM a; intro b9 w3 hb10 hM a hA
  replace hM : Mem _ _ [pt b9 #[.int .i64 2] 3, pt q3 #[.pointer (some ⟨m4, 0, none⟩), .int .i64 1, .int .i64 2, .slice (some ⟨pl6, 0, none⟩) 5 5] 119, pt pl6 #[.slice none 0 0, .slice none 0 0, .slice none 0 0, .slice none 0 0, .slice a7 ((([1] : List Int)).length) c8] 43, own 3 1 (.slice a7 ((([1] : List Int)).length) c8) ((([1] : List Int)).length) ((([1] : List Int)).map (Value.int .i64)), memO m4 c5 [0, 9 * 64 + 4, 0] 1 ⟨2, 1, 0, 9 * 64 + 4, true⟩] _ := hM
  replace hM := hM.ownPt (cap := 1) (n := 1) (sz := 1) (xs := [.int .i64 2]) rfl (by decide) (by decide) rfl
  replace hM : Mem _ _ [own 3 1 (.slice (some ⟨b9, 0, none⟩) ((([2] : List Int)).length) 1) ((([2] : List Int)).length) ((([2] : List Int)).map (Value.int .i64)), pt q3 #[.pointer (some ⟨m4, 0, none⟩), .int .i64 1, .int .i64 2, .slice (some ⟨pl6, 0, none⟩) 5 5] 119, pt pl6 #[.slice none 0 0, .slice none 0 0, .slice none 0 0, .slice none 0 0, .slice a7 ((([1] : List Int)).length) c8] 43, own 3 1 (.slice a7 ((([1] : List Int)).length) c8) ((([1] : List Int)).length) ((([1] : List Int)).map (Value.int .i64)), memO m4 c5 [0, 9 * 64 + 4, 0] 1 ⟨2, 1, 0, 9 * 64 + 4, true⟩] _ := hM
  refine S.call hA (R.callF Try.func33 rfl rfl rfl) rfl (ioffer_ok q3 m4 pl6 5 1 2 0 7 (some ⟨b9, 0, none⟩) (([2] : List Int)) 1 (by first | omega | decide | (simp; done) | (simp; omega)) (by first | omega | decide | (simp; done) | (simp; omega)) (by first | omega | decide | (simp; done) | (simp; omega)) _ (hM.hereN 2)) ?_; clear hA a
  rintro e w4 ⟨p11, a12, c13, rfl, hn⟩
  replace hM : Mem _ _ [pt p11 #[.pointer (some ⟨q3, 0, none⟩), .int .i64 0, .slice a12 ((([2] : List Int)).length) c13, .int .i64 7, .bool false, .int .i64 0, .bool false, .bool false] 124, own 3 1 (.slice a12 ((([2] : List Int)).length) c13) ((([2] : List Int)).length) ((([2] : List Int)).map (Value.int .i64)), pt q3 #[.pointer (some ⟨m4, 0, none⟩), .int .i64 1, .int .i64 2, .slice (some ⟨pl6, 0, none⟩) 5 5] 119, pt pl6 #[.slice none 0 0, .slice none 0 0, .slice none 0 0, .slice none 0 0, .slice a7 ((([1] : List Int)).length) c8] 43, own 3 1 (.slice a7 ((([1] : List Int)).length) c8) ((([1] : List Int)).length) ((([1] : List Int)).map (Value.int .i64)), memO m4 c5 [0, 9 * 64 + 4, 0] 1 ⟨2, 1, 0, 9 * 64 + 4, true⟩] _ := hM.callL 2 hn; clear hn
  refine ⟨.pointer (some ⟨p11, 0, none⟩), rfl, fun a hA => ?_⟩
  refine S.val hA (R.move rfl) rfl ?_; clear hA a; intro a hA
  refine S.buildSl (cells := #[.int .i64 3]) hA hM Try.underlying43 info3 rfl rfl rfl rfl (by kernel_rfl) rfl ?_; clear hA hM a; intro b14 w5 hb15 hM a hA
  replace hM : Mem _ _ [pt b14 #[.int .i64 3] 3, pt p11 #[.pointer (some ⟨q3, 0, none⟩), .int .i64 0, .slice a12 ((([2] : List Int)).length) c13, .int .i64 7, .bool false, .int .i64 0, .bool false, .bool false] 124, own 3 1 (.slice a12 ((([2] : List Int)).length) c13) ((([2] : List Int)).length) ((([2] : List Int)).map (Value.int .i64)), pt q3 #[.pointer (some ⟨m4, 0, none⟩), .int .i64 1, .int .i64 2, .slice (some ⟨pl6, 0, none⟩) 5 5] 119, pt pl6 #[.slice none 0 0, .slice none 0 0, .slice none 0 0, .slice none 0 0, .slice a7 ((([1] : List Int)).length) c8] 43, own 3 1 (.slice a7 ((([1] : List Int)).length) c8) ((([1] : List Int)).length) ((([1] : List Int)).map (Value.int .i64)), memO m4 c5 [0, 9 * 64 + 4, 0] 1 ⟨2, 1, 0, 9 * 64 + 4, true⟩] _ := hM
  replace hM := hM.ownPt (cap := 1) (n := 1) (sz := 1) (xs := [.int .i64 3]) rfl (by decide) (by decide) rfl
  replace hM : Mem _ _ [own 3 1 (.slice (some ⟨b14, 0, none⟩) ((([3] : List Int)).length) 1) ((([3] : List Int)).length) ((([3] : List Int)).map (Value.int .i64)), pt p11 #[.pointer (some ⟨q3, 0, none⟩), .int .i64 0, .slice a12 ((([2] : List Int)).length) c13, .int .i64 7, .bool false, .int .i64 0, .bool false, .bool false] 124, own 3 1 (.slice a12 ((([2] : List Int)).length) c13) ((([2] : List Int)).length) ((([2] : List Int)).map (Value.int .i64)), pt q3 #[.pointer (some ⟨m4, 0, none⟩), .int .i64 1, .int .i64 2, .slice (some ⟨pl6, 0, none⟩) 5 5] 119, pt pl6 #[.slice none 0 0, .slice none 0 0, .slice none 0 0, .slice none 0 0, .slice a7 ((([1] : List Int)).length) c8] 43, own 3 1 (.slice a7 ((([1] : List Int)).length) c8) ((([1] : List Int)).length) ((([1] : List Int)).map (Value.int .i64)), memO m4 c5 [0, 9 * 64 + 4, 0] 1 ⟨2, 1, 0, 9 * 64 + 4, true⟩] _ := hM
  replace hM := hM.front (k := 3) rfl
  replace hM := hM.front (k := 1) rfl
  replace hM : Mem _ _ [own 3 1 (.slice (some ⟨b14, 0, none⟩) ((([3] : List Int)).length) 1) ((([3] : List Int)).length) ((([3] : List Int)).map (Value.int .i64)), pt q3 #[.pointer (some ⟨m4, 0, none⟩), .int .i64 1, .int .i64 2, .slice (some ⟨pl6, 0, none⟩) 5 5] 119, pt p11 #[.pointer (some ⟨q3, 0, none⟩), .int .i64 0, .slice a12 ((([2] : List Int)).length) c13, .int .i64 7, .bool false, .int .i64 0, .bool false, .bool false] 124, own 3 1 (.slice a12 ((([2] : List Int)).length) c13) ((([2] : List Int)).length) ((([2] : List Int)).map (Value.int .i64)), pt pl6 #[.slice none 0 0, .slice none 0 0, .slice none 0 0, .slice none 0 0, .slice a7 ((([1] : List Int)).length) c8] 43, own 3 1 (.slice a7 ((([1] : List Int)).length) c8) ((([1] : List Int)).length) ((([1] : List Int)).map (Value.int .i64)), memO m4 c5 [0, 9 * 64 + 4, 0] 1 ⟨2, 1, 0, 9 * 64 + 4, true⟩] _ := hM
  refine S.call hA (R.callF Try.func33 rfl rfl rfl) rfl (ioffer_ok q3 m4 pl6 5 1 2 1 8 (some ⟨b14, 0, none⟩) (([3] : List Int)) 1 (by first | omega | decide | (simp; done) | (simp; omega)) (by first | omega | decide | (simp; done) | (simp; omega)) (by first | omega | decide | (simp; done) | (simp; omega)) _ (hM.hereN 2)) ?_; clear hA a
  rintro e w6 ⟨p16, a17, c18, rfl, hn⟩
  replace hM : Mem _ _ [pt p16 #[.pointer (some ⟨q3, 0, none⟩), .int .i64 1, .slice a17 ((([3] : List Int)).length) c18, .int .i64 8, .bool false, .int .i64 0, .bool false, .bool false] 124, own 3 1 (.slice a17 ((([3] : List Int)).length) c18) ((([3] : List Int)).length) ((([3] : List Int)).map (Value.int .i64)), pt q3 #[.pointer (some ⟨m4, 0, none⟩), .int .i64 1, .int .i64 2, .slice (some ⟨pl6, 0, none⟩) 5 5] 119, pt p11 #[.pointer (some ⟨q3, 0, none⟩), .int .i64 0, .slice a12 ((([2] : List Int)).length) c13, .int .i64 7, .bool false, .int .i64 0, .bool false, .bool false] 124, own 3 1 (.slice a12 ((([2] : List Int)).length) c13) ((([2] : List Int)).length) ((([2] : List Int)).map (Value.int .i64)), pt pl6 #[.slice none 0 0, .slice none 0 0, .slice none 0 0, .slice none 0 0, .slice a7 ((([1] : List Int)).length) c8] 43, own 3 1 (.slice a7 ((([1] : List Int)).length) c8) ((([1] : List Int)).length) ((([1] : List Int)).map (Value.int .i64)), memO m4 c5 [0, 9 * 64 + 4, 0] 1 ⟨2, 1, 0, 9 * 64 + 4, true⟩] _ := hM.callL 2 hn; clear hn
  refine ⟨.pointer (some ⟨p16, 0, none⟩), rfl, fun a hA => ?_⟩
  refine S.val hA (R.assign rfl) rfl ?_; clear hA a; intro a hA
  refine S.val hA (R.assign rfl) rfl ?_; clear hA a; intro a hA
  refine S.done ?_
  replace hA : St 56 [(0, _), (1, _), (4, _), (5, _)] a := hA.sub ((.cons rfl (.cons rfl (.cons rfl (.cons rfl .nil)))))
  refine Ends.seq ?_
  refine Ends.seq ?_
  refine Ends.region ?_
  refine S.val hA (R.move rfl) rfl ?_; clear hA a; intro a hA
  replace hM := hM.front (k := 7) rfl
  replace hM := hM.front (k := 3) rfl
  replace hM := hM.front (k := 6) rfl
  replace hM := hM.front (k := 5) rfl
  replace hM : Mem _ _ [pt p11 #[.pointer (some ⟨q3, 0, none⟩), .int .i64 0, .slice a12 ((([2] : List Int)).length) c13, .int .i64 7, .bool false, .int .i64 0, .bool false, .bool false] 124, pt pl6 #[.slice none 0 0, .slice none 0 0, .slice none 0 0, .slice none 0 0, .slice a7 ((([1] : List Int)).length) c8] 43, pt q3 #[.pointer (some ⟨m4, 0, none⟩), .int .i64 1, .int .i64 2, .slice (some ⟨pl6, 0, none⟩) 5 5] 119, memO m4 c5 [0, 9 * 64 + 4, 0] 1 ⟨2, 1, 0, 9 * 64 + 4, true⟩, pt p16 #[.pointer (some ⟨q3, 0, none⟩), .int .i64 1, .slice a17 ((([3] : List Int)).length) c18, .int .i64 8, .bool false, .int .i64 0, .bool false, .bool false] 124, own 3 1 (.slice a17 ((([3] : List Int)).length) c18) ((([3] : List Int)).length) ((([3] : List Int)).map (Value.int .i64)), own 3 1 (.slice a12 ((([2] : List Int)).length) c13) ((([2] : List Int)).length) ((([2] : List Int)).map (Value.int .i64)), own 3 1 (.slice a7 ((([1] : List Int)).length) c8) ((([1] : List Int)).length) ((([1] : List Int)).map (Value.int .i64))] _ := hM
  refine S.call hA (R.callF Try.func41 rfl rfl rfl) rfl (irun_take p11 q3 pl6 5 2 0 7 a12 ((([2] : List Int))) c13 ([.slice none 0 0, .slice none 0 0, .slice none 0 0, .slice none 0 0, .slice a7 ((([1] : List Int)).length) c8]) m4 c5 1 ⟨2, 1, 0, 9 * 64 + 4, true⟩ hm4c5 9 4 (by first | omega | decide | (simp; done) | (simp; omega)) (by first | omega | decide | (simp; done) | (simp; omega)) (by first | omega | decide | (simp; done) | (simp; omega)) 0 (by first | omega | decide | (simp; done) | (simp; omega)) (by first | omega | decide | (simp; done) | (simp; omega)) (by first | omega | decide | (simp; done) | (simp; omega)) rfl (by decide) (by omega) _ (hM.hereN 4)) ?_; clear hA a
  rintro e w7 ⟨rfl, hn⟩
  replace hM : Mem _ _ [pt p11 #[.pointer (some ⟨q3, 0, none⟩), .int .i64 0, .slice a12 ((([2] : List Int)).length) c13, .int .i64 7, .bool false, .int .i64 (9 * 64 + 4), .bool true, .bool true] 124, pt pl6 #[.slice a12 ((([2] : List Int)).length) c13, .slice none 0 0, .slice none 0 0, .slice none 0 0, .slice a7 ((([1] : List Int)).length) c8] 43, pt q3 #[.pointer (some ⟨m4, 0, none⟩), .int .i64 1, .int .i64 2, .slice (some ⟨pl6, 0, none⟩) 5 5] 119, memO m4 c5 [0, 7 * 64 + 0, 0] 3 ⟨3, 1, 9 * 64 + 4, 7 * 64 + 0, true⟩, pt p16 #[.pointer (some ⟨q3, 0, none⟩), .int .i64 1, .slice a17 ((([3] : List Int)).length) c18, .int .i64 8, .bool false, .int .i64 0, .bool false, .bool false] 124, own 3 1 (.slice a17 ((([3] : List Int)).length) c18) ((([3] : List Int)).length) ((([3] : List Int)).map (Value.int .i64)), own 3 1 (.slice a12 ((([2] : List Int)).length) c13) ((([2] : List Int)).length) ((([2] : List Int)).map (Value.int .i64)), own 3 1 (.slice a7 ((([1] : List Int)).length) c8) ((([1] : List Int)).length) ((([1] : List Int)).map (Value.int .i64))] _ := hM.callL 4 hn; clear hn
  refine ⟨.bool true, rfl, fun a hA => ?_⟩
  refine S.val hA (R.not rfl) rfl ?_; clear hA a; intro a hA
  refine S.val hA (R.move rfl) rfl ?_; clear hA a; intro a hA
  refine S.valg (dj := 25) hA (by kernel_rfl) rfl (R.move rfl) rfl ?_; clear hA a; intro a hA
  replace hM := hM.front (k := 3) rfl
  replace hM := hM.front (k := 3) rfl
  replace hM := hM.front (k := 3) rfl
  replace hM := hM.front (k := 4) rfl
  replace hM : Mem _ _ [pt p16 #[.pointer (some ⟨q3, 0, none⟩), .int .i64 1, .slice a17 ((([3] : List Int)).length) c18, .int .i64 8, .bool false, .int .i64 0, .bool false, .bool false] 124, pt pl6 #[.slice a12 ((([2] : List Int)).length) c13, .slice none 0 0, .slice none 0 0, .slice none 0 0, .slice a7 ((([1] : List Int)).length) c8] 43, pt q3 #[.pointer (some ⟨m4, 0, none⟩), .int .i64 1, .int .i64 2, .slice (some ⟨pl6, 0, none⟩) 5 5] 119, memO m4 c5 [0, 7 * 64 + 0, 0] 3 ⟨3, 1, 9 * 64 + 4, 7 * 64 + 0, true⟩, pt p11 #[.pointer (some ⟨q3, 0, none⟩), .int .i64 0, .slice a12 ((([2] : List Int)).length) c13, .int .i64 7, .bool false, .int .i64 (9 * 64 + 4), .bool true, .bool true] 124, own 3 1 (.slice a17 ((([3] : List Int)).length) c18) ((([3] : List Int)).length) ((([3] : List Int)).map (Value.int .i64)), own 3 1 (.slice a12 ((([2] : List Int)).length) c13) ((([2] : List Int)).length) ((([2] : List Int)).map (Value.int .i64)), own 3 1 (.slice a7 ((([1] : List Int)).length) c8) ((([1] : List Int)).length) ((([1] : List Int)).map (Value.int .i64))] _ := hM
  refine S.callg (dj := 25) hA (by kernel_rfl) rfl (R.callF Try.func41 rfl rfl rfl) rfl (irun_leave p16 q3 pl6 5 2 1 8 a17 ((([3] : List Int))) c18 ([.slice a12 ((([2] : List Int)).length) c13, .slice none 0 0, .slice none 0 0, .slice none 0 0, .slice a7 ((([1] : List Int)).length) c8]) m4 c5 3 ⟨3, 1, 9 * 64 + 4, 7 * 64 + 0, true⟩ hm4c5 7 0 (by first | omega | decide | (simp; done) | (simp; omega)) (by first | omega | decide | (simp; done) | (simp; omega)) (by first | omega | decide | (simp; done) | (simp; omega)) (by omega) _ (hM.hereN 4)) ?_; clear hA a
  rintro e w8 ⟨rfl, hn⟩
  replace hM : Mem _ _ [pt p16 #[.pointer (some ⟨q3, 0, none⟩), .int .i64 1, .slice a17 ((([3] : List Int)).length) c18, .int .i64 8, .bool true, .int .i64 (7 * 64 + 0), .bool true, .bool false] 124, pt pl6 #[.slice a12 ((([2] : List Int)).length) c13, .slice none 0 0, .slice none 0 0, .slice none 0 0, .slice a7 ((([1] : List Int)).length) c8] 43, pt q3 #[.pointer (some ⟨m4, 0, none⟩), .int .i64 1, .int .i64 2, .slice (some ⟨pl6, 0, none⟩) 5 5] 119, memO m4 c5 [0, 7 * 64 + 0, 0] 4 ⟨1, 1, 7 * 64 + 0, 7 * 64 + 0, true⟩, pt p11 #[.pointer (some ⟨q3, 0, none⟩), .int .i64 0, .slice a12 ((([2] : List Int)).length) c13, .int .i64 7, .bool false, .int .i64 (9 * 64 + 4), .bool true, .bool true] 124, own 3 1 (.slice a17 ((([3] : List Int)).length) c18) ((([3] : List Int)).length) ((([3] : List Int)).map (Value.int .i64)), own 3 1 (.slice a12 ((([2] : List Int)).length) c13) ((([2] : List Int)).length) ((([2] : List Int)).map (Value.int .i64)), own 3 1 (.slice a7 ((([1] : List Int)).length) c8) ((([1] : List Int)).length) ((([1] : List Int)).map (Value.int .i64))] _ := hM.callL 4 hn; clear hn
  refine ⟨.bool true, rfl, fun a hA => ?_⟩
  refine S.valg (dj := 25) hA (by kernel_rfl) rfl (R.not rfl) rfl ?_; clear hA a; intro a hA
  refine S.val hA (R.pickF rfl rfl) rfl ?_; clear hA a; intro a hA
  refine S.val hA (R.move rfl) rfl ?_; clear hA a; intro a hA
  refine S.valg (dj := 30) hA (by kernel_rfl) rfl (R.move rfl) rfl ?_; clear hA a; intro a hA
  refine S.callg (dj := 30) hA (by kernel_rfl) rfl (R.callF Try.func36 rfl rfl rfl) rfl (iact_taken p11 q3 0 a12 ((([2] : List Int))) c13 7 (9 * 64 + 4) false true true _ (hM.block (k := 4) rfl)) ?_; clear hA a
  rintro e w9 ⟨rfl, rfl⟩
  refine ⟨.bool true, rfl, fun a hA => ?_⟩
  refine S.valg (dj := 30) hA (by kernel_rfl) rfl (R.not rfl) rfl ?_; clear hA a; intro a hA
  refine S.val hA (R.pickF rfl rfl) rfl ?_; clear hA a; intro a hA
  refine S.val hA (R.move rfl) rfl ?_; clear hA a; intro a hA
  refine S.valg (dj := 35) hA (by kernel_rfl) rfl (R.move rfl) rfl ?_; clear hA a; intro a hA
  refine S.callg (dj := 35) hA (by kernel_rfl) rfl (R.callF Try.func36 rfl rfl rfl) rfl (iact_taken p16 q3 1 a17 ((([3] : List Int))) c18 8 (7 * 64 + 0) true true false _ (hM.block (k := 0) rfl)) ?_; clear hA a
  rintro e w10 ⟨rfl, rfl⟩
  refine ⟨.bool false, rfl, fun a hA => ?_⟩
  refine S.val hA (R.pickF rfl rfl) rfl ?_; clear hA a; intro a hA
  refine S.done ?_
  replace hA : St 56 [(0, _), (1, _), (38, _)] a := hA.sub ((.cons rfl (.cons rfl (.cons rfl .nil))))
  refine Ends.condF hA rfl ?_
  refine Ends.skip ?_
  refine Ends.seq ?_
  refine Ends.region ?_
  refine S.val hA (R.move rfl) rfl ?_; clear hA a; intro a hA
  replace hM := hM.front (k := 3) rfl
  replace hM := hM.front (k := 3) rfl
  replace hM := hM.front (k := 3) rfl
  replace hM := hM.front (k := 6) rfl
  replace hM : Mem _ _ [own 3 1 (.slice a12 ((([2] : List Int)).length) c13) ((([2] : List Int)).length) ((([2] : List Int)).map (Value.int .i64)), pt pl6 #[.slice a12 ((([2] : List Int)).length) c13, .slice none 0 0, .slice none 0 0, .slice none 0 0, .slice a7 ((([1] : List Int)).length) c8] 43, pt q3 #[.pointer (some ⟨m4, 0, none⟩), .int .i64 1, .int .i64 2, .slice (some ⟨pl6, 0, none⟩) 5 5] 119, memO m4 c5 [0, 7 * 64 + 0, 0] 4 ⟨1, 1, 7 * 64 + 0, 7 * 64 + 0, true⟩, pt p16 #[.pointer (some ⟨q3, 0, none⟩), .int .i64 1, .slice a17 ((([3] : List Int)).length) c18, .int .i64 8, .bool true, .int .i64 (7 * 64 + 0), .bool true, .bool false] 124, pt p11 #[.pointer (some ⟨q3, 0, none⟩), .int .i64 0, .slice a12 ((([2] : List Int)).length) c13, .int .i64 7, .bool false, .int .i64 (9 * 64 + 4), .bool true, .bool true] 124, own 3 1 (.slice a17 ((([3] : List Int)).length) c18) ((([3] : List Int)).length) ((([3] : List Int)).map (Value.int .i64)), own 3 1 (.slice a7 ((([1] : List Int)).length) c8) ((([1] : List Int)).length) ((([1] : List Int)).map (Value.int .i64))] _ := hM
  refine S.call hA (R.callF Try.func30 rfl rfl rfl) rfl (ibest_ok q3 pl6 5 2 ([.slice a12 ((([2] : List Int)).length) c13, .slice none 0 0, .slice none 0 0, .slice none 0 0, .slice a7 ((([1] : List Int)).length) c8]) a12 (([2] : List Int)) c13 m4 c5 4 ⟨1, 1, 7 * 64 + 0, 7 * 64 + 0, true⟩ hm4c5 7 0 (by first | omega | decide | (simp; done) | (simp; omega)) (by first | omega | decide | (simp; done) | (simp; omega)) (by first | omega | decide | (simp; done) | (simp; omega)) (by first | omega | decide | (simp; done) | (simp; omega)) rfl _ (hM.hereN 4)) ?_; clear hA a
  rintro e w11 ⟨a19, c20, rfl, hn⟩
  replace hM : Mem _ _ [own 3 1 (.slice a19 ((([2] : List Int)).length) c20) ((([2] : List Int)).length) ((([2] : List Int)).map (Value.int .i64)), own 3 1 (.slice a12 ((([2] : List Int)).length) c13) ((([2] : List Int)).length) ((([2] : List Int)).map (Value.int .i64)), pt pl6 #[.slice a12 ((([2] : List Int)).length) c13, .slice none 0 0, .slice none 0 0, .slice none 0 0, .slice a7 ((([1] : List Int)).length) c8] 43, pt q3 #[.pointer (some ⟨m4, 0, none⟩), .int .i64 1, .int .i64 2, .slice (some ⟨pl6, 0, none⟩) 5 5] 119, memO m4 c5 [0, 7 * 64 + 0, 0] 4 ⟨1, 1, 7 * 64 + 0, 7 * 64 + 0, true⟩, pt p16 #[.pointer (some ⟨q3, 0, none⟩), .int .i64 1, .slice a17 ((([3] : List Int)).length) c18, .int .i64 8, .bool true, .int .i64 (7 * 64 + 0), .bool true, .bool false] 124, pt p11 #[.pointer (some ⟨q3, 0, none⟩), .int .i64 0, .slice a12 ((([2] : List Int)).length) c13, .int .i64 7, .bool false, .int .i64 (9 * 64 + 4), .bool true, .bool true] 124, own 3 1 (.slice a17 ((([3] : List Int)).length) c18) ((([3] : List Int)).length) ((([3] : List Int)).map (Value.int .i64)), own 3 1 (.slice a7 ((([1] : List Int)).length) c8) ((([1] : List Int)).length) ((([1] : List Int)).map (Value.int .i64))] _ := hM.callL 4 hn; clear hn
  refine ⟨.tuple #[.slice a19 ((([2] : List Int)).length) c20, .int .i64 7], rfl, fun a hA => ?_⟩
  refine S.val hA (R.move rfl) rfl ?_; clear hA a; intro a hA
  refine S.val hA (R.extract (v := .slice a19 ((([2] : List Int)).length) c20) rfl rfl) rfl ?_; clear hA a; intro a hA
  refine S.val hA (R.extract (v := .int .i64 7) rfl rfl) rfl ?_; clear hA a; intro a hA
  refine S.val hA (R.assign rfl) rfl ?_; clear hA a; intro a hA
  refine S.val hA (R.assign rfl) rfl ?_; clear hA a; intro a hA
  refine S.done ?_
  replace hA : St 56 [(0, _), (1, _), (6, _), (7, _)] a := hA.sub ((.cons rfl (.cons rfl (.cons rfl (.cons rfl .nil)))))
  refine Ends.seq ?_
  refine Ends.region ?_
  refine S.val hA (R.move rfl) rfl ?_; clear hA a; intro a hA
  refine S.val hA (R.tt (R.eql rfl rfl) (by first | decide | simp | omega)) rfl ?_; clear hA a; intro a hA
  refine S.val hA (R.move rfl) rfl ?_; clear hA a; intro a hA
  refine S.valg (dj := 46) hA (by kernel_rfl) rfl (R.move rfl) rfl ?_; clear hA a; intro a hA
  refine S.buildSlg (dj := 46) (cells := #[.int .i64 2]) hA hM (by kernel_rfl) rfl Try.underlying43 info3 rfl rfl rfl rfl (by kernel_rfl) rfl ?_; clear hA hM a; intro b21 w12 hb22 hM a hA
  replace hM : Mem _ _ [pt b21 #[.int .i64 2] 3, own 3 1 (.slice a19 ((([2] : List Int)).length) c20) ((([2] : List Int)).length) ((([2] : List Int)).map (Value.int .i64)), own 3 1 (.slice a12 ((([2] : List Int)).length) c13) ((([2] : List Int)).length) ((([2] : List Int)).map (Value.int .i64)), pt pl6 #[.slice a12 ((([2] : List Int)).length) c13, .slice none 0 0, .slice none 0 0, .slice none 0 0, .slice a7 ((([1] : List Int)).length) c8] 43, pt q3 #[.pointer (some ⟨m4, 0, none⟩), .int .i64 1, .int .i64 2, .slice (some ⟨pl6, 0, none⟩) 5 5] 119, memO m4 c5 [0, 7 * 64 + 0, 0] 4 ⟨1, 1, 7 * 64 + 0, 7 * 64 + 0, true⟩, pt p16 #[.pointer (some ⟨q3, 0, none⟩), .int .i64 1, .slice a17 ((([3] : List Int)).length) c18, .int .i64 8, .bool true, .int .i64 (7 * 64 + 0), .bool true, .bool false] 124, pt p11 #[.pointer (some ⟨q3, 0, none⟩), .int .i64 0, .slice a12 ((([2] : List Int)).length) c13, .int .i64 7, .bool false, .int .i64 (9 * 64 + 4), .bool true, .bool true] 124, own 3 1 (.slice a17 ((([3] : List Int)).length) c18) ((([3] : List Int)).length) ((([3] : List Int)).map (Value.int .i64)), own 3 1 (.slice a7 ((([1] : List Int)).length) c8) ((([1] : List Int)).length) ((([1] : List Int)).map (Value.int .i64))] _ := hM
  replace hM := hM.ownPt (cap := 1) (n := 1) (sz := 1) (xs := [.int .i64 2]) rfl (by decide) (by decide) rfl
  replace hM : Mem _ _ [own 3 1 (.slice (some ⟨b21, 0, none⟩) ((([2] : List Int)).length) 1) ((([2] : List Int)).length) ((([2] : List Int)).map (Value.int .i64)), own 3 1 (.slice a19 ((([2] : List Int)).length) c20) ((([2] : List Int)).length) ((([2] : List Int)).map (Value.int .i64)), own 3 1 (.slice a12 ((([2] : List Int)).length) c13) ((([2] : List Int)).length) ((([2] : List Int)).map (Value.int .i64)), pt pl6 #[.slice a12 ((([2] : List Int)).length) c13, .slice none 0 0, .slice none 0 0, .slice none 0 0, .slice a7 ((([1] : List Int)).length) c8] 43, pt q3 #[.pointer (some ⟨m4, 0, none⟩), .int .i64 1, .int .i64 2, .slice (some ⟨pl6, 0, none⟩) 5 5] 119, memO m4 c5 [0, 7 * 64 + 0, 0] 4 ⟨1, 1, 7 * 64 + 0, 7 * 64 + 0, true⟩, pt p16 #[.pointer (some ⟨q3, 0, none⟩), .int .i64 1, .slice a17 ((([3] : List Int)).length) c18, .int .i64 8, .bool true, .int .i64 (7 * 64 + 0), .bool true, .bool false] 124, pt p11 #[.pointer (some ⟨q3, 0, none⟩), .int .i64 0, .slice a12 ((([2] : List Int)).length) c13, .int .i64 7, .bool false, .int .i64 (9 * 64 + 4), .bool true, .bool true] 124, own 3 1 (.slice a17 ((([3] : List Int)).length) c18) ((([3] : List Int)).length) ((([3] : List Int)).map (Value.int .i64)), own 3 1 (.slice a7 ((([1] : List Int)).length) c8) ((([1] : List Int)).length) ((([1] : List Int)).map (Value.int .i64))] _ := hM
  refine S.callg (dj := 46) hA (by kernel_rfl) rfl (R.callF Try.func40 rfl rfl rfl) rfl (same09 (.slice a19 ((([2] : List Int)).length) c20) (.slice (some ⟨b21, 0, none⟩) ((([2] : List Int)).length) 1) (([2] : List Int)) (([2] : List Int)) _ (hM.intSl (k := 1) rfl) (hM.intSl (k := 0) rfl)) ?_; clear hA a
  rintro e w13 ⟨rfl, hb⟩
  replace hM := hM.callB hb; clear hb
  refine ⟨.bool true, rfl, fun a hA => ?_⟩
  refine S.val hA (R.pickT rfl rfl) rfl ?_; clear hA a; intro a hA
  refine S.val hA (R.move rfl) rfl ?_; clear hA a; intro a hA
  refine S.valg (dj := 51) hA (by kernel_rfl) rfl (R.move rfl) rfl ?_; clear hA a; intro a hA
  replace hM := hM.front (k := 5) rfl
  replace hM := hM.front (k := 5) rfl
  replace hM : Mem _ _ [pt q3 #[.pointer (some ⟨m4, 0, none⟩), .int .i64 1, .int .i64 2, .slice (some ⟨pl6, 0, none⟩) 5 5] 119, memO m4 c5 [0, 7 * 64 + 0, 0] 4 ⟨1, 1, 7 * 64 + 0, 7 * 64 + 0, true⟩, own 3 1 (.slice (some ⟨b21, 0, none⟩) ((([2] : List Int)).length) 1) ((([2] : List Int)).length) ((([2] : List Int)).map (Value.int .i64)), own 3 1 (.slice a19 ((([2] : List Int)).length) c20) ((([2] : List Int)).length) ((([2] : List Int)).map (Value.int .i64)), own 3 1 (.slice a12 ((([2] : List Int)).length) c13) ((([2] : List Int)).length) ((([2] : List Int)).map (Value.int .i64)), pt pl6 #[.slice a12 ((([2] : List Int)).length) c13, .slice none 0 0, .slice none 0 0, .slice none 0 0, .slice a7 ((([1] : List Int)).length) c8] 43, pt p16 #[.pointer (some ⟨q3, 0, none⟩), .int .i64 1, .slice a17 ((([3] : List Int)).length) c18, .int .i64 8, .bool true, .int .i64 (7 * 64 + 0), .bool true, .bool false] 124, pt p11 #[.pointer (some ⟨q3, 0, none⟩), .int .i64 0, .slice a12 ((([2] : List Int)).length) c13, .int .i64 7, .bool false, .int .i64 (9 * 64 + 4), .bool true, .bool true] 124, own 3 1 (.slice a17 ((([3] : List Int)).length) c18) ((([3] : List Int)).length) ((([3] : List Int)).map (Value.int .i64)), own 3 1 (.slice a7 ((([1] : List Int)).length) c8) ((([1] : List Int)).length) ((([1] : List Int)).map (Value.int .i64))] _ := hM
  refine S.callg (dj := 51) hA (by kernel_rfl) rfl (R.callF Try.func32 rfl rfl rfl) rfl (ilook_ok q3 pl6 5 1 2 m4 c5 [0, 7 * 64 + 0, 0] 4 ⟨1, 1, 7 * 64 + 0, 7 * 64 + 0, true⟩ hm4c5 (by first | omega | decide | (simp; done) | (simp; omega)) (by first | omega | decide | (simp; done) | (simp; omega)) (by first | omega | decide | (simp; done) | (simp; omega)) 7 0 (by first | omega | decide | (simp; done) | (simp; omega)) rfl _ (hM.hereN 2)) ?_; clear hA a
  rintro e w14 ⟨rfl, hn⟩
  replace hM : Mem _ _ [pt q3 #[.pointer (some ⟨m4, 0, none⟩), .int .i64 1, .int .i64 2, .slice (some ⟨pl6, 0, none⟩) 5 5] 119, memO m4 c5 [0, 7 * 64 + 0, 0] 5 ⟨1, 1, 7 * 64 + 0, 7 * 64 + 0, true⟩, own 3 1 (.slice (some ⟨b21, 0, none⟩) ((([2] : List Int)).length) 1) ((([2] : List Int)).length) ((([2] : List Int)).map (Value.int .i64)), own 3 1 (.slice a19 ((([2] : List Int)).length) c20) ((([2] : List Int)).length) ((([2] : List Int)).map (Value.int .i64)), own 3 1 (.slice a12 ((([2] : List Int)).length) c13) ((([2] : List Int)).length) ((([2] : List Int)).map (Value.int .i64)), pt pl6 #[.slice a12 ((([2] : List Int)).length) c13, .slice none 0 0, .slice none 0 0, .slice none 0 0, .slice a7 ((([1] : List Int)).length) c8] 43, pt p16 #[.pointer (some ⟨q3, 0, none⟩), .int .i64 1, .slice a17 ((([3] : List Int)).length) c18, .int .i64 8, .bool true, .int .i64 (7 * 64 + 0), .bool true, .bool false] 124, pt p11 #[.pointer (some ⟨q3, 0, none⟩), .int .i64 0, .slice a12 ((([2] : List Int)).length) c13, .int .i64 7, .bool false, .int .i64 (9 * 64 + 4), .bool true, .bool true] 124, own 3 1 (.slice a17 ((([3] : List Int)).length) c18) ((([3] : List Int)).length) ((([3] : List Int)).map (Value.int .i64)), own 3 1 (.slice a7 ((([1] : List Int)).length) c8) ((([1] : List Int)).length) ((([1] : List Int)).map (Value.int .i64))] _ := hM.callL 2 hn; clear hn
  refine ⟨.int .i64 7, rfl, fun a hA => ?_⟩
  refine S.valg (dj := 51) hA (by kernel_rfl) rfl (R.tt (R.eql rfl rfl) (by first | decide | simp | omega)) rfl ?_; clear hA a; intro a hA
  refine S.val hA (R.pickT rfl rfl) rfl ?_; clear hA a; intro a hA
  refine S.val hA (R.assign rfl) rfl ?_; clear hA a; intro a hA
  refine S.done ?_
  replace hA : St 56 [(0, _)] a := hA.sub ((.cons rfl .nil))
  refine Ends.ret1 Try.func31 Try.results31 hA rfl ?_
  exact ⟨rfl, hM.nilL.below⟩
set_option maxRecDepth 100000 in
set_option maxHeartbeats 400000 in
theorem fine22_yes (co : Int) (h : 0 ≤ co ∧ co ≤ 1125899906842624) (w : World) :
    Calls Try.prog 37 #[.int .i64 co] w fun e w' => e = .returned (.bool true) ∧ w = w' := by
  have hM := Mem.start w
  refine Calls.of_ends (vs := [.int .i64 co]) Try.func37 rfl Try.ntmps37 rfl ?_
  intro a hA
  replace hA : St 9 [(0, _)] a := hA
  refine Ends.seq ?_
  refine Ends.region ?_
  refine S.val hA (R.assign rfl) rfl ?_; clear hA a; intro a hA
  refine S.done ?_
  replace hA : St 9 [(0, _), (2, _)] a := hA.sub ((.cons rfl (.cons rfl .nil)))
  refine Ends.seq ?_
  refine Ends.region ?_
  refine S.val hA (R.move rfl) rfl ?_; clear hA a; intro a hA
  refine S.val hA (R.tt (R.geq rfl rfl) (by omega)) rfl ?_; clear hA a; intro a hA
  refine S.val hA (R.move rfl) rfl ?_; clear hA a; intro a hA
  refine S.valg (dj := 5) hA (by kernel_rfl) rfl (R.move rfl) rfl ?_; clear hA a; intro a hA
  refine S.valg (dj := 5) hA (by kernel_rfl) rfl (R.tt (R.leq rfl rfl) (by omega)) rfl ?_; clear hA a; intro a hA
  refine S.val hA (R.pickT rfl rfl) rfl ?_; clear hA a; intro a hA
  refine S.val hA (R.assign rfl) rfl ?_; clear hA a; intro a hA
  refine S.done ?_
  replace hA : St 9 [(2, _)] a := hA.sub ((.cons rfl .nil))
  refine Ends.ret1 Try.func37 Try.results37 hA rfl ?_
  exact ⟨rfl, rfl⟩
set_option maxRecDepth 100000 in
set_option maxHeartbeats 400000 in
theorem fine22_no (co : Int) (w : World) :
    Calls Try.prog 37 #[.int .i64 co] w fun e w' => e = .returned (.bool (decide (0 ≤ co ∧ co ≤ 1125899906842624))) ∧ Below w.heap.size w w' := by
  have hM := Mem.start w
  refine Calls.of_ends (vs := [.int .i64 co]) Try.func37 rfl Try.ntmps37 rfl ?_
  intro a hA
  replace hA : St 9 [(0, _)] a := hA
  refine Ends.seq ?_
  refine Ends.region ?_
  refine S.val hA (R.assign rfl) rfl ?_; clear hA a; intro a hA
  refine S.done ?_
  replace hA : St 9 [(0, _), (2, _)] a := hA.sub ((.cons rfl (.cons rfl .nil)))
  refine Ends.seq ?_
  refine Ends.cut (fun (a : Act) (wv : World) => St 9 [(2, .bool (decide ((0 ≤ co ∧ co ≤ 1125899906842624))))] a ∧ Mem w nof [] wv) ?_ (fun k2 hJ => ?_)
  · clear hA hM a; rintro a w1 ⟨hA, hM⟩
    refine Ends.ret1 Try.func37 Try.results37 hA rfl ?_
    exact ⟨rfl, hM.nilL.below⟩
  ·
    refine Ends.region ?_
    refine S.val hA (R.move rfl) rfl ?_; clear hA a; intro a hA
    refine S.val hA (R.geq rfl rfl) rfl ?_; clear hA a; intro a hA
    refine S.val hA (R.move rfl) rfl ?_; clear hA a; intro a hA
    refine hA.split (d := 5) rfl ?_ ?_
    · clear hA; intro hg1 hA
      refine S.valg (dj := 5) hA (by kernel_rfl) rfl (R.move rfl) rfl ?_; clear hA a; intro a hA
      refine S.valg (dj := 5) hA (by kernel_rfl) rfl (R.leq rfl rfl) rfl ?_; clear hA a; intro a hA
      refine S.val hA (R.pickT rfl rfl) rfl ?_; clear hA a; intro a hA
      refine S.val hA (R.assign rfl) rfl ?_; clear hA a; intro a hA
      refine S.done ?_
      replace hA : St 9 [(2, _)] a := hA.sub ((.cons rfl .nil))
      exact hJ _ _ ⟨hA.sub (.cons (by first | rfl | exact congrArg (fun b => some (Value.bool b)) (by simp [hg1])) .nil), hM⟩
    · clear hA; intro hg1 hA
      refine S.no (dj := 5) hA (by kernel_rfl) rfl rfl rfl ?_; clear hA a; intro a hA
      refine S.no (dj := 5) hA (by kernel_rfl) rfl rfl rfl ?_; clear hA a; intro a hA
      refine S.val hA (R.pickF rfl rfl) rfl ?_; clear hA a; intro a hA
      refine S.val hA (R.assign rfl) rfl ?_; clear hA a; intro a hA
      refine S.done ?_
      replace hA : St 9 [(2, _)] a := hA.sub ((.cons rfl .nil))
      exact hJ _ _ ⟨hA.sub (.cons (by first | rfl | exact congrArg (fun b => some (Value.bool b)) (by simp [hg1])) .nil), hM⟩
set_option maxRecDepth 100000 in
set_option maxHeartbeats 400000 in
theorem incNews_yes (ix wk co : Int) (h : 0 ≤ ix ∧ ix ≤ 2 ∧ 1 ≤ wk ∧ wk ≤ 16 ∧ 0 ≤ co ∧ co ≤ 1125899906842624) (w : World) :
    Calls Try.prog 6 #[.int .i64 ix, .int .i64 wk, .int .i64 co] w fun e w' => e = .returned (.bool true) ∧ Below w.heap.size w w' := by
  have hM := Mem.start w
  have hv0 : ([0, 0, 0].set ix.toNat (co * 64 + 2 * wk)).getD ix.toNat 0 = co * 64 + 2 * wk := by rw [List.getD_eq_getElem?_getD, List.getElem?_set_self (by simp; omega), Option.getD_some]
  refine Calls.of_ends (vs := [.int .i64 ix, .int .i64 wk, .int .i64 co]) Try.func6 rfl Try.ntmps6 rfl ?_
  intro a hA
  replace hA : St 134 [(0, _), (1, _), (2, _)] a := hA
  refine Ends.seq ?_
  refine Ends.region ?_
  refine S.val hA (R.assign rfl) rfl ?_; clear hA a; intro a hA
  refine S.done ?_
  replace hA : St 134 [(0, _), (1, _), (2, _), (6, _)] a := hA.sub ((.cons rfl (.cons rfl (.cons rfl (.cons rfl .nil)))))
  refine Ends.seq ?_
  refine Ends.region ?_
  refine S.call hA (R.callF Try.func20 rfl rfl rfl) rfl (new_ok 3 (by omega) (by omega) _) ?_; clear hA a
  rintro e w1 ⟨m1, c2, rfl, hm1c2, hn⟩
  replace hM : Mem _ _ [memO m1 c2 [0, 0, 0] 0 ⟨0, 0, 0, 0, false⟩] _ := hM.call hn; clear hn
  refine ⟨.tuple #[.pointer (some ⟨m1, 0, none⟩), .int .i64 0], rfl, fun a hA => ?_⟩
  refine S.val hA (R.move rfl) rfl ?_; clear hA a; intro a hA
  refine S.val hA (R.extract (v := .pointer (some ⟨m1, 0, none⟩)) rfl rfl) rfl ?_; clear hA a; intro a hA
  refine S.val hA (R.extract (v := .int .i64 0) rfl rfl) rfl ?_; clear hA a; intro a hA
  refine S.val hA (R.assign rfl) rfl ?_; clear hA a; intro a hA
  refine S.val hA (R.assign rfl) rfl ?_; clear hA a; intro a hA
  refine S.done ?_
  replace hA : St 134 [(0, _), (1, _), (2, _), (6, _), (7, _), (8, _)] a := hA.sub ((.cons rfl (.cons rfl (.cons rfl (.cons rfl (.cons rfl (.cons rfl .nil)))))))
  refine Ends.seq ?_
  refine Ends.region ?_
  refine S.val hA (R.move rfl) rfl ?_; clear hA a; intro a hA
  refine S.val hA (R.move rfl) rfl ?_; clear hA a; intro a hA
  refine S.val hA (R.move rfl) rfl ?_; clear hA a; intro a hA
  refine S.val hA (R.move rfl) rfl ?_; clear hA a; intro a hA
  replace hM := hM.ownNil 3 1
  replace hM : Mem _ _ [own 3 1 (.slice none ((([] : List Int)).length) 0) ((([] : List Int)).length) ((([] : List Int)).map (Value.int .i64)), memO m1 c2 [0, 0, 0] 0 ⟨0, 0, 0, 0, false⟩] _ := hM
  refine S.call hA (R.callF Try.func28 rfl rfl rfl) rfl (inew_ok m1 c2 [0, 0, 0] 0 ⟨0, 0, 0, 0, false⟩ hm1c2 ix wk co none (([] : List Int)) 0 (by first | omega | decide | (simp; done) | (simp; omega)) (by first | omega | decide | (simp; done) | (simp; omega)) (by first | omega | decide | (simp; done) | (simp; omega)) (by first | omega | decide | (simp; done) | (simp; omega)) (by first | omega | decide | (simp; done) | (simp; omega)) (by first | omega | decide | (simp; done) | (simp; omega)) _ (hM.hereN 2)) ?_; clear hA a
  rintro e w2 ⟨q3, pl4, a5, c6, rfl, hn⟩
  replace hM : Mem _ _ [pt q3 #[.pointer (some ⟨m1, 0, none⟩), .int .i64 ix, .int .i64 wk, .slice (some ⟨pl4, 0, none⟩) ((2 * wk + 1).toNat) ((2 * wk + 1).toNat)] 119, pt pl4 ((vals ((nils (2 * wk + 1).toNat).set (2 * wk).toNat (.slice a5 ((([] : List Int)).length) c6)))) 43, own 3 1 (.slice a5 ((([] : List Int)).length) c6) ((([] : List Int)).length) ((([] : List Int)).map (Value.int .i64)), memO m1 c2 (([0, 0, 0].set ix.toNat (co * 64 + 2 * wk))) 1 ⟨2, ix, [0, 0, 0].getD ix.toNat 0, co * 64 + 2 * wk, true⟩] _ := hM.callL 2 hn; clear hn
  refine ⟨.tuple #[.pointer (some ⟨q3, 0, none⟩), .int .i64 0], rfl, fun a hA => ?_⟩
  refine S.val hA (R.move rfl) rfl ?_; clear hA a; intro a hA
  refine S.val hA (R.extract (v := .pointer (some ⟨q3, 0, none⟩)) rfl rfl) rfl ?_; clear hA a; intro a hA
  refine S.val hA (R.extract (v := .int .i64 0) rfl rfl) rfl ?_; clear hA a; intro a hA
  refine S.val hA (R.assign rfl) rfl ?_; clear hA a; intro a hA
  refine S.val hA (R.assign rfl) rfl ?_; clear hA a; intro a hA
  refine S.done ?_
  replace hA : St 134 [(0, _), (1, _), (2, _), (6, _), (8, _), (9, _), (10, _)] a := hA.sub ((.cons rfl (.cons rfl (.cons rfl (.cons rfl (.cons rfl (.cons rfl (.cons rfl .nil))))))))
  refine Ends.seq ?_
  refine Ends.region ?_
  refine S.call hA (R.callF Try.func28 rfl rfl rfl) rfl (inew_nil 0 1 0 _) ?_; clear hA a
  rintro e w3 ⟨rfl, rfl⟩
  refine ⟨.tuple #[.pointer none, .int .i64 1], rfl, fun a hA => ?_⟩
  refine S.val hA (R.move rfl) rfl ?_; clear hA a; intro a hA
  refine S.val hA (R.extract (v := .pointer none) rfl rfl) rfl ?_; clear hA a; intro a hA
  refine S.val hA (R.extract (v := .int .i64 1) rfl rfl) rfl ?_; clear hA a; intro a hA
  refine S.val hA (R.assign rfl) rfl ?_; clear hA a; intro a hA
  refine S.val hA (R.assign rfl) rfl ?_; clear hA a; intro a hA
  refine S.done ?_
  replace hA : St 134 [(0, _), (1, _), (2, _), (6, _), (8, _), (9, _), (10, _), (12, _)] a := hA.sub ((.cons rfl (.cons rfl (.cons rfl (.cons rfl (.cons rfl (.cons rfl (.cons rfl (.cons rfl .nil)))))))))
  refine Ends.seq ?_
  refine Ends.region ?_
  refine S.call hA (R.callF Try.func29 rfl rfl rfl) rfl (inone_any _) ?_; clear hA a
  rintro e w4 ⟨rfl, rfl⟩
  refine ⟨.pointer none, rfl, fun a hA => ?_⟩
  refine S.call hA (R.callF Try.func30 rfl rfl rfl) rfl (ibest_nil _) ?_; clear hA a
  rintro e w5 ⟨rfl, rfl⟩
  refine ⟨.tuple #[.slice none 0 0, .int .i64 0], rfl, fun a hA => ?_⟩
  refine S.val hA (R.move rfl) rfl ?_; clear hA a; intro a hA
  refine S.val hA (R.extract (v := .slice none 0 0) rfl rfl) rfl ?_; clear hA a; intro a hA
  refine S.val hA (R.extract (v := .int .i64 0) rfl rfl) rfl ?_; clear hA a; intro a hA
  refine S.val hA (R.assign rfl) rfl ?_; clear hA a; intro a hA
  refine S.val hA (R.assign rfl) rfl ?_; clear hA a; intro a hA
  refine S.done ?_
  replace hA : St 134 [(0, _), (1, _), (2, _), (6, _), (8, _), (9, _), (10, _), (12, _), (13, _), (14, _)] a := hA.sub ((.cons rfl (.cons rfl (.cons rfl (.cons rfl (.cons rfl (.cons rfl (.cons rfl (.cons rfl (.cons rfl (.cons rfl .nil)))))))))))
  refine Ends.seq ?_
  refine Ends.region ?_
  refine S.val hA (R.assign rfl) rfl ?_; clear hA a; intro a hA
  refine S.done ?_
  replace hA : St 134 [(0, _), (1, _), (2, _), (6, _), (8, _), (9, _), (10, _), (12, _), (13, _), (14, _), (15, _)] a := hA.sub ((.cons rfl (.cons rfl (.cons rfl (.cons rfl (.cons rfl (.cons rfl (.cons rfl (.cons rfl (.cons rfl (.cons rfl (.cons rfl .nil))))))))))))
  refine Ends.seq ?_
  refine Ends.seq ?_
  refine Ends.region ?_
  refine S.call hA (R.callF Try.func31 rfl rfl rfl) rfl (iincs_any _) ?_; clear hA a
  rintro e w6 ⟨rfl, hb⟩
  replace hM := hM.callB hb; clear hb
  refine ⟨.bool true, rfl, fun a hA => ?_⟩
  refine S.val hA (R.not rfl) rfl ?_; clear hA a; intro a hA
  refine S.val hA (R.move rfl) rfl ?_; clear hA a; intro a hA
  refine S.valg (dj := 39) hA (by kernel_rfl) rfl (R.move rfl) rfl ?_; clear hA a; intro a hA
  refine S.valg (dj := 39) hA (by kernel_rfl) rfl (R.ff (R.neq rfl rfl) (by first | decide | simp | omega)) rfl ?_; clear hA a; intro a hA
  refine S.val hA (R.pickF rfl rfl) rfl ?_; clear hA a; intro a hA
  refine S.val hA (R.move rfl) rfl ?_; clear hA a; intro a hA
  refine S.valg (dj := 43) hA (by kernel_rfl) rfl (R.move rfl) rfl ?_; clear hA a; intro a hA
  refine S.valg (dj := 43) hA (by kernel_rfl) rfl (R.ff (R.neq rfl rfl) (by first | decide | simp | omega)) rfl ?_; clear hA a; intro a hA
  refine S.val hA (R.pickF rfl rfl) rfl ?_; clear hA a; intro a hA
  refine S.val hA (R.move rfl) rfl ?_; clear hA a; intro a hA
  refine S.callg (dj := 47) hA (by kernel_rfl) rfl (R.callF Try.func29 rfl rfl rfl) rfl (inone_any _) ?_; clear hA a
  rintro e w7 ⟨rfl, rfl⟩
  refine ⟨.pointer none, rfl, fun a hA => ?_⟩
  refine S.callg (dj := 47) hA (by kernel_rfl) rfl (R.callF Try.func32 rfl rfl rfl) rfl (ilook_nil _) ?_; clear hA a
  rintro e w8 ⟨rfl, rfl⟩
  refine ⟨.int .i64 0, rfl, fun a hA => ?_⟩
  refine S.valg (dj := 47) hA (by kernel_rfl) rfl (R.ff (R.neq rfl rfl) (by first | decide | simp | omega)) rfl ?_; clear hA a; intro a hA
  refine S.val hA (R.pickF rfl rfl) rfl ?_; clear hA a; intro a hA
  refine S.val hA (R.move rfl) rfl ?_; clear hA a; intro a hA
  refine S.valg (dj := 52) hA (by kernel_rfl) rfl (R.move rfl) rfl ?_; clear hA a; intro a hA
  refine S.valg (dj := 52) hA (by kernel_rfl) rfl (R.lenS Try.underlying43 rfl rfl) rfl ?_; clear hA a; intro a hA
  refine S.valg (dj := 52) hA (by kernel_rfl) rfl (R.ff (R.neq rfl rfl) (by first | decide | simp | omega)) rfl ?_; clear hA a; intro a hA
  refine S.val hA (R.pickF rfl rfl) rfl ?_; clear hA a; intro a hA
  refine S.val hA (R.move rfl) rfl ?_; clear hA a; intro a hA
  refine S.valg (dj := 57) hA (by kernel_rfl) rfl (R.move rfl) rfl ?_; clear hA a; intro a hA
  refine S.valg (dj := 57) hA (by kernel_rfl) rfl (R.ff (R.neq rfl rfl) (by first | decide | simp | omega)) rfl ?_; clear hA a; intro a hA
  refine S.val hA (R.pickF rfl rfl) rfl ?_; clear hA a; intro a hA
  refine S.val hA (R.move rfl) rfl ?_; clear hA a; intro a hA
  refine S.callg (dj := 61) hA (by kernel_rfl) rfl (R.callF Try.func29 rfl rfl rfl) rfl (inone_any _) ?_; clear hA a
  rintro e w9 ⟨rfl, rfl⟩
  refine ⟨.pointer none, rfl, fun a hA => ?_⟩
  refine S.callg (dj := 61) hA (by kernel_rfl) rfl (R.callF Try.func33 rfl rfl rfl) rfl (ioffer_nil 0 0 _) ?_; clear hA a
  rintro e w10 ⟨rfl, rfl⟩
  refine ⟨.pointer none, rfl, fun a hA => ?_⟩
  refine S.valg (dj := 61) hA (by kernel_rfl) rfl (R.neqNil Try.underlying54 rfl rfl) rfl ?_; clear hA a; intro a hA
  refine S.val hA (R.pickF rfl rfl) rfl ?_; clear hA a; intro a hA
  refine S.val hA (R.move rfl) rfl ?_; clear hA a; intro a hA
  refine S.valg (dj := 66) hA (by kernel_rfl) rfl (R.move rfl) rfl ?_; clear hA a; intro a hA
  refine S.callg (dj := 66) hA (by kernel_rfl) rfl (R.callF Try.func34 rfl rfl rfl) rfl (iact_over_nil _) ?_; clear hA a
  rintro e w11 ⟨rfl, rfl⟩
  refine ⟨.bool true, rfl, fun a hA => ?_⟩
  refine S.valg (dj := 66) hA (by kernel_rfl) rfl (R.not rfl) rfl ?_; clear hA a; intro a hA
  refine S.val hA (R.pickF rfl rfl) rfl ?_; clear hA a; intro a hA
  refine S.val hA (R.move rfl) rfl ?_; clear hA a; intro a hA
  refine S.valg (dj := 71) hA (by kernel_rfl) rfl (R.move rfl) rfl ?_; clear hA a; intro a hA
  refine S.callg (dj := 71) hA (by kernel_rfl) rfl (R.callF Try.func35 rfl rfl rfl) rfl (istep_nil _) ?_; clear hA a
  rintro e w12 ⟨rfl, rfl⟩
  refine ⟨.bool true, rfl, fun a hA => ?_⟩
  refine S.valg (dj := 71) hA (by kernel_rfl) rfl (R.not rfl) rfl ?_; clear hA a; intro a hA
  refine S.val hA (R.pickF rfl rfl) rfl ?_; clear hA a; intro a hA
  refine S.val hA (R.move rfl) rfl ?_; clear hA a; intro a hA
  refine S.valg (dj := 76) hA (by kernel_rfl) rfl (R.move rfl) rfl ?_; clear hA a; intro a hA
  refine S.callg (dj := 76) hA (by kernel_rfl) rfl (R.callF Try.func36 rfl rfl rfl) rfl (iact_taken_nil _) ?_; clear hA a
  rintro e w13 ⟨rfl, rfl⟩
  refine ⟨.bool false, rfl, fun a hA => ?_⟩
  refine S.val hA (R.pickF rfl rfl) rfl ?_; clear hA a; intro a hA
  refine S.done ?_
  replace hA : St 134 [(0, _), (1, _), (2, _), (6, _), (9, _), (10, _), (79, _)] a := hA.sub ((.cons rfl (.cons rfl (.cons rfl (.cons rfl (.cons rfl (.cons rfl (.cons rfl .nil))))))))
  refine Ends.condF hA rfl ?_
  refine Ends.skip ?_
  refine Ends.seq ?_
  refine Ends.seq ?_
  refine Ends.region ?_
  refine S.val hA (R.move rfl) rfl ?_; clear hA a; intro a hA
  refine S.val hA (R.ff (R.lss rfl rfl) (by omega)) rfl ?_; clear hA a; intro a hA
  refine S.val hA (R.move rfl) rfl ?_; clear hA a; intro a hA
  refine S.valg (dj := 82) hA (by kernel_rfl) rfl (R.move rfl) rfl ?_; clear hA a; intro a hA
  refine S.valg (dj := 82) hA (by kernel_rfl) rfl (R.ff (R.gtr rfl rfl) (by omega)) rfl ?_; clear hA a; intro a hA
  refine S.val hA (R.pickF rfl rfl) rfl ?_; clear hA a; intro a hA
  refine S.val hA (R.move rfl) rfl ?_; clear hA a; intro a hA
  refine S.valg (dj := 86) hA (by kernel_rfl) rfl (R.move rfl) rfl ?_; clear hA a; intro a hA
  refine S.valg (dj := 86) hA (by kernel_rfl) rfl (R.ff (R.lss rfl rfl) (by omega)) rfl ?_; clear hA a; intro a hA
  refine S.val hA (R.pickF rfl rfl) rfl ?_; clear hA a; intro a hA
  refine S.val hA (R.move rfl) rfl ?_; clear hA a; intro a hA
  refine S.valg (dj := 90) hA (by kernel_rfl) rfl (R.move rfl) rfl ?_; clear hA a; intro a hA
  refine S.valg (dj := 90) hA (by kernel_rfl) rfl (R.ff (R.gtr rfl rfl) (by omega)) rfl ?_; clear hA a; intro a hA
  refine S.val hA (R.pickF rfl rfl) rfl ?_; clear hA a; intro a hA
  refine S.val hA (R.move rfl) rfl ?_; clear hA a; intro a hA
  refine S.valg (dj := 94) hA (by kernel_rfl) rfl (R.move rfl) rfl ?_; clear hA a; intro a hA
  refine S.callg (dj := 94) hA (by kernel_rfl) rfl (R.callF Try.func37 rfl rfl rfl) rfl (fine22_yes co (by omega) _) ?_; clear hA a
  rintro e w14 ⟨rfl, rfl⟩
  refine ⟨.bool true, rfl, fun a hA => ?_⟩
  refine S.valg (dj := 94) hA (by kernel_rfl) rfl (R.not rfl) rfl ?_; clear hA a; intro a hA
  refine S.val hA (R.pickF rfl rfl) rfl ?_; clear hA a; intro a hA
  refine S.done ?_
  replace hA : St 134 [(1, _), (2, _), (6, _), (9, _), (10, _), (98, _)] a := hA.sub ((.cons rfl (.cons rfl (.cons rfl (.cons rfl (.cons rfl (.cons rfl .nil)))))))
  refine Ends.condF hA rfl ?_
  refine Ends.skip ?_
  refine Ends.seq ?_
  refine Ends.region ?_
  refine S.val hA (R.move rfl) rfl ?_; clear hA a; intro a hA
  refine S.val hA (R.tt (R.eql rfl rfl) (by first | decide | simp | omega)) rfl ?_; clear hA a; intro a hA
  refine S.val hA (R.move rfl) rfl ?_; clear hA a; intro a hA
  refine S.valg (dj := 107) hA (by kernel_rfl) rfl (R.move rfl) rfl ?_; clear hA a; intro a hA
  refine S.valg (dj := 107) hA (by kernel_rfl) rfl (R.move rfl) rfl ?_; clear hA a; intro a hA
  refine S.callg (dj := 107) hA (by kernel_rfl) rfl (R.callF Try.func33 rfl rfl rfl) rfl (ioffer_bad q3 m1 pl4 ((2 * wk + 1).toNat) ix wk wk 0 (by omega) _ (hM.hereN 1)) ?_; clear hA a
  rintro e w15 ⟨rfl, hn⟩
  replace hM : Mem _ _ [pt q3 #[.pointer (some ⟨m1, 0, none⟩), .int .i64 ix, .int .i64 wk, .slice (some ⟨pl4, 0, none⟩) ((2 * wk + 1).toNat) ((2 * wk + 1).toNat)] 119, pt pl4 ((vals ((nils (2 * wk + 1).toNat).set (2 * wk).toNat (.slice a5 ((([] : List Int)).length) c6)))) 43, own 3 1 (.slice a5 ((([] : List Int)).length) c6) ((([] : List Int)).length) ((([] : List Int)).map (Value.int .i64)), memO m1 c2 (([0, 0, 0].set ix.toNat (co * 64 + 2 * wk))) 1 ⟨2, ix, [0, 0, 0].getD ix.toNat 0, co * 64 + 2 * wk, true⟩] _ := hM.callL 1 hn; clear hn
  refine ⟨.pointer none, rfl, fun a hA => ?_⟩
  refine S.valg (dj := 107) hA (by kernel_rfl) rfl (R.eqlNil Try.underlying54 rfl rfl) rfl ?_; clear hA a; intro a hA
  refine S.val hA (R.pickT rfl rfl) rfl ?_; clear hA a; intro a hA
  refine S.val hA (R.move rfl) rfl ?_; clear hA a; intro a hA
  refine S.valg (dj := 113) hA (by kernel_rfl) rfl (R.move rfl) rfl ?_; clear hA a; intro a hA
  refine S.callg (dj := 113) hA (by kernel_rfl) rfl (R.callF Try.func33 rfl rfl rfl) rfl (ioffer_bad q3 m1 pl4 ((2 * wk + 1).toNat) ix wk (-1) 0 (by omega) _ (hM.hereN 1)) ?_; clear hA a
  rintro e w16 ⟨rfl, hn⟩
  replace hM : Mem _ _ [pt q3 #[.pointer (some ⟨m1, 0, none⟩), .int .i64 ix, .int .i64 wk, .slice (some ⟨pl4, 0, none⟩) ((2 * wk + 1).toNat) ((2 * wk + 1).toNat)] 119, pt pl4 ((vals ((nils (2 * wk + 1).toNat).set (2 * wk).toNat (.slice a5 ((([] : List Int)).length) c6)))) 43, own 3 1 (.slice a5 ((([] : List Int)).length) c6) ((([] : List Int)).length) ((([] : List Int)).map (Value.int .i64)), memO m1 c2 (([0, 0, 0].set ix.toNat (co * 64 + 2 * wk))) 1 ⟨2, ix, [0, 0, 0].getD ix.toNat 0, co * 64 + 2 * wk, true⟩] _ := hM.callL 1 hn; clear hn
  refine ⟨.pointer none, rfl, fun a hA => ?_⟩
  refine S.valg (dj := 113) hA (by kernel_rfl) rfl (R.eqlNil Try.underlying54 rfl rfl) rfl ?_; clear hA a; intro a hA
  refine S.val hA (R.pickT rfl rfl) rfl ?_; clear hA a; intro a hA
  refine S.val hA (R.move rfl) rfl ?_; clear hA a; intro a hA
  refine S.valg (dj := 118) hA (by kernel_rfl) rfl (R.move rfl) rfl ?_; clear hA a; intro a hA
  refine S.callg (dj := 118) hA (by kernel_rfl) rfl (R.callF Try.func33 rfl rfl rfl) rfl (ioffer_bad q3 m1 pl4 ((2 * wk + 1).toNat) ix wk 0 (-1) (by omega) _ (hM.hereN 1)) ?_; clear hA a
  rintro e w17 ⟨rfl, hn⟩
  replace hM : Mem _ _ [pt q3 #[.pointer (some ⟨m1, 0, none⟩), .int .i64 ix, .int .i64 wk, .slice (some ⟨pl4, 0, none⟩) ((2 * wk + 1).toNat) ((2 * wk + 1).toNat)] 119, pt pl4 ((vals ((nils (2 * wk + 1).toNat).set (2 * wk).toNat (.slice a5 ((([] : List Int)).length) c6)))) 43, own 3 1 (.slice a5 ((([] : List Int)).length) c6) ((([] : List Int)).length) ((([] : List Int)).map (Value.int .i64)), memO m1 c2 (([0, 0, 0].set ix.toNat (co * 64 + 2 * wk))) 1 ⟨2, ix, [0, 0, 0].getD ix.toNat 0, co * 64 + 2 * wk, true⟩] _ := hM.callL 1 hn; clear hn
  refine ⟨.pointer none, rfl, fun a hA => ?_⟩
  refine S.valg (dj := 118) hA (by kernel_rfl) rfl (R.eqlNil Try.underlying54 rfl rfl) rfl ?_; clear hA a; intro a hA
  refine S.val hA (R.pickT rfl rfl) rfl ?_; clear hA a; intro a hA
  refine S.val hA (R.move rfl) rfl ?_; clear hA a; intro a hA
  refine S.valg (dj := 123) hA (by kernel_rfl) rfl (R.move rfl) rfl ?_; clear hA a; intro a hA
  refine S.callg (dj := 123) hA (by kernel_rfl) rfl (R.callF Try.func33 rfl rfl rfl) rfl (ioffer_bad q3 m1 pl4 ((2 * wk + 1).toNat) ix wk 0 1125899906842625 (by omega) _ (hM.hereN 1)) ?_; clear hA a
  rintro e w18 ⟨rfl, hn⟩
  replace hM : Mem _ _ [pt q3 #[.pointer (some ⟨m1, 0, none⟩), .int .i64 ix, .int .i64 wk, .slice (some ⟨pl4, 0, none⟩) ((2 * wk + 1).toNat) ((2 * wk + 1).toNat)] 119, pt pl4 ((vals ((nils (2 * wk + 1).toNat).set (2 * wk).toNat (.slice a5 ((([] : List Int)).length) c6)))) 43, own 3 1 (.slice a5 ((([] : List Int)).length) c6) ((([] : List Int)).length) ((([] : List Int)).map (Value.int .i64)), memO m1 c2 (([0, 0, 0].set ix.toNat (co * 64 + 2 * wk))) 1 ⟨2, ix, [0, 0, 0].getD ix.toNat 0, co * 64 + 2 * wk, true⟩] _ := hM.callL 1 hn; clear hn
  refine ⟨.pointer none, rfl, fun a hA => ?_⟩
  refine S.valg (dj := 123) hA (by kernel_rfl) rfl (R.eqlNil Try.underlying54 rfl rfl) rfl ?_; clear hA a; intro a hA
  refine S.val hA (R.pickT rfl rfl) rfl ?_; clear hA a; intro a hA
  refine S.val hA (R.move rfl) rfl ?_; clear hA a; intro a hA
  refine S.valg (dj := 128) hA (by kernel_rfl) rfl (R.move rfl) rfl ?_; clear hA a; intro a hA
  replace hM := hM.front (k := 3) rfl
  replace hM := hM.front (k := 1) rfl
  replace hM : Mem _ _ [pt q3 #[.pointer (some ⟨m1, 0, none⟩), .int .i64 ix, .int .i64 wk, .slice (some ⟨pl4, 0, none⟩) ((2 * wk + 1).toNat) ((2 * wk + 1).toNat)] 119, memO m1 c2 (([0, 0, 0].set ix.toNat (co * 64 + 2 * wk))) 1 ⟨2, ix, [0, 0, 0].getD ix.toNat 0, co * 64 + 2 * wk, true⟩, pt pl4 ((vals ((nils (2 * wk + 1).toNat).set (2 * wk).toNat (.slice a5 ((([] : List Int)).length) c6)))) 43, own 3 1 (.slice a5 ((([] : List Int)).length) c6) ((([] : List Int)).length) ((([] : List Int)).map (Value.int .i64))] _ := hM
  refine S.callg (dj := 128) hA (by kernel_rfl) rfl (R.callF Try.func32 rfl rfl rfl) rfl (ilook_ok q3 pl4 ((2 * wk + 1).toNat) ix wk m1 c2 (([0, 0, 0].set ix.toNat (co * 64 + 2 * wk))) 1 ⟨2, ix, [0, 0, 0].getD ix.toNat 0, co * 64 + 2 * wk, true⟩ hm1c2 (by first | omega | decide | (simp; done) | (simp; omega)) (by first | omega | decide | (simp; done) | (simp; omega)) (by first | omega | decide | (simp; done) | (simp; omega)) co (2 * wk) (by first | omega | decide | (simp; done) | (simp; omega)) hv0 _ (hM.hereN 2)) ?_; clear hA a
  rintro e w19 ⟨rfl, hn⟩
  replace hM : Mem _ _ [pt q3 #[.pointer (some ⟨m1, 0, none⟩), .int .i64 ix, .int .i64 wk, .slice (some ⟨pl4, 0, none⟩) ((2 * wk + 1).toNat) ((2 * wk + 1).toNat)] 119, memO m1 c2 (((([0, 0, 0].set ix.toNat (co * 64 + 2 * wk))).set ix.toNat ((([0, 0, 0].set ix.toNat (co * 64 + 2 * wk))).getD ix.toNat 0))) 2 ⟨1, ix, (([0, 0, 0].set ix.toNat (co * 64 + 2 * wk))).getD ix.toNat 0, (([0, 0, 0].set ix.toNat (co * 64 + 2 * wk))).getD ix.toNat 0, true⟩, pt pl4 ((vals ((nils (2 * wk + 1).toNat).set (2 * wk).toNat (.slice a5 ((([] : List Int)).length) c6)))) 43, own 3 1 (.slice a5 ((([] : List Int)).length) c6) ((([] : List Int)).length) ((([] : List Int)).map (Value.int .i64))] _ := hM.callL 2 hn; clear hn
  refine ⟨.int .i64 co, rfl, fun a hA => ?_⟩
  refine S.valg (dj := 128) hA (by kernel_rfl) rfl (R.move rfl) rfl ?_; clear hA a; intro a hA
  refine S.valg (dj := 128) hA (by kernel_rfl) rfl (R.tt (R.eql rfl rfl) (by first | decide | simp | omega)) rfl ?_; clear hA a; intro a hA
  refine S.val hA (R.pickT rfl rfl) rfl ?_; clear hA a; intro a hA
  refine S.val hA (R.assign rfl) rfl ?_; clear hA a; intro a hA
  refine S.done ?_
  replace hA : St 134 [(6, _)] a := hA.sub ((.cons rfl .nil))
  refine Ends.ret1 Try.func6 Try.results6 hA rfl ?_
  exact ⟨rfl, hM.nilL.below⟩
set_option maxRecDepth 100000 in
set_option maxHeartbeats 400000 in
theorem incNews_no (ix wk co : Int) (h : ¬ (0 ≤ ix ∧ ix ≤ 2 ∧ 1 ≤ wk ∧ wk ≤ 16 ∧ 0 ≤ co ∧ co ≤ 1125899906842624)) (w : World) :
    Calls Try.prog 6 #[.int .i64 ix, .int .i64 wk, .int .i64 co] w fun e w' => e = .returned (.bool true) ∧ Below w.heap.size w w' := by
  have hM := Mem.start w
  refine Calls.of_ends (vs := [.int .i64 ix, .int .i64 wk, .int .i64 co]) Try.func6 rfl Try.ntmps6 rfl ?_
  intro a hA
  replace hA : St 134 [(0, _), (1, _), (2, _)] a := hA
  refine Ends.seq ?_
  refine Ends.region ?_
  refine S.val hA (R.assign rfl) rfl ?_; clear hA a; intro a hA
  refine S.done ?_
  replace hA : St 134 [(0, _), (1, _), (2, _), (6, _)] a := hA.sub ((.cons rfl (.cons rfl (.cons rfl (.cons rfl .nil)))))
  refine Ends.seq ?_
  refine Ends.region ?_
  refine S.call hA (R.callF Try.func20 rfl rfl rfl) rfl (new_ok 3 (by omega) (by omega) _) ?_; clear hA a
  rintro e w1 ⟨m1, c2, rfl, hm1c2, hn⟩
  replace hM : Mem _ _ [memO m1 c2 [0, 0, 0] 0 ⟨0, 0, 0, 0, false⟩] _ := hM.call hn; clear hn
  refine ⟨.tuple #[.pointer (some ⟨m1, 0, none⟩), .int .i64 0], rfl, fun a hA => ?_⟩
  refine S.val hA (R.move rfl) rfl ?_; clear hA a; intro a hA
  refine S.val hA (R.extract (v := .pointer (some ⟨m1, 0, none⟩)) rfl rfl) rfl ?_; clear hA a; intro a hA
  refine S.val hA (R.extract (v := .int .i64 0) rfl rfl) rfl ?_; clear hA a; intro a hA
  refine S.val hA (R.assign rfl) rfl ?_; clear hA a; intro a hA
  refine S.val hA (R.assign rfl) rfl ?_; clear hA a; intro a hA
  refine S.done ?_
  replace hA : St 134 [(0, _), (1, _), (2, _), (6, _), (7, _), (8, _)] a := hA.sub ((.cons rfl (.cons rfl (.cons rfl (.cons rfl (.cons rfl (.cons rfl .nil)))))))
  refine Ends.seq ?_
  refine Ends.region ?_
  refine S.val hA (R.move rfl) rfl ?_; clear hA a; intro a hA
  refine S.val hA (R.move rfl) rfl ?_; clear hA a; intro a hA
  refine S.val hA (R.move rfl) rfl ?_; clear hA a; intro a hA
  refine S.val hA (R.move rfl) rfl ?_; clear hA a; intro a hA
  replace hM := hM.ownNil 3 1
  replace hM : Mem _ _ [own 3 1 (.slice none ((([] : List Int)).length) 0) ((([] : List Int)).length) ((([] : List Int)).map (Value.int .i64)), memO m1 c2 [0, 0, 0] 0 ⟨0, 0, 0, 0, false⟩] _ := hM
  refine S.call hA (R.callF Try.func28 rfl rfl rfl) rfl (inew_bad m1 c2 [0, 0, 0] 0 ⟨0, 0, 0, 0, false⟩ hm1c2 ix wk co none (([] : List Int)) 0 (by first | omega | decide | (simp; done) | (simp; omega)) (by simp; omega) _ (hM.hereN 2)) ?_; clear hA a
  rintro e w2 ⟨rfl, hn⟩
  replace hM : Mem _ _ [own 3 1 (.slice none ((([] : List Int)).length) 0) ((([] : List Int)).length) ((([] : List Int)).map (Value.int .i64)), memO m1 c2 [0, 0, 0] 0 ⟨0, 0, 0, 0, false⟩] _ := hM.callL 2 hn; clear hn
  refine ⟨.tuple #[.pointer none, .int .i64 1], rfl, fun a hA => ?_⟩
  refine S.val hA (R.move rfl) rfl ?_; clear hA a; intro a hA
  refine S.val hA (R.extract (v := .pointer none) rfl rfl) rfl ?_; clear hA a; intro a hA
  refine S.val hA (R.extract (v := .int .i64 1) rfl rfl) rfl ?_; clear hA a; intro a hA
  refine S.val hA (R.assign rfl) rfl ?_; clear hA a; intro a hA
  refine S.val hA (R.assign rfl) rfl ?_; clear hA a; intro a hA
  refine S.done ?_
  replace hA : St 134 [(0, _), (1, _), (2, _), (6, _), (8, _), (9, _), (10, _)] a := hA.sub ((.cons rfl (.cons rfl (.cons rfl (.cons rfl (.cons rfl (.cons rfl (.cons rfl .nil))))))))
  refine Ends.seq ?_
  refine Ends.region ?_
  refine S.call hA (R.callF Try.func28 rfl rfl rfl) rfl (inew_nil 0 1 0 _) ?_; clear hA a
  rintro e w3 ⟨rfl, rfl⟩
  refine ⟨.tuple #[.pointer none, .int .i64 1], rfl, fun a hA => ?_⟩
  refine S.val hA (R.move rfl) rfl ?_; clear hA a; intro a hA
  refine S.val hA (R.extract (v := .pointer none) rfl rfl) rfl ?_; clear hA a; intro a hA
  refine S.val hA (R.extract (v := .int .i64 1) rfl rfl) rfl ?_; clear hA a; intro a hA
  refine S.val hA (R.assign rfl) rfl ?_; clear hA a; intro a hA
  refine S.val hA (R.assign rfl) rfl ?_; clear hA a; intro a hA
  refine S.done ?_
  replace hA : St 134 [(0, _), (1, _), (2, _), (6, _), (8, _), (9, _), (10, _), (12, _)] a := hA.sub ((.cons rfl (.cons rfl (.cons rfl (.cons rfl (.cons rfl (.cons rfl (.cons rfl (.cons rfl .nil)))))))))
  refine Ends.seq ?_
  refine Ends.region ?_
  refine S.call hA (R.callF Try.func29 rfl rfl rfl) rfl (inone_any _) ?_; clear hA a
  rintro e w4 ⟨rfl, rfl⟩
  refine ⟨.pointer none, rfl, fun a hA => ?_⟩
  refine S.call hA (R.callF Try.func30 rfl rfl rfl) rfl (ibest_nil _) ?_; clear hA a
  rintro e w5 ⟨rfl, rfl⟩
  refine ⟨.tuple #[.slice none 0 0, .int .i64 0], rfl, fun a hA => ?_⟩
  refine S.val hA (R.move rfl) rfl ?_; clear hA a; intro a hA
  refine S.val hA (R.extract (v := .slice none 0 0) rfl rfl) rfl ?_; clear hA a; intro a hA
  refine S.val hA (R.extract (v := .int .i64 0) rfl rfl) rfl ?_; clear hA a; intro a hA
  refine S.val hA (R.assign rfl) rfl ?_; clear hA a; intro a hA
  refine S.val hA (R.assign rfl) rfl ?_; clear hA a; intro a hA
  refine S.done ?_
  replace hA : St 134 [(0, _), (1, _), (2, _), (6, _), (8, _), (9, _), (10, _), (12, _), (13, _), (14, _)] a := hA.sub ((.cons rfl (.cons rfl (.cons rfl (.cons rfl (.cons rfl (.cons rfl (.cons rfl (.cons rfl (.cons rfl (.cons rfl .nil)))))))))))
  refine Ends.seq ?_
  refine Ends.region ?_
  refine S.val hA (R.assign rfl) rfl ?_; clear hA a; intro a hA
  refine S.done ?_
  replace hA : St 134 [(0, _), (1, _), (2, _), (6, _), (8, _), (9, _), (10, _), (12, _), (13, _), (14, _), (15, _)] a := hA.sub ((.cons rfl (.cons rfl (.cons rfl (.cons rfl (.cons rfl (.cons rfl (.cons rfl (.cons rfl (.cons rfl (.cons rfl (.cons rfl .nil))))))))))))
  refine Ends.seq ?_
  refine Ends.seq ?_
  refine Ends.region ?_
  refine S.call hA (R.callF Try.func31 rfl rfl rfl) rfl (iincs_any _) ?_; clear hA a
  rintro e w6 ⟨rfl, hb⟩
  replace hM := hM.callB hb; clear hb
  refine ⟨.bool true, rfl, fun a hA => ?_⟩
  refine S.val hA (R.not rfl) rfl ?_; clear hA a; intro a hA
  refine S.val hA (R.move rfl) rfl ?_; clear hA a; intro a hA
  refine S.valg (dj := 39) hA (by kernel_rfl) rfl (R.move rfl) rfl ?_; clear hA a; intro a hA
  refine S.valg (dj := 39) hA (by kernel_rfl) rfl (R.ff (R.neq rfl rfl) (by first | decide | simp | omega)) rfl ?_; clear hA a; intro a hA
  refine S.val hA (R.pickF rfl rfl) rfl ?_; clear hA a; intro a hA
  refine S.val hA (R.move rfl) rfl ?_; clear hA a; intro a hA
  refine S.valg (dj := 43) hA (by kernel_rfl) rfl (R.move rfl) rfl ?_; clear hA a; intro a hA
  refine S.valg (dj := 43) hA (by kernel_rfl) rfl (R.ff (R.neq rfl rfl) (by first | decide | simp | omega)) rfl ?_; clear hA a; intro a hA
  refine S.val hA (R.pickF rfl rfl) rfl ?_; clear hA a; intro a hA
  refine S.val hA (R.move rfl) rfl ?_; clear hA a; intro a hA
  refine S.callg (dj := 47) hA (by kernel_rfl) rfl (R.callF Try.func29 rfl rfl rfl) rfl (inone_any _) ?_; clear hA a
  rintro e w7 ⟨rfl, rfl⟩
  refine ⟨.pointer none, rfl, fun a hA => ?_⟩
  refine S.callg (dj := 47) hA (by kernel_rfl) rfl (R.callF Try.func32 rfl rfl rfl) rfl (ilook_nil _) ?_; clear hA a
  rintro e w8 ⟨rfl, rfl⟩
  refine ⟨.int .i64 0, rfl, fun a hA => ?_⟩
  refine S.valg (dj := 47) hA (by kernel_rfl) rfl (R.ff (R.neq rfl rfl) (by first | decide | simp | omega)) rfl ?_; clear hA a; intro a hA
  refine S.val hA (R.pickF rfl rfl) rfl ?_; clear hA a; intro a hA
  refine S.val hA (R.move rfl) rfl ?_; clear hA a; intro a hA
  refine S.valg (dj := 52) hA (by kernel_rfl) rfl (R.move rfl) rfl ?_; clear hA a; intro a hA
  refine S.valg (dj := 52) hA (by kernel_rfl) rfl (R.lenS Try.underlying43 rfl rfl) rfl ?_; clear hA a; intro a hA
  refine S.valg (dj := 52) hA (by kernel_rfl) rfl (R.ff (R.neq rfl rfl) (by first | decide | simp | omega)) rfl ?_; clear hA a; intro a hA
  refine S.val hA (R.pickF rfl rfl) rfl ?_; clear hA a; intro a hA
  refine S.val hA (R.move rfl) rfl ?_; clear hA a; intro a hA
  refine S.valg (dj := 57) hA (by kernel_rfl) rfl (R.move rfl) rfl ?_; clear hA a; intro a hA
  refine S.valg (dj := 57) hA (by kernel_rfl) rfl (R.ff (R.neq rfl rfl) (by first | decide | simp | omega)) rfl ?_; clear hA a; intro a hA
  refine S.val hA (R.pickF rfl rfl) rfl ?_; clear hA a; intro a hA
  refine S.val hA (R.move rfl) rfl ?_; clear hA a; intro a hA
  refine S.callg (dj := 61) hA (by kernel_rfl) rfl (R.callF Try.func29 rfl rfl rfl) rfl (inone_any _) ?_; clear hA a
  rintro e w9 ⟨rfl, rfl⟩
  refine ⟨.pointer none, rfl, fun a hA => ?_⟩
  refine S.callg (dj := 61) hA (by kernel_rfl) rfl (R.callF Try.func33 rfl rfl rfl) rfl (ioffer_nil 0 0 _) ?_; clear hA a
  rintro e w10 ⟨rfl, rfl⟩
  refine ⟨.pointer none, rfl, fun a hA => ?_⟩
  refine S.valg (dj := 61) hA (by kernel_rfl) rfl (R.neqNil Try.underlying54 rfl rfl) rfl ?_; clear hA a; intro a hA
  refine S.val hA (R.pickF rfl rfl) rfl ?_; clear hA a; intro a hA
  refine S.val hA (R.move rfl) rfl ?_; clear hA a; intro a hA
  refine S.valg (dj := 66) hA (by kernel_rfl) rfl (R.move rfl) rfl ?_; clear hA a; intro a hA
  refine S.callg (dj := 66) hA (by kernel_rfl) rfl (R.callF Try.func34 rfl rfl rfl) rfl (iact_over_nil _) ?_; clear hA a
  rintro e w11 ⟨rfl, rfl⟩
  refine ⟨.bool true, rfl, fun a hA => ?_⟩
  refine S.valg (dj := 66) hA (by kernel_rfl) rfl (R.not rfl) rfl ?_; clear hA a; intro a hA
  refine S.val hA (R.pickF rfl rfl) rfl ?_; clear hA a; intro a hA
  refine S.val hA (R.move rfl) rfl ?_; clear hA a; intro a hA
  refine S.valg (dj := 71) hA (by kernel_rfl) rfl (R.move rfl) rfl ?_; clear hA a; intro a hA
  refine S.callg (dj := 71) hA (by kernel_rfl) rfl (R.callF Try.func35 rfl rfl rfl) rfl (istep_nil _) ?_; clear hA a
  rintro e w12 ⟨rfl, rfl⟩
  refine ⟨.bool true, rfl, fun a hA => ?_⟩
  refine S.valg (dj := 71) hA (by kernel_rfl) rfl (R.not rfl) rfl ?_; clear hA a; intro a hA
  refine S.val hA (R.pickF rfl rfl) rfl ?_; clear hA a; intro a hA
  refine S.val hA (R.move rfl) rfl ?_; clear hA a; intro a hA
  refine S.valg (dj := 76) hA (by kernel_rfl) rfl (R.move rfl) rfl ?_; clear hA a; intro a hA
  refine S.callg (dj := 76) hA (by kernel_rfl) rfl (R.callF Try.func36 rfl rfl rfl) rfl (iact_taken_nil _) ?_; clear hA a
  rintro e w13 ⟨rfl, rfl⟩
  refine ⟨.bool false, rfl, fun a hA => ?_⟩
  refine S.val hA (R.pickF rfl rfl) rfl ?_; clear hA a; intro a hA
  refine S.done ?_
  replace hA : St 134 [(0, _), (1, _), (2, _), (6, _), (9, _), (10, _), (79, _)] a := hA.sub ((.cons rfl (.cons rfl (.cons rfl (.cons rfl (.cons rfl (.cons rfl (.cons rfl .nil))))))))
  refine Ends.condF hA rfl ?_
  refine Ends.skip ?_
  refine Ends.seq ?_
  refine Ends.seq ?_
  refine Ends.cut (fun (a : Act) (wv : World) => St 134 [(1, .int .i64 wk), (2, .int .i64 co), (6, .bool false), (9, .pointer none), (10, .int .i64 1), (98, .bool (decide (((((ix < 0 ∨ 2 < ix) ∨ wk < 1) ∨ 16 < wk) ∨ ¬ (0 ≤ co ∧ co ≤ 1125899906842624)))))] a ∧ Mem w nof [own 3 1 (.slice none ((([] : List Int)).length) 0) ((([] : List Int)).length) ((([] : List Int)).map (Value.int .i64)), memO m1 c2 [0, 0, 0] 0 ⟨0, 0, 0, 0, false⟩] wv) ?_ (fun k2 hJ => ?_)
  · clear hA hM a; rintro a w14 ⟨hA, hM⟩
    refine Ends.ite hA rfl (fun hc3 => ?_) (fun hc3 => ?_)
    ·
      refine Ends.seq ?_
      refine Ends.region ?_
      refine S.val hA (R.move rfl) rfl ?_; clear hA a; intro a hA
      refine S.val hA (R.eqlNil Try.underlying48 rfl rfl) rfl ?_; clear hA a; intro a hA
      refine S.val hA (R.move rfl) rfl ?_; clear hA a; intro a hA
      refine S.valg (dj := 101) hA (by kernel_rfl) rfl (R.move rfl) rfl ?_; clear hA a; intro a hA
      refine S.valg (dj := 101) hA (by kernel_rfl) rfl (R.tt (R.eql rfl rfl) (by first | decide | simp | omega)) rfl ?_; clear hA a; intro a hA
      refine S.val hA (R.pickT rfl rfl) rfl ?_; clear hA a; intro a hA
      refine S.val hA (R.assign rfl) rfl ?_; clear hA a; intro a hA
      refine S.done ?_
      replace hA : St 134 [(1, _), (2, _), (6, _), (9, _), (10, _)] a := hA.sub ((.cons rfl (.cons rfl (.cons rfl (.cons rfl (.cons rfl .nil))))))
      refine Ends.ret1 Try.func6 Try.results6 hA rfl ?_
      exact ⟨rfl, hM.nilL.below⟩
    · exfalso; omega
  ·
    refine Ends.region ?_
    refine S.val hA (R.move rfl) rfl ?_; clear hA a; intro a hA
    refine S.val hA (R.lss rfl rfl) rfl ?_; clear hA a; intro a hA
    refine S.val hA (R.move rfl) rfl ?_; clear hA a; intro a hA
    refine hA.split (d := 82) rfl ?_ ?_
    · clear hA; intro hg4 hA
      refine S.no (dj := 82) hA (by kernel_rfl) rfl rfl rfl ?_; clear hA a; intro a hA
      refine S.no (dj := 82) hA (by kernel_rfl) rfl rfl rfl ?_; clear hA a; intro a hA
      refine S.val hA (R.pickT rfl rfl) rfl ?_; clear hA a; intro a hA
      refine S.val hA (R.move rfl) rfl ?_; clear hA a; intro a hA
      refine S.no (dj := 86) hA (by kernel_rfl) rfl rfl rfl ?_; clear hA a; intro a hA
      refine S.no (dj := 86) hA (by kernel_rfl) rfl rfl rfl ?_; clear hA a; intro a hA
      refine S.val hA (R.pickT rfl rfl) rfl ?_; clear hA a; intro a hA
      refine S.val hA (R.move rfl) rfl ?_; clear hA a; intro a hA
      refine S.no (dj := 90) hA (by kernel_rfl) rfl rfl rfl ?_; clear hA a; intro a hA
      refine S.no (dj := 90) hA (by kernel_rfl) rfl rfl rfl ?_; clear hA a; intro a hA
      refine S.val hA (R.pickT rfl rfl) rfl ?_; clear hA a; intro a hA
      refine S.val hA (R.move rfl) rfl ?_; clear hA a; intro a hA
      refine S.no (dj := 94) hA (by kernel_rfl) rfl rfl rfl ?_; clear hA a; intro a hA
      refine S.no (dj := 94) hA (by kernel_rfl) rfl rfl rfl ?_; clear hA a; intro a hA
      refine S.no (dj := 94) hA (by kernel_rfl) rfl rfl rfl ?_; clear hA a; intro a hA
      refine S.val hA (R.pickT rfl rfl) rfl ?_; clear hA a; intro a hA
      refine S.done ?_
      replace hA : St 134 [(1, _), (2, _), (6, _), (9, _), (10, _), (98, _)] a := hA.sub ((.cons rfl (.cons rfl (.cons rfl (.cons rfl (.cons rfl (.cons rfl .nil)))))))
      exact hJ _ _ ⟨hA.sub (.cons rfl (.cons rfl (.cons rfl (.cons rfl (.cons rfl (.cons (by first | rfl | exact congrArg (fun b => some (Value.bool b)) (by simp [hg4])) .nil)))))), hM⟩
    · clear hA; intro hg4 hA
      refine S.valg (dj := 82) hA (by kernel_rfl) rfl (R.move rfl) rfl ?_; clear hA a; intro a hA
      refine S.valg (dj := 82) hA (by kernel_rfl) rfl (R.gtr rfl rfl) rfl ?_; clear hA a; intro a hA
      refine S.val hA (R.pickF rfl rfl) rfl ?_; clear hA a; intro a hA
      refine S.val hA (R.move rfl) rfl ?_; clear hA a; intro a hA
      refine hA.split (d := 86) rfl ?_ ?_
      · clear hA; intro hg5 hA
        refine S.no (dj := 86) hA (by kernel_rfl) rfl rfl rfl ?_; clear hA a; intro a hA
        refine S.no (dj := 86) hA (by kernel_rfl) rfl rfl rfl ?_; clear hA a; intro a hA
        refine S.val hA (R.pickT rfl rfl) rfl ?_; clear hA a; intro a hA
        refine S.val hA (R.move rfl) rfl ?_; clear hA a; intro a hA
        refine S.no (dj := 90) hA (by kernel_rfl) rfl rfl rfl ?_; clear hA a; intro a hA
        refine S.no (dj := 90) hA (by kernel_rfl) rfl rfl rfl ?_; clear hA a; intro a hA
        refine S.val hA (R.pickT rfl rfl) rfl ?_; clear hA a; intro a hA
        refine S.val hA (R.move rfl) rfl ?_; clear hA a; intro a hA
        refine S.no (dj := 94) hA (by kernel_rfl) rfl rfl rfl ?_; clear hA a; intro a hA
        refine S.no (dj := 94) hA (by kernel_rfl) rfl rfl rfl ?_; clear hA a; intro a hA
        refine S.no (dj := 94) hA (by kernel_rfl) rfl rfl rfl ?_; clear hA a; intro a hA
        refine S.val hA (R.pickT rfl rfl) rfl ?_; clear hA a; intro a hA
        refine S.done ?_
        replace hA : St 134 [(1, _), (2, _), (6, _), (9, _), (10, _), (98, _)] a := hA.sub ((.cons rfl (.cons rfl (.cons rfl (.cons rfl (.cons rfl (.cons rfl .nil)))))))
        exact hJ _ _ ⟨hA.sub (.cons rfl (.cons rfl (.cons rfl (.cons rfl (.cons rfl (.cons (by first | rfl | exact congrArg (fun b => some (Value.bool b)) (by simp [hg4, hg5])) .nil)))))), hM⟩
      · clear hA; intro hg5 hA
        refine S.valg (dj := 86) hA (by kernel_rfl) rfl (R.move rfl) rfl ?_; clear hA a; intro a hA
        refine S.valg (dj := 86) hA (by kernel_rfl) rfl (R.lss rfl rfl) rfl ?_; clear hA a; intro a hA
        refine S.val hA (R.pickF rfl rfl) rfl ?_; clear hA a; intro a hA
        refine S.val hA (R.move rfl) rfl ?_; clear hA a; intro a hA
        refine hA.split (d := 90) rfl ?_ ?_
        · clear hA; intro hg6 hA
          refine S.no (dj := 90) hA (by kernel_rfl) rfl rfl rfl ?_; clear hA a; intro a hA
          refine S.no (dj := 90) hA (by kernel_rfl) rfl rfl rfl ?_; clear hA a; intro a hA
          refine S.val hA (R.pickT rfl rfl) rfl ?_; clear hA a; intro a hA
          refine S.val hA (R.move rfl) rfl ?_; clear hA a; intro a hA
          refine S.no (dj := 94) hA (by kernel_rfl) rfl rfl rfl ?_; clear hA a; intro a hA
          refine S.no (dj := 94) hA (by kernel_rfl) rfl rfl rfl ?_; clear hA a; intro a hA
          refine S.no (dj := 94) hA (by kernel_rfl) rfl rfl rfl ?_; clear hA a; intro a hA
          refine S.val hA (R.pickT rfl rfl) rfl ?_; clear hA a; intro a hA
          refine S.done ?_
          replace hA : St 134 [(1, _), (2, _), (6, _), (9, _), (10, _), (98, _)] a := hA.sub ((.cons rfl (.cons rfl (.cons rfl (.cons rfl (.cons rfl (.cons rfl .nil)))))))
          exact hJ _ _ ⟨hA.sub (.cons rfl (.cons rfl (.cons rfl (.cons rfl (.cons rfl (.cons (by first | rfl | exact congrArg (fun b => some (Value.bool b)) (by simp [hg4, hg5, hg6])) .nil)))))), hM⟩
        · clear hA; intro hg6 hA
          refine S.valg (dj := 90) hA (by kernel_rfl) rfl (R.move rfl) rfl ?_; clear hA a; intro a hA
          refine S.valg (dj := 90) hA (by kernel_rfl) rfl (R.gtr rfl rfl) rfl ?_; clear hA a; intro a hA
          refine S.val hA (R.pickF rfl rfl) rfl ?_; clear hA a; intro a hA
          refine S.val hA (R.move rfl) rfl ?_; clear hA a; intro a hA
          refine hA.split (d := 94) rfl ?_ ?_
          · clear hA; intro hg7 hA
            refine S.no (dj := 94) hA (by kernel_rfl) rfl rfl rfl ?_; clear hA a; intro a hA
            refine S.no (dj := 94) hA (by kernel_rfl) rfl rfl rfl ?_; clear hA a; intro a hA
            refine S.no (dj := 94) hA (by kernel_rfl) rfl rfl rfl ?_; clear hA a; intro a hA
            refine S.val hA (R.pickT rfl rfl) rfl ?_; clear hA a; intro a hA
            refine S.done ?_
            replace hA : St 134 [(1, _), (2, _), (6, _), (9, _), (10, _), (98, _)] a := hA.sub ((.cons rfl (.cons rfl (.cons rfl (.cons rfl (.cons rfl (.cons rfl .nil)))))))
            exact hJ _ _ ⟨hA.sub (.cons rfl (.cons rfl (.cons rfl (.cons rfl (.cons rfl (.cons (by first | rfl | exact congrArg (fun b => some (Value.bool b)) (by simp [hg4, hg5, hg6, hg7])) .nil)))))), hM⟩
          · clear hA; intro hg7 hA
            refine S.valg (dj := 94) hA (by kernel_rfl) rfl (R.move rfl) rfl ?_; clear hA a; intro a hA
            refine S.callg (dj := 94) hA (by kernel_rfl) rfl (R.callF Try.func37 rfl rfl rfl) rfl (fine22_no co _) ?_; clear hA a
            rintro e w15 ⟨rfl, hb⟩
            replace hM := hM.callB hb; clear hb
            refine ⟨.bool (decide (0 ≤ co ∧ co ≤ 1125899906842624)), rfl, fun a hA => ?_⟩
            refine S.valg (dj := 94) hA (by kernel_rfl) rfl (R.notD rfl) rfl ?_; clear hA a; intro a hA
            refine S.val hA (R.pickF rfl rfl) rfl ?_; clear hA a; intro a hA
            refine S.done ?_
            replace hA : St 134 [(1, _), (2, _), (6, _), (9, _), (10, _), (98, _)] a := hA.sub ((.cons rfl (.cons rfl (.cons rfl (.cons rfl (.cons rfl (.cons rfl .nil)))))))
            exact hJ _ _ ⟨hA.sub (.cons rfl (.cons rfl (.cons rfl (.cons rfl (.cons rfl (.cons (by first | rfl | exact congrArg (fun b => some (Value.bool b)) (by simp [hg4, hg5, hg6, hg7])) .nil)))))), hM⟩
theorem incNews_any (ix wk co : Int) (_hi : (Lit.int .i64 ix).wf = true) (_hk : (Lit.int .i64 wk).wf = true) (_hc : (Lit.int .i64 co).wf = true) (w : World) : Calls Try.prog 6 #[.int .i64 ix, .int .i64 wk, .int .i64 co] w fun e w' => e = .returned (.bool true) ∧ Below w.heap.size w w' := by
  by_cases h : 0 ≤ ix ∧ ix ≤ 2 ∧ 1 ≤ wk ∧ wk ≤ 16 ∧ 0 ≤ co ∧ co ≤ 1125899906842624
  · exact incNews_yes ix wk co h w
  · exact incNews_no ix wk co h w
end Go.Proofs.Ytjjbognomeplbaa
