/-
  count.New, and the statements' small helps; the laws CountNews and CountAlone.
-/
import Derived.Test.YtjjbognomeplbaaCountW
namespace Go.Proofs.Ytjjbognomeplbaa
open Go.RowKit

set_option maxRecDepth 100000 in
set_option maxHeartbeats 400000 in
theorem cnone_any  (w : World) :
    Calls Try.prog 22 #[] w fun e w' => e = .returned (.pointer none) ∧ w = w' := by
  have hM := Mem.start w
  refine Calls.of_ends (vs := []) Try.func22 rfl Try.ntmps22 rfl ?_
  intro a hA
  replace hA : St 1 [] a := hA
  refine Ends.seq ?_
  refine Ends.region ?_
  refine S.val hA (R.assign rfl) rfl ?_; clear hA a; intro a hA
  refine S.done ?_
  replace hA : St 1 [(0, _)] a := hA.sub ((.cons rfl .nil))
  refine Ends.seq ?_
  refine Ends.region ?_
  refine S.val hA (R.assign rfl) rfl ?_; clear hA a; intro a hA
  refine S.done ?_
  replace hA : St 1 [(0, _)] a := hA.sub ((.cons rfl .nil))
  refine Ends.ret1 Try.func22 Try.results22 hA rfl ?_
  exact ⟨rfl, rfl⟩
set_option maxRecDepth 100000 in
set_option maxHeartbeats 400000 in
theorem cnew_nil (i o n : Int) (w : World) :
    Calls Try.prog 21 #[.pointer none, .int .i64 i, .int .i64 o, .int .i64 n] w fun e w' => e = .returned (.tuple #[.pointer none, .int .i64 1]) ∧ w = w' := by
  have hM := Mem.start w
  refine Calls.of_ends (vs := [.pointer none, .int .i64 i, .int .i64 o, .int .i64 n]) Try.func21 rfl Try.ntmps21 rfl ?_
  intro a hA
  replace hA : St 51 [(0, _), (1, _), (2, _), (3, _)] a := hA
  refine Ends.seq ?_
  refine Ends.region ?_
  refine S.val hA (R.assign rfl) rfl ?_; clear hA a; intro a hA
  refine S.val hA (R.assign rfl) rfl ?_; clear hA a; intro a hA
  refine S.done ?_
  replace hA : St 51 [(0, _), (1, _), (2, _), (3, _), (8, _), (9, _)] a := hA.sub ((.cons rfl (.cons rfl (.cons rfl (.cons rfl (.cons rfl (.cons rfl .nil)))))))
  refine Ends.seq ?_
  refine Ends.seq ?_
  refine Ends.region ?_
  refine S.val hA (R.move rfl) rfl ?_; clear hA a; intro a hA
  refine S.val hA (R.eqlNil Try.underlying24 rfl rfl) rfl ?_; clear hA a; intro a hA
  refine S.val hA (R.move rfl) rfl ?_; clear hA a; intro a hA
  refine S.no (dj := 13) hA (by kernel_rfl) rfl rfl rfl ?_; clear hA a; intro a hA
  refine S.no (dj := 13) hA (by kernel_rfl) rfl rfl rfl ?_; clear hA a; intro a hA
  refine S.val hA (R.pickT rfl rfl) rfl ?_; clear hA a; intro a hA
  refine S.val hA (R.move rfl) rfl ?_; clear hA a; intro a hA
  refine S.no (dj := 17) hA (by kernel_rfl) rfl rfl rfl ?_; clear hA a; intro a hA
  refine S.no (dj := 17) hA (by kernel_rfl) rfl rfl rfl ?_; clear hA a; intro a hA
  refine S.no (dj := 17) hA (by kernel_rfl) rfl rfl rfl ?_; clear hA a; intro a hA
  refine S.no (dj := 17) hA (by kernel_rfl) rfl rfl rfl ?_; clear hA a; intro a hA
  refine S.no (dj := 17) hA (by kernel_rfl) rfl rfl rfl ?_; clear hA a; intro a hA
  refine S.val hA (R.pickT rfl rfl) rfl ?_; clear hA a; intro a hA
  refine S.val hA (R.move rfl) rfl ?_; clear hA a; intro a hA
  refine S.no (dj := 24) hA (by kernel_rfl) rfl rfl rfl ?_; clear hA a; intro a hA
  refine S.no (dj := 24) hA (by kernel_rfl) rfl rfl rfl ?_; clear hA a; intro a hA
  refine S.val hA (R.pickT rfl rfl) rfl ?_; clear hA a; intro a hA
  refine S.val hA (R.move rfl) rfl ?_; clear hA a; intro a hA
  refine S.no (dj := 28) hA (by kernel_rfl) rfl rfl rfl ?_; clear hA a; intro a hA
  refine S.no (dj := 28) hA (by kernel_rfl) rfl rfl rfl ?_; clear hA a; intro a hA
  refine S.val hA (R.pickT rfl rfl) rfl ?_; clear hA a; intro a hA
  refine S.val hA (R.move rfl) rfl ?_; clear hA a; intro a hA
  refine S.no (dj := 32) hA (by kernel_rfl) rfl rfl rfl ?_; clear hA a; intro a hA
  refine S.no (dj := 32) hA (by kernel_rfl) rfl rfl rfl ?_; clear hA a; intro a hA
  refine S.val hA (R.pickT rfl rfl) rfl ?_; clear hA a; intro a hA
  refine S.done ?_
  replace hA : St 51 [(0, _), (1, _), (2, _), (3, _), (8, _), (9, _), (35, _)] a := hA.sub ((.cons rfl (.cons rfl (.cons rfl (.cons rfl (.cons rfl (.cons rfl (.cons rfl .nil))))))))
  refine Ends.condT hA rfl ?_
  refine Ends.seq ?_
  refine Ends.region ?_
  refine S.val hA (R.assign rfl) rfl ?_; clear hA a; intro a hA
  refine S.val hA (R.assign rfl) rfl ?_; clear hA a; intro a hA
  refine S.done ?_
  replace hA : St 51 [(0, _), (1, _), (2, _), (3, _), (8, _), (9, _)] a := hA.sub ((.cons rfl (.cons rfl (.cons rfl (.cons rfl (.cons rfl (.cons rfl .nil)))))))
  refine Ends.ret2 Try.func21 Try.results21 hA rfl rfl ?_
  exact ⟨rfl, rfl⟩
set_option maxRecDepth 100000 in
set_option maxHeartbeats 400000 in
theorem cnew_ok (m c : Nat) (l : List Int) (s : Int) (o_ : CellOp) (i o n : Int) (hmc : m ≠ c) (hl : l.length ≤ 1000000) (hi : 0 ≤ i ∧ i + 2 ≤ l.length) (ho : 0 ≤ o) (hn : 1 ≤ n ∧ n ≤ 16) (hs : 0 ≤ s ∧ s + 1 < 9223372036854775807) (w : World) (hM : Mem w (feet [memO m c l s o_]) [memO m c l s o_] w) :
    Calls Try.prog 21 #[.pointer (some ⟨m, 0, none⟩), .int .i64 i, .int .i64 o, .int .i64 n] w fun e w' => ∃ q, e = .returned (.tuple #[.pointer (some ⟨q, 0, none⟩), .int .i64 0]) ∧ Mem w (feet [memO m c l s o_]) [pt q #[.pointer (some ⟨m, 0, none⟩), .int .i64 i] 108, memO m c ((l.set i.toNat o).set (i + 1).toNat n) (s + 1 + 1) ⟨2, i + 1, (l.set i.toNat o).getD (i + 1).toNat 0, n, true⟩] w' := by
  have hM0 : True := trivial  -- have hM
  refine Calls.of_ends (vs := [.pointer (some ⟨m, 0, none⟩), .int .i64 i, .int .i64 o, .int .i64 n]) Try.func21 rfl Try.ntmps21 rfl ?_
  intro a hA
  replace hA : St 51 [(0, _), (1, _), (2, _), (3, _)] a := hA
  refine Ends.seq ?_
  refine Ends.region ?_
  refine S.val hA (R.assign rfl) rfl ?_; clear hA a; intro a hA
  refine S.val hA (R.assign rfl) rfl ?_; clear hA a; intro a hA
  refine S.done ?_
  replace hA : St 51 [(0, _), (1, _), (2, _), (3, _), (8, _), (9, _)] a := hA.sub ((.cons rfl (.cons rfl (.cons rfl (.cons rfl (.cons rfl (.cons rfl .nil)))))))
  refine Ends.seq ?_
  refine Ends.seq ?_
  refine Ends.region ?_
  refine S.val hA (R.move rfl) rfl ?_; clear hA a; intro a hA
  refine S.val hA (R.eqlNil Try.underlying24 rfl rfl) rfl ?_; clear hA a; intro a hA
  refine S.val hA (R.move rfl) rfl ?_; clear hA a; intro a hA
  refine S.valg (dj := 13) hA (by kernel_rfl) rfl (R.move rfl) rfl ?_; clear hA a; intro a hA
  refine S.valg (dj := 13) hA (by kernel_rfl) rfl (R.ff (R.lss rfl rfl) (by omega)) rfl ?_; clear hA a; intro a hA
  refine S.val hA (R.pickF rfl rfl) rfl ?_; clear hA a; intro a hA
  refine S.val hA (R.move rfl) rfl ?_; clear hA a; intro a hA
  refine S.valg (dj := 17) hA (by kernel_rfl) rfl (R.move rfl) rfl ?_; clear hA a; intro a hA
  refine S.valg (dj := 17) hA (by kernel_rfl) rfl (R.move rfl) rfl ?_; clear hA a; intro a hA
  refine S.callg (dj := 17) hA (by kernel_rfl) rfl (R.callF Try.func66 rfl rfl rfl) rfl (size_ok m c l s o_ hmc _ (hM.mem (k := 0) rfl)) ?_; clear hA a
  rintro e w1 ⟨rfl, rfl⟩
  refine ⟨.int .i64 ((l.length : Int)), rfl, fun a hA => ?_⟩
  refine S.valg (dj := 17) hA (by kernel_rfl) rfl (R.subI rfl rfl (r := ((l.length : Int)) - 2) rfl (by omega)) rfl ?_; clear hA a; intro a hA
  refine S.valg (dj := 17) hA (by kernel_rfl) rfl (R.ff (R.gtr rfl rfl) (by omega)) rfl ?_; clear hA a; intro a hA
  refine S.val hA (R.pickF rfl rfl) rfl ?_; clear hA a; intro a hA
  refine S.val hA (R.move rfl) rfl ?_; clear hA a; intro a hA
  refine S.valg (dj := 24) hA (by kernel_rfl) rfl (R.move rfl) rfl ?_; clear hA a; intro a hA
  refine S.valg (dj := 24) hA (by kernel_rfl) rfl (R.ff (R.lss rfl rfl) (by omega)) rfl ?_; clear hA a; intro a hA
  refine S.val hA (R.pickF rfl rfl) rfl ?_; clear hA a; intro a hA
  refine S.val hA (R.move rfl) rfl ?_; clear hA a; intro a hA
  refine S.valg (dj := 28) hA (by kernel_rfl) rfl (R.move rfl) rfl ?_; clear hA a; intro a hA
  refine S.valg (dj := 28) hA (by kernel_rfl) rfl (R.ff (R.lss rfl rfl) (by omega)) rfl ?_; clear hA a; intro a hA
  refine S.val hA (R.pickF rfl rfl) rfl ?_; clear hA a; intro a hA
  refine S.val hA (R.move rfl) rfl ?_; clear hA a; intro a hA
  refine S.valg (dj := 32) hA (by kernel_rfl) rfl (R.move rfl) rfl ?_; clear hA a; intro a hA
  refine S.valg (dj := 32) hA (by kernel_rfl) rfl (R.ff (R.gtr rfl rfl) (by omega)) rfl ?_; clear hA a; intro a hA
  refine S.val hA (R.pickF rfl rfl) rfl ?_; clear hA a; intro a hA
  refine S.done ?_
  replace hA : St 51 [(0, _), (1, _), (2, _), (3, _), (8, _), (9, _), (35, _)] a := hA.sub ((.cons rfl (.cons rfl (.cons rfl (.cons rfl (.cons rfl (.cons rfl (.cons rfl .nil))))))))
  refine Ends.condF hA rfl ?_
  refine Ends.skip ?_
  refine Ends.seq ?_
  refine Ends.region ?_
  refine S.val hA (R.move rfl) rfl ?_; clear hA a; intro a hA
  refine S.val hA (R.move rfl) rfl ?_; clear hA a; intro a hA
  refine S.val hA (R.build (cells := #[.pointer (some ⟨m, 0, none⟩), .int .i64 i]) rfl (by kernel_rfl)) rfl ?_; clear hA a; intro a hA
  refine S.box hA hM rfl rfl ?_; clear hA hM a; intro b1 w2 hb2 hM a hA
  replace hM : Mem _ _ [pt b1 #[.pointer (some ⟨m, 0, none⟩), .int .i64 i] 108, memO m c l s o_] _ := hM
  refine S.val hA (R.assign rfl) rfl ?_; clear hA a; intro a hA
  refine S.done ?_
  replace hA : St 51 [(0, _), (2, _), (3, _), (8, _), (9, _), (10, _)] a := hA.sub ((.cons rfl (.cons rfl (.cons rfl (.cons rfl (.cons rfl (.cons rfl .nil)))))))
  refine Ends.seq ?_
  refine Ends.region ?_
  refine S.val hA (R.move rfl) rfl ?_; clear hA a; intro a hA
  refine S.val hA (R.move rfl) rfl ?_; clear hA a; intro a hA
  refine S.call hA (R.callF Try.func65 rfl rfl rfl) rfl (cnt_open b1 m i (by omega) _ (hM.block (k := 0) rfl)) ?_; clear hA a
  rintro e w3 ⟨rfl, rfl⟩
  refine ⟨.int .i64 i, rfl, fun a hA => ?_⟩
  refine S.val hA (R.move rfl) rfl ?_; clear hA a; intro a hA
  refine S.call hA (R.callF Try.func67 rfl rfl rfl) rfl (set_ok m c l s o_ hmc i o (by omega) (by first | omega | (simp; omega)) (by omega) _ (hM.mem (k := 1) rfl)) ?_; clear hA a
  rintro e w4 ⟨rfl, hn⟩
  replace hM : Mem _ _ [memO m c ((l.set i.toNat o)) (s + 1) ⟨2, i, l.getD i.toNat 0, o, true⟩, pt b1 #[.pointer (some ⟨m, 0, none⟩), .int .i64 i] 108] _ := hM.callW (k := 1) rfl hn (fun _ h => h); clear hn
  refine ⟨.int .i64 0, rfl, fun a hA => ?_⟩
  refine S.done ?_
  replace hA : St 51 [(0, _), (3, _), (8, _), (9, _), (10, _)] a := hA.sub ((.cons rfl (.cons rfl (.cons rfl (.cons rfl (.cons rfl .nil))))))
  refine Ends.seq ?_
  refine Ends.region ?_
  refine S.val hA (R.move rfl) rfl ?_; clear hA a; intro a hA
  refine S.val hA (R.move rfl) rfl ?_; clear hA a; intro a hA
  refine S.call hA (R.callF Try.func62 rfl rfl rfl) rfl (cnt_working b1 m i (by omega) _ (hM.block (k := 1) rfl)) ?_; clear hA a
  rintro e w5 ⟨rfl, rfl⟩
  refine ⟨.int .i64 (i + 1), rfl, fun a hA => ?_⟩
  refine S.val hA (R.move rfl) rfl ?_; clear hA a; intro a hA
  refine S.call hA (R.callF Try.func67 rfl rfl rfl) rfl (set_ok m c ((l.set i.toNat o)) (s + 1) ⟨2, i, l.getD i.toNat 0, o, true⟩ hmc (i + 1) n (by omega) (by first | omega | (simp; omega)) (by omega) _ (hM.mem (k := 0) rfl)) ?_; clear hA a
  rintro e w6 ⟨rfl, hn⟩
  replace hM : Mem _ _ [memO m c ((((l.set i.toNat o)).set (i + 1).toNat n)) (s + 1 + 1) ⟨2, i + 1, ((l.set i.toNat o)).getD (i + 1).toNat 0, n, true⟩, pt b1 #[.pointer (some ⟨m, 0, none⟩), .int .i64 i] 108] _ := hM.callW (k := 0) rfl hn (fun _ h => h); clear hn
  refine ⟨.int .i64 0, rfl, fun a hA => ?_⟩
  refine S.done ?_
  replace hA : St 51 [(8, _), (9, _), (10, _)] a := hA.sub ((.cons rfl (.cons rfl (.cons rfl .nil))))
  refine Ends.seq ?_
  refine Ends.region ?_
  refine S.val hA (R.move rfl) rfl ?_; clear hA a; intro a hA
  refine S.val hA (R.assign rfl) rfl ?_; clear hA a; intro a hA
  refine S.val hA (R.assign rfl) rfl ?_; clear hA a; intro a hA
  refine S.done ?_
  replace hA : St 51 [(8, _), (9, _)] a := hA.sub ((.cons rfl (.cons rfl .nil)))
  refine Ends.ret2 Try.func21 Try.results21 hA rfl rfl ?_
  replace hM := hM.front (k := 1) rfl
  replace hM : Mem _ _ [pt b1 #[.pointer (some ⟨m, 0, none⟩), .int .i64 i] 108, memO m c ((((l.set i.toNat o)).set (i + 1).toNat n)) (s + 1 + 1) ⟨2, i + 1, ((l.set i.toNat o)).getD (i + 1).toNat 0, n, true⟩] _ := hM
  exact ⟨_, rfl, hM⟩
set_option maxRecDepth 100000 in
set_option maxHeartbeats 400000 in
theorem cnew_bad (m c : Nat) (l : List Int) (s : Int) (o_ : CellOp) (i o n : Int) (hmc : m ≠ c) (hl : l.length ≤ 1000000) (hbad : ¬ (0 ≤ i ∧ i + 2 ≤ l.length ∧ 0 ≤ o ∧ 1 ≤ n ∧ n ≤ 16)) (w : World) (hM : Mem w (feet [memO m c l s o_]) [memO m c l s o_] w) :
    Calls Try.prog 21 #[.pointer (some ⟨m, 0, none⟩), .int .i64 i, .int .i64 o, .int .i64 n] w fun e w' => e = .returned (.tuple #[.pointer none, .int .i64 1]) ∧ Mem w (feet [memO m c l s o_]) [memO m c l s o_] w' := by
  have hM0 : True := trivial  -- have hM
  refine Calls.of_ends (vs := [.pointer (some ⟨m, 0, none⟩), .int .i64 i, .int .i64 o, .int .i64 n]) Try.func21 rfl Try.ntmps21 rfl ?_
  intro a hA
  replace hA : St 51 [(0, _), (1, _), (2, _), (3, _)] a := hA
  refine Ends.seq ?_
  refine Ends.region ?_
  refine S.val hA (R.assign rfl) rfl ?_; clear hA a; intro a hA
  refine S.val hA (R.assign rfl) rfl ?_; clear hA a; intro a hA
  refine S.done ?_
  replace hA : St 51 [(0, _), (1, _), (2, _), (3, _), (8, _), (9, _)] a := hA.sub ((.cons rfl (.cons rfl (.cons rfl (.cons rfl (.cons rfl (.cons rfl .nil)))))))
  refine Ends.seq ?_
  refine Ends.seq ?_
  refine Ends.cut (fun (a : Act) (wv : World) => St 51 [(0, .pointer (some ⟨m, 0, none⟩)), (1, .int .i64 i), (2, .int .i64 o), (3, .int .i64 n), (8, .pointer none), (9, .int .i64 0), (35, .bool (decide (((((i < 0 ∨ (((l.length : Int)) - 2) < i) ∨ o < 0) ∨ n < 1) ∨ 16 < n))))] a ∧ Mem w (feet [memO m c l s o_]) [memO m c l s o_] wv) ?_ (fun k2 hJ => ?_)
  · clear hA hM a; rintro a w1 ⟨hA, hM⟩
    refine Ends.ite hA rfl (fun hc1 => ?_) (fun hc1 => ?_)
    ·
      refine Ends.seq ?_
      refine Ends.region ?_
      refine S.val hA (R.assign rfl) rfl ?_; clear hA a; intro a hA
      refine S.val hA (R.assign rfl) rfl ?_; clear hA a; intro a hA
      refine S.done ?_
      replace hA : St 51 [(0, _), (1, _), (2, _), (3, _), (8, _), (9, _)] a := hA.sub ((.cons rfl (.cons rfl (.cons rfl (.cons rfl (.cons rfl (.cons rfl .nil)))))))
      refine Ends.ret2 Try.func21 Try.results21 hA rfl rfl ?_
      exact ⟨rfl, hM⟩
    · exfalso; omega
  ·
    refine Ends.region ?_
    refine S.val hA (R.move rfl) rfl ?_; clear hA a; intro a hA
    refine S.val hA (R.eqlNil Try.underlying24 rfl rfl) rfl ?_; clear hA a; intro a hA
    refine S.val hA (R.move rfl) rfl ?_; clear hA a; intro a hA
    refine S.valg (dj := 13) hA (by kernel_rfl) rfl (R.move rfl) rfl ?_; clear hA a; intro a hA
    refine S.valg (dj := 13) hA (by kernel_rfl) rfl (R.lss rfl rfl) rfl ?_; clear hA a; intro a hA
    refine S.val hA (R.pickF rfl rfl) rfl ?_; clear hA a; intro a hA
    refine S.val hA (R.move rfl) rfl ?_; clear hA a; intro a hA
    refine hA.split (d := 17) rfl ?_ ?_
    · clear hA; intro hg2 hA
      refine S.no (dj := 17) hA (by kernel_rfl) rfl rfl rfl ?_; clear hA a; intro a hA
      refine S.no (dj := 17) hA (by kernel_rfl) rfl rfl rfl ?_; clear hA a; intro a hA
      refine S.no (dj := 17) hA (by kernel_rfl) rfl rfl rfl ?_; clear hA a; intro a hA
      refine S.no (dj := 17) hA (by kernel_rfl) rfl rfl rfl ?_; clear hA a; intro a hA
      refine S.no (dj := 17) hA (by kernel_rfl) rfl rfl rfl ?_; clear hA a; intro a hA
      refine S.val hA (R.pickT rfl rfl) rfl ?_; clear hA a; intro a hA
      refine S.val hA (R.move rfl) rfl ?_; clear hA a; intro a hA
      refine S.no (dj := 24) hA (by kernel_rfl) rfl rfl rfl ?_; clear hA a; intro a hA
      refine S.no (dj := 24) hA (by kernel_rfl) rfl rfl rfl ?_; clear hA a; intro a hA
      refine S.val hA (R.pickT rfl rfl) rfl ?_; clear hA a; intro a hA
      refine S.val hA (R.move rfl) rfl ?_; clear hA a; intro a hA
      refine S.no (dj := 28) hA (by kernel_rfl) rfl rfl rfl ?_; clear hA a; intro a hA
      refine S.no (dj := 28) hA (by kernel_rfl) rfl rfl rfl ?_; clear hA a; intro a hA
      refine S.val hA (R.pickT rfl rfl) rfl ?_; clear hA a; intro a hA
      refine S.val hA (R.move rfl) rfl ?_; clear hA a; intro a hA
      refine S.no (dj := 32) hA (by kernel_rfl) rfl rfl rfl ?_; clear hA a; intro a hA
      refine S.no (dj := 32) hA (by kernel_rfl) rfl rfl rfl ?_; clear hA a; intro a hA
      refine S.val hA (R.pickT rfl rfl) rfl ?_; clear hA a; intro a hA
      refine S.done ?_
      replace hA : St 51 [(0, _), (1, _), (2, _), (3, _), (8, _), (9, _), (35, _)] a := hA.sub ((.cons rfl (.cons rfl (.cons rfl (.cons rfl (.cons rfl (.cons rfl (.cons rfl .nil))))))))
      exact hJ _ _ ⟨hA.sub (.cons rfl (.cons rfl (.cons rfl (.cons rfl (.cons rfl (.cons rfl (.cons (by first | rfl | exact congrArg (fun b => some (Value.bool b)) (by simp [hg2])) .nil))))))), hM⟩
    · clear hA; intro hg2 hA
      refine S.valg (dj := 17) hA (by kernel_rfl) rfl (R.move rfl) rfl ?_; clear hA a; intro a hA
      refine S.valg (dj := 17) hA (by kernel_rfl) rfl (R.move rfl) rfl ?_; clear hA a; intro a hA
      refine S.callg (dj := 17) hA (by kernel_rfl) rfl (R.callF Try.func66 rfl rfl rfl) rfl (size_ok m c l s o_ hmc _ (hM.mem (k := 0) rfl)) ?_; clear hA a
      rintro e w2 ⟨rfl, rfl⟩
      refine ⟨.int .i64 ((l.length : Int)), rfl, fun a hA => ?_⟩
      refine S.valg (dj := 17) hA (by kernel_rfl) rfl (R.subI rfl rfl (r := ((l.length : Int)) - 2) rfl (by omega)) rfl ?_; clear hA a; intro a hA
      refine S.valg (dj := 17) hA (by kernel_rfl) rfl (R.gtr rfl rfl) rfl ?_; clear hA a; intro a hA
      refine S.val hA (R.pickF rfl rfl) rfl ?_; clear hA a; intro a hA
      refine S.val hA (R.move rfl) rfl ?_; clear hA a; intro a hA
      refine hA.split (d := 24) rfl ?_ ?_
      · clear hA; intro hg3 hA
        refine S.no (dj := 24) hA (by kernel_rfl) rfl rfl rfl ?_; clear hA a; intro a hA
        refine S.no (dj := 24) hA (by kernel_rfl) rfl rfl rfl ?_; clear hA a; intro a hA
        refine S.val hA (R.pickT rfl rfl) rfl ?_; clear hA a; intro a hA
        refine S.val hA (R.move rfl) rfl ?_; clear hA a; intro a hA
        refine S.no (dj := 28) hA (by kernel_rfl) rfl rfl rfl ?_; clear hA a; intro a hA
        refine S.no (dj := 28) hA (by kernel_rfl) rfl rfl rfl ?_; clear hA a; intro a hA
        refine S.val hA (R.pickT rfl rfl) rfl ?_; clear hA a; intro a hA
        refine S.val hA (R.move rfl) rfl ?_; clear hA a; intro a hA
        refine S.no (dj := 32) hA (by kernel_rfl) rfl rfl rfl ?_; clear hA a; intro a hA
        refine S.no (dj := 32) hA (by kernel_rfl) rfl rfl rfl ?_; clear hA a; intro a hA
        refine S.val hA (R.pickT rfl rfl) rfl ?_; clear hA a; intro a hA
        refine S.done ?_
        replace hA : St 51 [(0, _), (1, _), (2, _), (3, _), (8, _), (9, _), (35, _)] a := hA.sub ((.cons rfl (.cons rfl (.cons rfl (.cons rfl (.cons rfl (.cons rfl (.cons rfl .nil))))))))
        exact hJ _ _ ⟨hA.sub (.cons rfl (.cons rfl (.cons rfl (.cons rfl (.cons rfl (.cons rfl (.cons (by first | rfl | exact congrArg (fun b => some (Value.bool b)) (by simp [hg2, hg3])) .nil))))))), hM⟩
      · clear hA; intro hg3 hA
        refine S.valg (dj := 24) hA (by kernel_rfl) rfl (R.move rfl) rfl ?_; clear hA a; intro a hA
        refine S.valg (dj := 24) hA (by kernel_rfl) rfl (R.lss rfl rfl) rfl ?_; clear hA a; intro a hA
        refine S.val hA (R.pickF rfl rfl) rfl ?_; clear hA a; intro a hA
        refine S.val hA (R.move rfl) rfl ?_; clear hA a; intro a hA
        refine hA.split (d := 28) rfl ?_ ?_
        · clear hA; intro hg4 hA
          refine S.no (dj := 28) hA (by kernel_rfl) rfl rfl rfl ?_; clear hA a; intro a hA
          refine S.no (dj := 28) hA (by kernel_rfl) rfl rfl rfl ?_; clear hA a; intro a hA
          refine S.val hA (R.pickT rfl rfl) rfl ?_; clear hA a; intro a hA
          refine S.val hA (R.move rfl) rfl ?_; clear hA a; intro a hA
          refine S.no (dj := 32) hA (by kernel_rfl) rfl rfl rfl ?_; clear hA a; intro a hA
          refine S.no (dj := 32) hA (by kernel_rfl) rfl rfl rfl ?_; clear hA a; intro a hA
          refine S.val hA (R.pickT rfl rfl) rfl ?_; clear hA a; intro a hA
          refine S.done ?_
          replace hA : St 51 [(0, _), (1, _), (2, _), (3, _), (8, _), (9, _), (35, _)] a := hA.sub ((.cons rfl (.cons rfl (.cons rfl (.cons rfl (.cons rfl (.cons rfl (.cons rfl .nil))))))))
          exact hJ _ _ ⟨hA.sub (.cons rfl (.cons rfl (.cons rfl (.cons rfl (.cons rfl (.cons rfl (.cons (by first | rfl | exact congrArg (fun b => some (Value.bool b)) (by simp [hg2, hg3, hg4])) .nil))))))), hM⟩
        · clear hA; intro hg4 hA
          refine S.valg (dj := 28) hA (by kernel_rfl) rfl (R.move rfl) rfl ?_; clear hA a; intro a hA
          refine S.valg (dj := 28) hA (by kernel_rfl) rfl (R.lss rfl rfl) rfl ?_; clear hA a; intro a hA
          refine S.val hA (R.pickF rfl rfl) rfl ?_; clear hA a; intro a hA
          refine S.val hA (R.move rfl) rfl ?_; clear hA a; intro a hA
          refine hA.split (d := 32) rfl ?_ ?_
          · clear hA; intro hg5 hA
            refine S.no (dj := 32) hA (by kernel_rfl) rfl rfl rfl ?_; clear hA a; intro a hA
            refine S.no (dj := 32) hA (by kernel_rfl) rfl rfl rfl ?_; clear hA a; intro a hA
            refine S.val hA (R.pickT rfl rfl) rfl ?_; clear hA a; intro a hA
            refine S.done ?_
            replace hA : St 51 [(0, _), (1, _), (2, _), (3, _), (8, _), (9, _), (35, _)] a := hA.sub ((.cons rfl (.cons rfl (.cons rfl (.cons rfl (.cons rfl (.cons rfl (.cons rfl .nil))))))))
            exact hJ _ _ ⟨hA.sub (.cons rfl (.cons rfl (.cons rfl (.cons rfl (.cons rfl (.cons rfl (.cons (by first | rfl | exact congrArg (fun b => some (Value.bool b)) (by simp [hg2, hg3, hg4, hg5])) .nil))))))), hM⟩
          · clear hA; intro hg5 hA
            refine S.valg (dj := 32) hA (by kernel_rfl) rfl (R.move rfl) rfl ?_; clear hA a; intro a hA
            refine S.valg (dj := 32) hA (by kernel_rfl) rfl (R.gtr rfl rfl) rfl ?_; clear hA a; intro a hA
            refine S.val hA (R.pickF rfl rfl) rfl ?_; clear hA a; intro a hA
            refine S.done ?_
            replace hA : St 51 [(0, _), (1, _), (2, _), (3, _), (8, _), (9, _), (35, _)] a := hA.sub ((.cons rfl (.cons rfl (.cons rfl (.cons rfl (.cons rfl (.cons rfl (.cons rfl .nil))))))))
            exact hJ _ _ ⟨hA.sub (.cons rfl (.cons rfl (.cons rfl (.cons rfl (.cons rfl (.cons rfl (.cons (by first | rfl | exact congrArg (fun b => some (Value.bool b)) (by simp [hg2, hg3, hg4, hg5])) .nil))))))), hM⟩
set_option maxRecDepth 100000 in
set_option maxHeartbeats 400000 in
theorem cfresh_any (o n : Int) (ho : 0 ≤ o) (hn : 1 ≤ n ∧ n ≤ 16) (w : World) :
    Calls Try.prog 13 #[.int .i64 o, .int .i64 n] w fun e w' => ∃ q m c, e = .returned (.tuple #[.pointer (some ⟨q, 0, none⟩), .pointer (some ⟨m, 0, none⟩), .bool true]) ∧ m ≠ c ∧ Mem w nof [pt q #[.pointer (some ⟨m, 0, none⟩), .int .i64 1] 108, memO m c [0, o, n, 0] 2 ⟨2, 2, 0, n, true⟩] w' := by
  have hM := Mem.start w
  refine Calls.of_ends (vs := [.int .i64 o, .int .i64 n]) Try.func13 rfl Try.ntmps13 rfl ?_
  intro a hA
  replace hA : St 30 [(0, _), (1, _)] a := hA
  refine Ends.seq ?_
  refine Ends.region ?_
  refine S.val hA (R.assign rfl) rfl ?_; clear hA a; intro a hA
  refine S.val hA (R.assign rfl) rfl ?_; clear hA a; intro a hA
  refine S.val hA (R.assign rfl) rfl ?_; clear hA a; intro a hA
  refine S.done ?_
  replace hA : St 30 [(0, _), (1, _), (4, _), (5, _), (6, _)] a := hA.sub ((.cons rfl (.cons rfl (.cons rfl (.cons rfl (.cons rfl .nil))))))
  refine Ends.seq ?_
  refine Ends.region ?_
  refine S.call hA (R.callF Try.func20 rfl rfl rfl) rfl (new_ok 4 (by omega) (by omega) _) ?_; clear hA a
  rintro e w1 ⟨m1, c2, rfl, hm1c2, hn⟩
  replace hM : Mem _ _ [memO m1 c2 [0, 0, 0, 0] 0 ⟨0, 0, 0, 0, false⟩] _ := hM.call hn; clear hn
  refine ⟨.tuple #[.pointer (some ⟨m1, 0, none⟩), .int .i64 0], rfl, fun a hA => ?_⟩
  refine S.val hA (R.move rfl) rfl ?_; clear hA a; intro a hA
  refine S.val hA (R.extract (v := .pointer (some ⟨m1, 0, none⟩)) rfl rfl) rfl ?_; clear hA a; intro a hA
  refine S.val hA (R.extract (v := .int .i64 0) rfl rfl) rfl ?_; clear hA a; intro a hA
  refine S.val hA (R.assign rfl) rfl ?_; clear hA a; intro a hA
  refine S.val hA (R.assign rfl) rfl ?_; clear hA a; intro a hA
  refine S.done ?_
  replace hA : St 30 [(0, _), (1, _), (4, _), (5, _), (6, _), (7, _), (8, _)] a := hA.sub ((.cons rfl (.cons rfl (.cons rfl (.cons rfl (.cons rfl (.cons rfl (.cons rfl .nil))))))))
  refine Ends.seq ?_
  refine Ends.region ?_
  refine S.val hA (R.move rfl) rfl ?_; clear hA a; intro a hA
  refine S.val hA (R.move rfl) rfl ?_; clear hA a; intro a hA
  refine S.val hA (R.move rfl) rfl ?_; clear hA a; intro a hA
  refine S.call hA (R.callF Try.func21 rfl rfl rfl) rfl (cnew_ok m1 c2 [0, 0, 0, 0] 0 ⟨0, 0, 0, 0, false⟩ 1 o n hm1c2 (by first | omega | simp | (simp; omega)) (by first | omega | simp | (simp; omega)) (by first | omega | simp | (simp; omega)) (by first | omega | simp | (simp; omega)) (by first | omega | simp | (simp; omega)) _ (hM.hereN 1)) ?_; clear hA a
  rintro e w2 ⟨q3, rfl, hn⟩
  replace hM : Mem _ _ [pt q3 #[.pointer (some ⟨m1, 0, none⟩), .int .i64 1] 108, memO m1 c2 [0, o, n, 0] 2 ⟨2, 2, 0, n, true⟩] _ := hM.callL 1 hn; clear hn
  refine ⟨.tuple #[.pointer (some ⟨q3, 0, none⟩), .int .i64 0], rfl, fun a hA => ?_⟩
  refine S.val hA (R.move rfl) rfl ?_; clear hA a; intro a hA
  refine S.val hA (R.extract (v := .pointer (some ⟨q3, 0, none⟩)) rfl rfl) rfl ?_; clear hA a; intro a hA
  refine S.val hA (R.extract (v := .int .i64 0) rfl rfl) rfl ?_; clear hA a; intro a hA
  refine S.val hA (R.assign rfl) rfl ?_; clear hA a; intro a hA
  refine S.val hA (R.assign rfl) rfl ?_; clear hA a; intro a hA
  refine S.done ?_
  replace hA : St 30 [(4, _), (5, _), (6, _), (7, _), (8, _), (9, _), (10, _)] a := hA.sub ((.cons rfl (.cons rfl (.cons rfl (.cons rfl (.cons rfl (.cons rfl (.cons rfl .nil))))))))
  refine Ends.seq ?_
  refine Ends.region ?_
  refine S.val hA (R.move rfl) rfl ?_; clear hA a; intro a hA
  refine S.val hA (R.move rfl) rfl ?_; clear hA a; intro a hA
  refine S.val hA (R.move rfl) rfl ?_; clear hA a; intro a hA
  refine S.val hA (R.tt (R.eql rfl rfl) (by first | decide | simp | omega)) rfl ?_; clear hA a; intro a hA
  refine S.val hA (R.move rfl) rfl ?_; clear hA a; intro a hA
  refine S.valg (dj := 26) hA (by kernel_rfl) rfl (R.move rfl) rfl ?_; clear hA a; intro a hA
  refine S.valg (dj := 26) hA (by kernel_rfl) rfl (R.tt (R.eql rfl rfl) (by first | decide | simp | omega)) rfl ?_; clear hA a; intro a hA
  refine S.val hA (R.pickT rfl rfl) rfl ?_; clear hA a; intro a hA
  refine S.val hA (R.assign rfl) rfl ?_; clear hA a; intro a hA
  refine S.val hA (R.assign rfl) rfl ?_; clear hA a; intro a hA
  refine S.val hA (R.assign rfl) rfl ?_; clear hA a; intro a hA
  refine S.done ?_
  replace hA : St 30 [(4, _), (5, _), (6, _)] a := hA.sub ((.cons rfl (.cons rfl (.cons rfl .nil))))
  refine Ends.ret3 Try.func13 Try.results13 hA rfl rfl rfl ?_
  exact ⟨_, _, _, rfl, hm1c2, hM⟩
set_option maxRecDepth 100000 in
set_option maxHeartbeats 400000 in
theorem ccounts_any  (w : World) :
    Calls Try.prog 14 #[] w fun e w' => e = .returned (.bool true) ∧ Below w.heap.size w w' := by
  have hM := Mem.start w
  refine Calls.of_ends (vs := []) Try.func14 rfl Try.ntmps14 rfl ?_
  intro a hA
  replace hA : St 49 [] a := hA
  refine Ends.seq ?_
  refine Ends.region ?_
  refine S.val hA (R.assign rfl) rfl ?_; clear hA a; intro a hA
  refine S.done ?_
  replace hA : St 49 [(0, _)] a := hA.sub ((.cons rfl .nil))
  refine Ends.seq ?_
  refine Ends.region ?_
  refine S.call hA (R.callF Try.func13 rfl rfl rfl) rfl (cfresh_any 1 2 (by first | omega | simp | (simp; omega)) (by first | omega | simp | (simp; omega)) _) ?_; clear hA a
  rintro e w1 ⟨q1, m2, c3, rfl, hm2c3, hn⟩
  replace hM : Mem _ _ [pt q1 #[.pointer (some ⟨m2, 0, none⟩), .int .i64 1] 108, memO m2 c3 [0, 1, 2, 0] 2 ⟨2, 2, 0, 2, true⟩] _ := hM.call hn; clear hn
  refine ⟨.tuple #[.pointer (some ⟨q1, 0, none⟩), .pointer (some ⟨m2, 0, none⟩), .bool true], rfl, fun a hA => ?_⟩
  refine S.val hA (R.move rfl) rfl ?_; clear hA a; intro a hA
  refine S.val hA (R.extract (v := .pointer (some ⟨q1, 0, none⟩)) rfl rfl) rfl ?_; clear hA a; intro a hA
  refine S.val hA (R.extract (v := .pointer (some ⟨m2, 0, none⟩)) rfl rfl) rfl ?_; clear hA a; intro a hA
  refine S.val hA (R.extract (v := .bool true) rfl rfl) rfl ?_; clear hA a; intro a hA
  refine S.val hA (R.assign rfl) rfl ?_; clear hA a; intro a hA
  refine S.val hA (R.assign rfl) rfl ?_; clear hA a; intro a hA
  refine S.val hA (R.assign rfl) rfl ?_; clear hA a; intro a hA
  refine S.done ?_
  replace hA : St 49 [(0, _), (1, _), (3, _)] a := hA.sub ((.cons rfl (.cons rfl (.cons rfl .nil))))
  refine Ends.seq ?_
  refine Ends.seq ?_
  refine Ends.region ?_
  refine S.val hA (R.move rfl) rfl ?_; clear hA a; intro a hA
  refine S.val hA (R.not rfl) rfl ?_; clear hA a; intro a hA
  refine S.done ?_
  replace hA : St 49 [(0, _), (1, _), (13, _)] a := hA.sub ((.cons rfl (.cons rfl (.cons rfl .nil))))
  refine Ends.condF hA rfl ?_
  refine Ends.skip ?_
  refine Ends.seq ?_
  refine Ends.region ?_
  refine S.val hA (R.move rfl) rfl ?_; clear hA a; intro a hA
  refine S.call hA (R.callF Try.func15 rfl rfl rfl) rfl (leave_ok q1 _) ?_; clear hA a
  rintro e w2 ⟨p4, rfl, hn⟩
  replace hM : Mem _ _ [pt p4 #[.pointer (some ⟨q1, 0, none⟩), .bool false, .int .i64 0, .bool false, .bool false] 105, pt q1 #[.pointer (some ⟨m2, 0, none⟩), .int .i64 1] 108, memO m2 c3 [0, 1, 2, 0] 2 ⟨2, 2, 0, 2, true⟩] _ := hM.call hn; clear hn
  refine ⟨.pointer (some ⟨p4, 0, none⟩), rfl, fun a hA => ?_⟩
  refine S.val hA (R.move rfl) rfl ?_; clear hA a; intro a hA
  refine S.call hA (R.callF Try.func15 rfl rfl rfl) rfl (leave_ok q1 _) ?_; clear hA a
  rintro e w3 ⟨p5, rfl, hn⟩
  replace hM : Mem _ _ [pt p5 #[.pointer (some ⟨q1, 0, none⟩), .bool false, .int .i64 0, .bool false, .bool false] 105, pt p4 #[.pointer (some ⟨q1, 0, none⟩), .bool false, .int .i64 0, .bool false, .bool false] 105, pt q1 #[.pointer (some ⟨m2, 0, none⟩), .int .i64 1] 108, memO m2 c3 [0, 1, 2, 0] 2 ⟨2, 2, 0, 2, true⟩] _ := hM.call hn; clear hn
  refine ⟨.pointer (some ⟨p5, 0, none⟩), rfl, fun a hA => ?_⟩
  refine S.val hA (R.assign rfl) rfl ?_; clear hA a; intro a hA
  refine S.val hA (R.assign rfl) rfl ?_; clear hA a; intro a hA
  refine S.done ?_
  replace hA : St 49 [(0, _), (1, _), (4, _), (5, _)] a := hA.sub ((.cons rfl (.cons rfl (.cons rfl (.cons rfl .nil)))))
  refine Ends.seq ?_
  refine Ends.seq ?_
  refine Ends.region ?_
  refine S.val hA (R.assign rfl) rfl ?_; clear hA a; intro a hA
  refine S.done ?_
  replace hA : St 49 [(0, _), (1, _), (4, _), (5, _), (6, _)] a := hA.sub ((.cons rfl (.cons rfl (.cons rfl (.cons rfl (.cons rfl .nil))))))
  refine Ends.block ?_
  refine Ends.unroll ?_
  refine Ends.seq ?_
  refine Ends.seq ?_
  refine Ends.region ?_
  refine S.val hA (R.move rfl) rfl ?_; clear hA a; intro a hA
  refine S.val hA (R.tt (R.lss rfl rfl) (by first | decide | simp | omega)) rfl ?_; clear hA a; intro a hA
  refine S.done ?_
  replace hA : St 49 [(0, _), (1, _), (4, _), (5, _), (6, _), (18, _), (19, _)] a := hA.sub ((.cons rfl (.cons rfl (.cons rfl (.cons rfl (.cons rfl (.cons rfl (.cons rfl .nil))))))))
  refine Ends.condT hA rfl ?_
  refine Ends.skip ?_
  refine Ends.seq ?_
  refine Ends.block ?_
  refine Ends.seq ?_
  refine Ends.region ?_
  refine S.val hA (R.move rfl) rfl ?_; clear hA a; intro a hA
  replace hM := hM.front (k := 3) rfl
  replace hM := hM.front (k := 3) rfl
  replace hM := hM.front (k := 3) rfl
  replace hM : Mem _ _ [pt p4 #[.pointer (some ⟨q1, 0, none⟩), .bool false, .int .i64 0, .bool false, .bool false] 105, pt q1 #[.pointer (some ⟨m2, 0, none⟩), .int .i64 1] 108, memO m2 c3 [0, 1, 2, 0] 2 ⟨2, 2, 0, 2, true⟩, pt p5 #[.pointer (some ⟨q1, 0, none⟩), .bool false, .int .i64 0, .bool false, .bool false] 105] _ := hM
  refine S.call hA (R.callF Try.func17 rfl rfl rfl) rfl (cstep_look_more q1 m2 c3 1 [0, 1, 2, 0] 2 ⟨2, 2, 0, 2, true⟩ (by first | omega | simp | (simp; omega)) (by first | omega | simp | (simp; omega)) (by first | omega | simp | (simp; omega)) hm2c3 p4 0 false (by show 1 < 2; omega) _ (hM.hereN 3)) ?_; clear hA a
  rintro e w4 ⟨rfl, hn⟩
  replace hM : Mem _ _ [pt p4 #[.pointer (some ⟨q1, 0, none⟩), .bool true, .int .i64 2, .bool false, .bool false] 105, pt q1 #[.pointer (some ⟨m2, 0, none⟩), .int .i64 1] 108, memO m2 c3 [0, 1, 2, 0] 3 ⟨1, 2, 2, 2, true⟩, pt p5 #[.pointer (some ⟨q1, 0, none⟩), .bool false, .int .i64 0, .bool false, .bool false] 105] _ := hM.callL 3 hn; clear hn
  refine ⟨.bool false, rfl, fun a hA => ?_⟩
  refine S.done ?_
  replace hA : St 49 [(0, _), (1, _), (4, _), (5, _), (6, _), (18, _), (19, _), (22, _)] a := hA.sub ((.cons rfl (.cons rfl (.cons rfl (.cons rfl (.cons rfl (.cons rfl (.cons rfl (.cons rfl .nil)))))))))
  refine Ends.region ?_
  refine S.val hA (R.move rfl) rfl ?_; clear hA a; intro a hA
  replace hM := hM.front (k := 2) rfl
  replace hM := hM.front (k := 2) rfl
  replace hM := hM.front (k := 3) rfl
  replace hM : Mem _ _ [pt p5 #[.pointer (some ⟨q1, 0, none⟩), .bool false, .int .i64 0, .bool false, .bool false] 105, pt q1 #[.pointer (some ⟨m2, 0, none⟩), .int .i64 1] 108, memO m2 c3 [0, 1, 2, 0] 3 ⟨1, 2, 2, 2, true⟩, pt p4 #[.pointer (some ⟨q1, 0, none⟩), .bool true, .int .i64 2, .bool false, .bool false] 105] _ := hM
  refine S.call hA (R.callF Try.func17 rfl rfl rfl) rfl (cstep_look_more q1 m2 c3 1 [0, 1, 2, 0] 3 ⟨1, 2, 2, 2, true⟩ (by first | omega | simp | (simp; omega)) (by first | omega | simp | (simp; omega)) (by first | omega | simp | (simp; omega)) hm2c3 p5 0 false (by show 1 < 2; omega) _ (hM.hereN 3)) ?_; clear hA a
  rintro e w5 ⟨rfl, hn⟩
  replace hM : Mem _ _ [pt p5 #[.pointer (some ⟨q1, 0, none⟩), .bool true, .int .i64 2, .bool false, .bool false] 105, pt q1 #[.pointer (some ⟨m2, 0, none⟩), .int .i64 1] 108, memO m2 c3 [0, 1, 2, 0] 4 ⟨1, 2, 2, 2, true⟩, pt p4 #[.pointer (some ⟨q1, 0, none⟩), .bool true, .int .i64 2, .bool false, .bool false] 105] _ := hM.callL 3 hn; clear hn
  refine ⟨.bool false, rfl, fun a hA => ?_⟩
  refine S.done ?_
  replace hA : St 49 [(0, _), (1, _), (4, _), (5, _), (6, _), (18, _), (19, _), (22, _), (24, _)] a := hA.sub ((.cons rfl (.cons rfl (.cons rfl (.cons rfl (.cons rfl (.cons rfl (.cons rfl (.cons rfl (.cons rfl .nil))))))))))
  refine Ends.inBlock ?_
  refine Ends.region ?_
  refine S.val hA (R.move rfl) rfl ?_; clear hA a; intro a hA
  refine S.val hA (R.addI rfl rfl (r := 1) rfl (by omega)) rfl ?_; clear hA a; intro a hA
  refine S.val hA (R.assign rfl) rfl ?_; clear hA a; intro a hA
  refine S.done ?_
  replace hA : St 49 [(0, _), (1, _), (4, _), (5, _), (6, _), (18, _), (19, _), (20, _), (21, _), (22, _), (24, _)] a := hA.sub ((.cons rfl (.cons rfl (.cons rfl (.cons rfl (.cons rfl (.cons rfl (.cons rfl (.cons rfl (.cons rfl (.cons rfl (.cons rfl .nil))))))))))))
  refine Ends.inLoop ?_
  refine Ends.seq ?_
  refine Ends.seq ?_
  refine Ends.region ?_
  refine S.val hA (R.move rfl) rfl ?_; clear hA a; intro a hA
  refine S.val hA (R.tt (R.lss rfl rfl) (by first | decide | simp | omega)) rfl ?_; clear hA a; intro a hA
  refine S.done ?_
  replace hA : St 49 [(0, _), (1, _), (4, _), (5, _), (6, _), (18, _), (19, _), (20, _), (21, _), (22, _), (24, _)] a := hA.sub ((.cons rfl (.cons rfl (.cons rfl (.cons rfl (.cons rfl (.cons rfl (.cons rfl (.cons rfl (.cons rfl (.cons rfl (.cons rfl .nil))))))))))))
  refine Ends.condT hA rfl ?_
  refine Ends.skip ?_
  refine Ends.seq ?_
  refine Ends.block ?_
  refine Ends.seq ?_
  refine Ends.region ?_
  refine S.val hA (R.move rfl) rfl ?_; clear hA a; intro a hA
  replace hM := hM.front (k := 2) rfl
  replace hM := hM.front (k := 2) rfl
  replace hM := hM.front (k := 3) rfl
  replace hM : Mem _ _ [pt p4 #[.pointer (some ⟨q1, 0, none⟩), .bool true, .int .i64 2, .bool false, .bool false] 105, pt q1 #[.pointer (some ⟨m2, 0, none⟩), .int .i64 1] 108, memO m2 c3 [0, 1, 2, 0] 4 ⟨1, 2, 2, 2, true⟩, pt p5 #[.pointer (some ⟨q1, 0, none⟩), .bool true, .int .i64 2, .bool false, .bool false] 105] _ := hM
  refine S.call hA (R.callF Try.func17 rfl rfl rfl) rfl (cstep_hit q1 m2 c3 1 [0, 1, 2, 0] 4 ⟨1, 2, 2, 2, true⟩ (by first | omega | simp | (simp; omega)) (by first | omega | simp | (simp; omega)) (by first | omega | simp | (simp; omega)) hm2c3 p4 2 false (by show 2 = 2; first | rfl | omega) (by first | omega | simp | (simp; omega)) _ (hM.hereN 3)) ?_; clear hA a
  rintro e w6 ⟨rfl, hn⟩
  replace hM : Mem _ _ [pt p4 #[.pointer (some ⟨q1, 0, none⟩), .bool false, .int .i64 2, .bool true, .bool true] 105, pt q1 #[.pointer (some ⟨m2, 0, none⟩), .int .i64 1] 108, memO m2 c3 [0, 1, 1, 0] 5 ⟨3, 2, 2, 1, true⟩, pt p5 #[.pointer (some ⟨q1, 0, none⟩), .bool true, .int .i64 2, .bool false, .bool false] 105] _ := hM.callL 3 hn; clear hn
  refine ⟨.bool true, rfl, fun a hA => ?_⟩
  refine S.done ?_
  replace hA : St 49 [(0, _), (1, _), (4, _), (5, _), (6, _), (18, _), (19, _), (20, _), (21, _), (22, _), (24, _)] a := hA.sub ((.cons rfl (.cons rfl (.cons rfl (.cons rfl (.cons rfl (.cons rfl (.cons rfl (.cons rfl (.cons rfl (.cons rfl (.cons rfl .nil))))))))))))
  refine Ends.region ?_
  refine S.val hA (R.move rfl) rfl ?_; clear hA a; intro a hA
  replace hM := hM.front (k := 2) rfl
  replace hM := hM.front (k := 2) rfl
  replace hM := hM.front (k := 3) rfl
  replace hM : Mem _ _ [pt p5 #[.pointer (some ⟨q1, 0, none⟩), .bool true, .int .i64 2, .bool false, .bool false] 105, pt q1 #[.pointer (some ⟨m2, 0, none⟩), .int .i64 1] 108, memO m2 c3 [0, 1, 1, 0] 5 ⟨3, 2, 2, 1, true⟩, pt p4 #[.pointer (some ⟨q1, 0, none⟩), .bool false, .int .i64 2, .bool true, .bool true] 105] _ := hM
  refine S.call hA (R.callF Try.func17 rfl rfl rfl) rfl (cstep_miss q1 m2 c3 1 [0, 1, 1, 0] 5 ⟨3, 2, 2, 1, true⟩ (by first | omega | simp | (simp; omega)) (by first | omega | simp | (simp; omega)) (by first | omega | simp | (simp; omega)) hm2c3 p5 2 false (by show 1 ≠ 2; omega) (by first | omega | simp | (simp; omega)) _ (hM.hereN 3)) ?_; clear hA a
  rintro e w7 ⟨rfl, hn⟩
  replace hM : Mem _ _ [pt p5 #[.pointer (some ⟨q1, 0, none⟩), .bool false, .int .i64 2, .bool false, .bool false] 105, pt q1 #[.pointer (some ⟨m2, 0, none⟩), .int .i64 1] 108, memO m2 c3 [0, 1, 1, 0] 6 ⟨3, 2, 1, 1, false⟩, pt p4 #[.pointer (some ⟨q1, 0, none⟩), .bool false, .int .i64 2, .bool true, .bool true] 105] _ := hM.callL 3 hn; clear hn
  refine ⟨.bool false, rfl, fun a hA => ?_⟩
  refine S.done ?_
  replace hA : St 49 [(0, _), (1, _), (4, _), (5, _), (6, _), (18, _), (19, _), (20, _), (21, _), (22, _), (24, _)] a := hA.sub ((.cons rfl (.cons rfl (.cons rfl (.cons rfl (.cons rfl (.cons rfl (.cons rfl (.cons rfl (.cons rfl (.cons rfl (.cons rfl .nil))))))))))))
  refine Ends.inBlock ?_
  refine Ends.region ?_
  refine S.val hA (R.move rfl) rfl ?_; clear hA a; intro a hA
  refine S.val hA (R.addI rfl rfl (r := 2) rfl (by omega)) rfl ?_; clear hA a; intro a hA
  refine S.val hA (R.assign rfl) rfl ?_; clear hA a; intro a hA
  refine S.done ?_
  replace hA : St 49 [(0, _), (1, _), (4, _), (5, _), (6, _), (18, _), (19, _), (20, _), (21, _), (22, _), (24, _)] a := hA.sub ((.cons rfl (.cons rfl (.cons rfl (.cons rfl (.cons rfl (.cons rfl (.cons rfl (.cons rfl (.cons rfl (.cons rfl (.cons rfl .nil))))))))))))
  refine Ends.inLoop ?_
  refine Ends.seq ?_
  refine Ends.seq ?_
  refine Ends.region ?_
  refine S.val hA (R.move rfl) rfl ?_; clear hA a; intro a hA
  refine S.val hA (R.tt (R.lss rfl rfl) (by first | decide | simp | omega)) rfl ?_; clear hA a; intro a hA
  refine S.done ?_
  replace hA : St 49 [(0, _), (1, _), (4, _), (5, _), (6, _), (18, _), (19, _), (20, _), (21, _), (22, _), (24, _)] a := hA.sub ((.cons rfl (.cons rfl (.cons rfl (.cons rfl (.cons rfl (.cons rfl (.cons rfl (.cons rfl (.cons rfl (.cons rfl (.cons rfl .nil))))))))))))
  refine Ends.condT hA rfl ?_
  refine Ends.skip ?_
  refine Ends.seq ?_
  refine Ends.block ?_
  refine Ends.seq ?_
  refine Ends.region ?_
  refine S.val hA (R.move rfl) rfl ?_; clear hA a; intro a hA
  replace hM := hM.front (k := 2) rfl
  replace hM := hM.front (k := 2) rfl
  replace hM := hM.front (k := 3) rfl
  replace hM : Mem _ _ [pt p4 #[.pointer (some ⟨q1, 0, none⟩), .bool false, .int .i64 2, .bool true, .bool true] 105, pt q1 #[.pointer (some ⟨m2, 0, none⟩), .int .i64 1] 108, memO m2 c3 [0, 1, 1, 0] 6 ⟨3, 2, 1, 1, false⟩, pt p5 #[.pointer (some ⟨q1, 0, none⟩), .bool false, .int .i64 2, .bool false, .bool false] 105] _ := hM
  refine S.call hA (R.callF Try.func17 rfl rfl rfl) rfl (cstep_over q1 m2 c3 1 [0, 1, 1, 0] 6 ⟨3, 2, 1, 1, false⟩ (by first | omega | simp | (simp; omega)) (by first | omega | simp | (simp; omega)) (by first | omega | simp | (simp; omega)) hm2c3 p4 2 false true _ (hM.hereN 3)) ?_; clear hA a
  rintro e w8 ⟨rfl, hn⟩
  replace hM : Mem _ _ [pt p4 #[.pointer (some ⟨q1, 0, none⟩), .bool false, .int .i64 2, .bool true, .bool true] 105, pt q1 #[.pointer (some ⟨m2, 0, none⟩), .int .i64 1] 108, memO m2 c3 [0, 1, 1, 0] 6 ⟨3, 2, 1, 1, false⟩, pt p5 #[.pointer (some ⟨q1, 0, none⟩), .bool false, .int .i64 2, .bool false, .bool false] 105] _ := hM.callL 3 hn; clear hn
  refine ⟨.bool true, rfl, fun a hA => ?_⟩
  refine S.done ?_
  replace hA : St 49 [(0, _), (1, _), (4, _), (5, _), (6, _), (18, _), (19, _), (20, _), (21, _), (22, _), (24, _)] a := hA.sub ((.cons rfl (.cons rfl (.cons rfl (.cons rfl (.cons rfl (.cons rfl (.cons rfl (.cons rfl (.cons rfl (.cons rfl (.cons rfl .nil))))))))))))
  refine Ends.region ?_
  refine S.val hA (R.move rfl) rfl ?_; clear hA a; intro a hA
  replace hM := hM.front (k := 2) rfl
  replace hM := hM.front (k := 2) rfl
  replace hM := hM.front (k := 3) rfl
  replace hM : Mem _ _ [pt p5 #[.pointer (some ⟨q1, 0, none⟩), .bool false, .int .i64 2, .bool false, .bool false] 105, pt q1 #[.pointer (some ⟨m2, 0, none⟩), .int .i64 1] 108, memO m2 c3 [0, 1, 1, 0] 6 ⟨3, 2, 1, 1, false⟩, pt p4 #[.pointer (some ⟨q1, 0, none⟩), .bool false, .int .i64 2, .bool true, .bool true] 105] _ := hM
  refine S.call hA (R.callF Try.func17 rfl rfl rfl) rfl (cstep_look_last q1 m2 c3 1 [0, 1, 1, 0] 6 ⟨3, 2, 1, 1, false⟩ (by first | omega | simp | (simp; omega)) (by first | omega | simp | (simp; omega)) (by first | omega | simp | (simp; omega)) hm2c3 p5 2 false (by show 1 ≤ 1; omega) _ (hM.hereN 3)) ?_; clear hA a
  rintro e w9 ⟨rfl, hn⟩
  replace hM : Mem _ _ [pt p5 #[.pointer (some ⟨q1, 0, none⟩), .bool true, .int .i64 1, .bool true, .bool false] 105, pt q1 #[.pointer (some ⟨m2, 0, none⟩), .int .i64 1] 108, memO m2 c3 [0, 1, 1, 0] 7 ⟨1, 2, 1, 1, true⟩, pt p4 #[.pointer (some ⟨q1, 0, none⟩), .bool false, .int .i64 2, .bool true, .bool true] 105] _ := hM.callL 3 hn; clear hn
  refine ⟨.bool true, rfl, fun a hA => ?_⟩
  refine S.done ?_
  replace hA : St 49 [(0, _), (1, _), (4, _), (5, _), (6, _), (18, _), (19, _), (20, _), (21, _), (22, _), (24, _)] a := hA.sub ((.cons rfl (.cons rfl (.cons rfl (.cons rfl (.cons rfl (.cons rfl (.cons rfl (.cons rfl (.cons rfl (.cons rfl (.cons rfl .nil))))))))))))
  refine Ends.inBlock ?_
  refine Ends.region ?_
  refine S.val hA (R.move rfl) rfl ?_; clear hA a; intro a hA
  refine S.val hA (R.addI rfl rfl (r := 3) rfl (by omega)) rfl ?_; clear hA a; intro a hA
  refine S.val hA (R.assign rfl) rfl ?_; clear hA a; intro a hA
  refine S.done ?_
  replace hA : St 49 [(0, _), (1, _), (4, _), (5, _), (6, _), (18, _), (19, _), (20, _), (21, _), (22, _), (24, _)] a := hA.sub ((.cons rfl (.cons rfl (.cons rfl (.cons rfl (.cons rfl (.cons rfl (.cons rfl (.cons rfl (.cons rfl (.cons rfl (.cons rfl .nil))))))))))))
  refine Ends.inLoop ?_
  refine Ends.seq ?_
  refine Ends.seq ?_
  refine Ends.region ?_
  refine S.val hA (R.move rfl) rfl ?_; clear hA a; intro a hA
  refine S.val hA (R.tt (R.lss rfl rfl) (by first | decide | simp | omega)) rfl ?_; clear hA a; intro a hA
  refine S.done ?_
  replace hA : St 49 [(0, _), (1, _), (4, _), (5, _), (6, _), (18, _), (19, _), (20, _), (21, _), (22, _), (24, _)] a := hA.sub ((.cons rfl (.cons rfl (.cons rfl (.cons rfl (.cons rfl (.cons rfl (.cons rfl (.cons rfl (.cons rfl (.cons rfl (.cons rfl .nil))))))))))))
  refine Ends.condT hA rfl ?_
  refine Ends.skip ?_
  refine Ends.seq ?_
  refine Ends.block ?_
  refine Ends.seq ?_
  refine Ends.region ?_
  refine S.val hA (R.move rfl) rfl ?_; clear hA a; intro a hA
  replace hM := hM.front (k := 2) rfl
  replace hM := hM.front (k := 2) rfl
  replace hM := hM.front (k := 3) rfl
  replace hM : Mem _ _ [pt p4 #[.pointer (some ⟨q1, 0, none⟩), .bool false, .int .i64 2, .bool true, .bool true] 105, pt q1 #[.pointer (some ⟨m2, 0, none⟩), .int .i64 1] 108, memO m2 c3 [0, 1, 1, 0] 7 ⟨1, 2, 1, 1, true⟩, pt p5 #[.pointer (some ⟨q1, 0, none⟩), .bool true, .int .i64 1, .bool true, .bool false] 105] _ := hM
  refine S.call hA (R.callF Try.func17 rfl rfl rfl) rfl (cstep_over q1 m2 c3 1 [0, 1, 1, 0] 7 ⟨1, 2, 1, 1, true⟩ (by first | omega | simp | (simp; omega)) (by first | omega | simp | (simp; omega)) (by first | omega | simp | (simp; omega)) hm2c3 p4 2 false true _ (hM.hereN 3)) ?_; clear hA a
  rintro e w10 ⟨rfl, hn⟩
  replace hM : Mem _ _ [pt p4 #[.pointer (some ⟨q1, 0, none⟩), .bool false, .int .i64 2, .bool true, .bool true] 105, pt q1 #[.pointer (some ⟨m2, 0, none⟩), .int .i64 1] 108, memO m2 c3 [0, 1, 1, 0] 7 ⟨1, 2, 1, 1, true⟩, pt p5 #[.pointer (some ⟨q1, 0, none⟩), .bool true, .int .i64 1, .bool true, .bool false] 105] _ := hM.callL 3 hn; clear hn
  refine ⟨.bool true, rfl, fun a hA => ?_⟩
  refine S.done ?_
  replace hA : St 49 [(0, _), (1, _), (4, _), (5, _), (6, _), (18, _), (19, _), (20, _), (21, _), (22, _), (24, _)] a := hA.sub ((.cons rfl (.cons rfl (.cons rfl (.cons rfl (.cons rfl (.cons rfl (.cons rfl (.cons rfl (.cons rfl (.cons rfl (.cons rfl .nil))))))))))))
  refine Ends.region ?_
  refine S.val hA (R.move rfl) rfl ?_; clear hA a; intro a hA
  replace hM := hM.front (k := 2) rfl
  replace hM := hM.front (k := 2) rfl
  replace hM := hM.front (k := 3) rfl
  replace hM : Mem _ _ [pt p5 #[.pointer (some ⟨q1, 0, none⟩), .bool true, .int .i64 1, .bool true, .bool false] 105, pt q1 #[.pointer (some ⟨m2, 0, none⟩), .int .i64 1] 108, memO m2 c3 [0, 1, 1, 0] 7 ⟨1, 2, 1, 1, true⟩, pt p4 #[.pointer (some ⟨q1, 0, none⟩), .bool false, .int .i64 2, .bool true, .bool true] 105] _ := hM
  refine S.call hA (R.callF Try.func17 rfl rfl rfl) rfl (cstep_over q1 m2 c3 1 [0, 1, 1, 0] 7 ⟨1, 2, 1, 1, true⟩ (by first | omega | simp | (simp; omega)) (by first | omega | simp | (simp; omega)) (by first | omega | simp | (simp; omega)) hm2c3 p5 1 true false _ (hM.hereN 3)) ?_; clear hA a
  rintro e w11 ⟨rfl, hn⟩
  replace hM : Mem _ _ [pt p5 #[.pointer (some ⟨q1, 0, none⟩), .bool true, .int .i64 1, .bool true, .bool false] 105, pt q1 #[.pointer (some ⟨m2, 0, none⟩), .int .i64 1] 108, memO m2 c3 [0, 1, 1, 0] 7 ⟨1, 2, 1, 1, true⟩, pt p4 #[.pointer (some ⟨q1, 0, none⟩), .bool false, .int .i64 2, .bool true, .bool true] 105] _ := hM.callL 3 hn; clear hn
  refine ⟨.bool true, rfl, fun a hA => ?_⟩
  refine S.done ?_
  replace hA : St 49 [(0, _), (1, _), (4, _), (5, _), (6, _), (18, _), (19, _), (20, _), (21, _), (22, _), (24, _)] a := hA.sub ((.cons rfl (.cons rfl (.cons rfl (.cons rfl (.cons rfl (.cons rfl (.cons rfl (.cons rfl (.cons rfl (.cons rfl (.cons rfl .nil))))))))))))
  refine Ends.inBlock ?_
  refine Ends.region ?_
  refine S.val hA (R.move rfl) rfl ?_; clear hA a; intro a hA
  refine S.val hA (R.addI rfl rfl (r := 4) rfl (by omega)) rfl ?_; clear hA a; intro a hA
  refine S.val hA (R.assign rfl) rfl ?_; clear hA a; intro a hA
  refine S.done ?_
  replace hA : St 49 [(0, _), (1, _), (4, _), (5, _), (6, _), (18, _), (19, _), (20, _), (21, _), (22, _), (24, _)] a := hA.sub ((.cons rfl (.cons rfl (.cons rfl (.cons rfl (.cons rfl (.cons rfl (.cons rfl (.cons rfl (.cons rfl (.cons rfl (.cons rfl .nil))))))))))))
  refine Ends.inLoop ?_
  refine Ends.seq ?_
  refine Ends.seq ?_
  refine Ends.region ?_
  refine S.val hA (R.move rfl) rfl ?_; clear hA a; intro a hA
  refine S.val hA (R.ff (R.lss rfl rfl) (by first | decide | simp | omega)) rfl ?_; clear hA a; intro a hA
  refine S.done ?_
  replace hA : St 49 [(0, _), (1, _), (4, _), (5, _), (6, _), (18, _), (19, _), (20, _), (21, _), (22, _), (24, _)] a := hA.sub ((.cons rfl (.cons rfl (.cons rfl (.cons rfl (.cons rfl (.cons rfl (.cons rfl (.cons rfl (.cons rfl (.cons rfl (.cons rfl .nil))))))))))))
  refine Ends.condF hA rfl ?_
  refine Ends.exit rfl ?_
  replace hA : St 49 [(0, _), (1, _), (4, _), (5, _)] a := hA.sub ((.cons rfl (.cons rfl (.cons rfl (.cons rfl .nil)))))
  refine Ends.seq ?_
  refine Ends.region ?_
  refine S.val hA (R.move rfl) rfl ?_; clear hA a; intro a hA
  refine S.call hA (R.callF Try.func16 rfl rfl rfl) rfl (cact_over p4 q1 2 false true true _ (hM.block (k := 3) rfl)) ?_; clear hA a
  rintro e w12 ⟨rfl, rfl⟩
  refine ⟨.bool true, rfl, fun a hA => ?_⟩
  refine S.val hA (R.move rfl) rfl ?_; clear hA a; intro a hA
  refine S.valg (dj := 28) hA (by kernel_rfl) rfl (R.move rfl) rfl ?_; clear hA a; intro a hA
  refine S.callg (dj := 28) hA (by kernel_rfl) rfl (R.callF Try.func16 rfl rfl rfl) rfl (cact_over p5 q1 1 true true false _ (hM.block (k := 0) rfl)) ?_; clear hA a
  rintro e w13 ⟨rfl, rfl⟩
  refine ⟨.bool true, rfl, fun a hA => ?_⟩
  refine S.val hA (R.pickT rfl rfl) rfl ?_; clear hA a; intro a hA
  refine S.val hA (R.move rfl) rfl ?_; clear hA a; intro a hA
  refine S.valg (dj := 32) hA (by kernel_rfl) rfl (R.move rfl) rfl ?_; clear hA a; intro a hA
  refine S.callg (dj := 32) hA (by kernel_rfl) rfl (R.callF Try.func18 rfl rfl rfl) rfl (cact_left p4 q1 2 false true true _ (hM.block (k := 3) rfl)) ?_; clear hA a
  rintro e w14 ⟨rfl, rfl⟩
  refine ⟨.bool true, rfl, fun a hA => ?_⟩
  refine S.valg (dj := 32) hA (by kernel_rfl) rfl (R.move rfl) rfl ?_; clear hA a; intro a hA
  refine S.callg (dj := 32) hA (by kernel_rfl) rfl (R.callF Try.func18 rfl rfl rfl) rfl (cact_left p5 q1 1 true true false _ (hM.block (k := 0) rfl)) ?_; clear hA a
  rintro e w15 ⟨rfl, rfl⟩
  refine ⟨.bool false, rfl, fun a hA => ?_⟩
  refine S.valg (dj := 32) hA (by kernel_rfl) rfl (R.to (v := .bool true) (R.neqB Try.underlying4 rfl rfl) (congrArg Value.bool (by simp))) rfl ?_; clear hA a; intro a hA
  refine S.val hA (R.pickT rfl rfl) rfl ?_; clear hA a; intro a hA
  refine S.val hA (R.move rfl) rfl ?_; clear hA a; intro a hA
  refine S.valg (dj := 39) hA (by kernel_rfl) rfl (R.move rfl) rfl ?_; clear hA a; intro a hA
  replace hM := hM.front (k := 2) rfl
  replace hM := hM.front (k := 2) rfl
  replace hM : Mem _ _ [pt q1 #[.pointer (some ⟨m2, 0, none⟩), .int .i64 1] 108, memO m2 c3 [0, 1, 1, 0] 7 ⟨1, 2, 1, 1, true⟩, pt p5 #[.pointer (some ⟨q1, 0, none⟩), .bool true, .int .i64 1, .bool true, .bool false] 105, pt p4 #[.pointer (some ⟨q1, 0, none⟩), .bool false, .int .i64 2, .bool true, .bool true] 105] _ := hM
  refine S.callg (dj := 39) hA (by kernel_rfl) rfl (R.callF Try.func25 rfl rfl rfl) rfl (cnt_Working q1 m2 c3 1 [0, 1, 1, 0] 7 ⟨1, 2, 1, 1, true⟩ (by first | omega | simp | (simp; omega)) (by first | omega | simp | (simp; omega)) (by first | omega | simp | (simp; omega)) hm2c3 _ (hM.hereN 2)) ?_; clear hA a
  rintro e w16 ⟨rfl, hn⟩
  replace hM : Mem _ _ [pt q1 #[.pointer (some ⟨m2, 0, none⟩), .int .i64 1] 108, memO m2 c3 [0, 1, 1, 0] 8 ⟨1, 2, 1, 1, true⟩, pt p5 #[.pointer (some ⟨q1, 0, none⟩), .bool true, .int .i64 1, .bool true, .bool false] 105, pt p4 #[.pointer (some ⟨q1, 0, none⟩), .bool false, .int .i64 2, .bool true, .bool true] 105] _ := hM.callL 2 hn; clear hn
  refine ⟨.int .i64 1, rfl, fun a hA => ?_⟩
  refine S.valg (dj := 39) hA (by kernel_rfl) rfl (R.tt (R.eql rfl rfl) (by first | decide | simp | omega)) rfl ?_; clear hA a; intro a hA
  refine S.val hA (R.pickT rfl rfl) rfl ?_; clear hA a; intro a hA
  refine S.val hA (R.move rfl) rfl ?_; clear hA a; intro a hA
  refine S.valg (dj := 44) hA (by kernel_rfl) rfl (R.move rfl) rfl ?_; clear hA a; intro a hA
  refine S.callg (dj := 44) hA (by kernel_rfl) rfl (R.callF Try.func24 rfl rfl rfl) rfl (cnt_Open q1 m2 c3 1 [0, 1, 1, 0] 8 ⟨1, 2, 1, 1, true⟩ (by first | omega | simp | (simp; omega)) (by first | omega | simp | (simp; omega)) (by first | omega | simp | (simp; omega)) hm2c3 _ (hM.hereN 2)) ?_; clear hA a
  rintro e w17 ⟨rfl, hn⟩
  replace hM : Mem _ _ [pt q1 #[.pointer (some ⟨m2, 0, none⟩), .int .i64 1] 108, memO m2 c3 [0, 1, 1, 0] 9 ⟨1, 1, 1, 1, true⟩, pt p5 #[.pointer (some ⟨q1, 0, none⟩), .bool true, .int .i64 1, .bool true, .bool false] 105, pt p4 #[.pointer (some ⟨q1, 0, none⟩), .bool false, .int .i64 2, .bool true, .bool true] 105] _ := hM.callL 2 hn; clear hn
  refine ⟨.int .i64 1, rfl, fun a hA => ?_⟩
  refine S.valg (dj := 44) hA (by kernel_rfl) rfl (R.tt (R.eql rfl rfl) (by first | decide | simp | omega)) rfl ?_; clear hA a; intro a hA
  refine S.val hA (R.pickT rfl rfl) rfl ?_; clear hA a; intro a hA
  refine S.val hA (R.assign rfl) rfl ?_; clear hA a; intro a hA
  refine S.done ?_
  replace hA : St 49 [(0, _)] a := hA.sub ((.cons rfl .nil))
  refine Ends.ret1 Try.func14 Try.results14 hA rfl ?_
  exact ⟨rfl, hM.nilL.below⟩
set_option maxRecDepth 100000 in
set_option maxHeartbeats 400000 in
theorem fine23_yes (i o n : Int) (h : 0 ≤ i ∧ i ≤ 2 ∧ 0 ≤ o ∧ 1 ≤ n ∧ n ≤ 16) (w : World) :
    Calls Try.prog 26 #[.int .i64 4, .int .i64 i, .int .i64 o, .int .i64 n] w fun e w' => e = .returned (.bool true) ∧ w = w' := by
  have hM := Mem.start w
  refine Calls.of_ends (vs := [.int .i64 4, .int .i64 i, .int .i64 o, .int .i64 n]) Try.func26 rfl Try.ntmps26 rfl ?_
  intro a hA
  replace hA : St 29 [(0, _), (1, _), (2, _), (3, _)] a := hA
  refine Ends.seq ?_
  refine Ends.region ?_
  refine S.val hA (R.assign rfl) rfl ?_; clear hA a; intro a hA
  refine S.done ?_
  replace hA : St 29 [(0, _), (1, _), (2, _), (3, _), (8, _)] a := hA.sub ((.cons rfl (.cons rfl (.cons rfl (.cons rfl (.cons rfl .nil))))))
  refine Ends.seq ?_
  refine Ends.region ?_
  refine S.val hA (R.move rfl) rfl ?_; clear hA a; intro a hA
  refine S.val hA (R.tt (R.geq rfl rfl) (by omega)) rfl ?_; clear hA a; intro a hA
  refine S.val hA (R.move rfl) rfl ?_; clear hA a; intro a hA
  refine S.valg (dj := 11) hA (by kernel_rfl) rfl (R.move rfl) rfl ?_; clear hA a; intro a hA
  refine S.valg (dj := 11) hA (by kernel_rfl) rfl (R.move rfl) rfl ?_; clear hA a; intro a hA
  refine S.valg (dj := 11) hA (by kernel_rfl) rfl (R.subI rfl rfl (r := 2) rfl (by omega)) rfl ?_; clear hA a; intro a hA
  refine S.valg (dj := 11) hA (by kernel_rfl) rfl (R.tt (R.leq rfl rfl) (by omega)) rfl ?_; clear hA a; intro a hA
  refine S.val hA (R.pickT rfl rfl) rfl ?_; clear hA a; intro a hA
  refine S.val hA (R.move rfl) rfl ?_; clear hA a; intro a hA
  refine S.valg (dj := 17) hA (by kernel_rfl) rfl (R.move rfl) rfl ?_; clear hA a; intro a hA
  refine S.valg (dj := 17) hA (by kernel_rfl) rfl (R.tt (R.geq rfl rfl) (by omega)) rfl ?_; clear hA a; intro a hA
  refine S.val hA (R.pickT rfl rfl) rfl ?_; clear hA a; intro a hA
  refine S.val hA (R.move rfl) rfl ?_; clear hA a; intro a hA
  refine S.valg (dj := 21) hA (by kernel_rfl) rfl (R.move rfl) rfl ?_; clear hA a; intro a hA
  refine S.valg (dj := 21) hA (by kernel_rfl) rfl (R.tt (R.geq rfl rfl) (by omega)) rfl ?_; clear hA a; intro a hA
  refine S.val hA (R.pickT rfl rfl) rfl ?_; clear hA a; intro a hA
  refine S.val hA (R.move rfl) rfl ?_; clear hA a; intro a hA
  refine S.valg (dj := 25) hA (by kernel_rfl) rfl (R.move rfl) rfl ?_; clear hA a; intro a hA
  refine S.valg (dj := 25) hA (by kernel_rfl) rfl (R.tt (R.leq rfl rfl) (by omega)) rfl ?_; clear hA a; intro a hA
  refine S.val hA (R.pickT rfl rfl) rfl ?_; clear hA a; intro a hA
  refine S.val hA (R.assign rfl) rfl ?_; clear hA a; intro a hA
  refine S.done ?_
  replace hA : St 29 [(8, _)] a := hA.sub ((.cons rfl .nil))
  refine Ends.ret1 Try.func26 Try.results26 hA rfl ?_
  exact ⟨rfl, rfl⟩
set_option maxRecDepth 100000 in
set_option maxHeartbeats 400000 in
theorem fine23_no (i o n : Int) (h : ¬ (0 ≤ i ∧ i ≤ 2 ∧ 0 ≤ o ∧ 1 ≤ n ∧ n ≤ 16)) (w : World) :
    Calls Try.prog 26 #[.int .i64 4, .int .i64 i, .int .i64 o, .int .i64 n] w fun e w' => e = .returned (.bool false) ∧ Below w.heap.size w w' := by
  have hM := Mem.start w
  refine Calls.of_ends (vs := [.int .i64 4, .int .i64 i, .int .i64 o, .int .i64 n]) Try.func26 rfl Try.ntmps26 rfl ?_
  intro a hA
  replace hA : St 29 [(0, _), (1, _), (2, _), (3, _)] a := hA
  refine Ends.seq ?_
  refine Ends.region ?_
  refine S.val hA (R.assign rfl) rfl ?_; clear hA a; intro a hA
  refine S.done ?_
  replace hA : St 29 [(0, _), (1, _), (2, _), (3, _), (8, _)] a := hA.sub ((.cons rfl (.cons rfl (.cons rfl (.cons rfl (.cons rfl .nil))))))
  refine Ends.seq ?_
  refine Ends.cut (fun (a : Act) (wv : World) => St 29 [(8, .bool (decide (((((0 ≤ i ∧ i ≤ 2) ∧ 0 ≤ o) ∧ 1 ≤ n) ∧ n ≤ 16))))] a ∧ Mem w nof [] wv) ?_ (fun k2 hJ => ?_)
  · clear hA hM a; rintro a w1 ⟨hA, hM⟩
    refine Ends.ret1 Try.func26 Try.results26 hA rfl ?_
    exact ⟨by rw [decide_eq_false (by omega)], hM.nilL.below⟩
  ·
    refine Ends.region ?_
    refine S.val hA (R.move rfl) rfl ?_; clear hA a; intro a hA
    refine S.val hA (R.geq rfl rfl) rfl ?_; clear hA a; intro a hA
    refine S.val hA (R.move rfl) rfl ?_; clear hA a; intro a hA
    refine hA.split (d := 11) rfl ?_ ?_
    · clear hA; intro hg1 hA
      refine S.valg (dj := 11) hA (by kernel_rfl) rfl (R.move rfl) rfl ?_; clear hA a; intro a hA
      refine S.valg (dj := 11) hA (by kernel_rfl) rfl (R.move rfl) rfl ?_; clear hA a; intro a hA
      refine S.valg (dj := 11) hA (by kernel_rfl) rfl (R.subI rfl rfl (r := 2) rfl (by omega)) rfl ?_; clear hA a; intro a hA
      refine S.valg (dj := 11) hA (by kernel_rfl) rfl (R.leq rfl rfl) rfl ?_; clear hA a; intro a hA
      refine S.val hA (R.pickT rfl rfl) rfl ?_; clear hA a; intro a hA
      refine S.val hA (R.move rfl) rfl ?_; clear hA a; intro a hA
      refine hA.split (d := 17) rfl ?_ ?_
      · clear hA; intro hg2 hA
        refine S.valg (dj := 17) hA (by kernel_rfl) rfl (R.move rfl) rfl ?_; clear hA a; intro a hA
        refine S.valg (dj := 17) hA (by kernel_rfl) rfl (R.geq rfl rfl) rfl ?_; clear hA a; intro a hA
        refine S.val hA (R.pickT rfl rfl) rfl ?_; clear hA a; intro a hA
        refine S.val hA (R.move rfl) rfl ?_; clear hA a; intro a hA
        refine hA.split (d := 21) rfl ?_ ?_
        · clear hA; intro hg3 hA
          refine S.valg (dj := 21) hA (by kernel_rfl) rfl (R.move rfl) rfl ?_; clear hA a; intro a hA
          refine S.valg (dj := 21) hA (by kernel_rfl) rfl (R.geq rfl rfl) rfl ?_; clear hA a; intro a hA
          refine S.val hA (R.pickT rfl rfl) rfl ?_; clear hA a; intro a hA
          refine S.val hA (R.move rfl) rfl ?_; clear hA a; intro a hA
          refine hA.split (d := 25) rfl ?_ ?_
          · clear hA; intro hg4 hA
            refine S.valg (dj := 25) hA (by kernel_rfl) rfl (R.move rfl) rfl ?_; clear hA a; intro a hA
            refine S.valg (dj := 25) hA (by kernel_rfl) rfl (R.leq rfl rfl) rfl ?_; clear hA a; intro a hA
            refine S.val hA (R.pickT rfl rfl) rfl ?_; clear hA a; intro a hA
            refine S.val hA (R.assign rfl) rfl ?_; clear hA a; intro a hA
            refine S.done ?_
            replace hA : St 29 [(8, _)] a := hA.sub ((.cons rfl .nil))
            exact hJ _ _ ⟨hA.sub (.cons (by first | rfl | exact congrArg (fun b => some (Value.bool b)) (by simp [hg1, hg2, hg3, hg4])) .nil), hM⟩
          · clear hA; intro hg4 hA
            refine S.no (dj := 25) hA (by kernel_rfl) rfl rfl rfl ?_; clear hA a; intro a hA
            refine S.no (dj := 25) hA (by kernel_rfl) rfl rfl rfl ?_; clear hA a; intro a hA
            refine S.val hA (R.pickF rfl rfl) rfl ?_; clear hA a; intro a hA
            refine S.val hA (R.assign rfl) rfl ?_; clear hA a; intro a hA
            refine S.done ?_
            replace hA : St 29 [(8, _)] a := hA.sub ((.cons rfl .nil))
            exact hJ _ _ ⟨hA.sub (.cons (by first | rfl | exact congrArg (fun b => some (Value.bool b)) (by simp [hg1, hg2, hg3, hg4])) .nil), hM⟩
        · clear hA; intro hg3 hA
          refine S.no (dj := 21) hA (by kernel_rfl) rfl rfl rfl ?_; clear hA a; intro a hA
          refine S.no (dj := 21) hA (by kernel_rfl) rfl rfl rfl ?_; clear hA a; intro a hA
          refine S.val hA (R.pickF rfl rfl) rfl ?_; clear hA a; intro a hA
          refine S.val hA (R.move rfl) rfl ?_; clear hA a; intro a hA
          refine S.no (dj := 25) hA (by kernel_rfl) rfl rfl rfl ?_; clear hA a; intro a hA
          refine S.no (dj := 25) hA (by kernel_rfl) rfl rfl rfl ?_; clear hA a; intro a hA
          refine S.val hA (R.pickF rfl rfl) rfl ?_; clear hA a; intro a hA
          refine S.val hA (R.assign rfl) rfl ?_; clear hA a; intro a hA
          refine S.done ?_
          replace hA : St 29 [(8, _)] a := hA.sub ((.cons rfl .nil))
          exact hJ _ _ ⟨hA.sub (.cons (by first | rfl | exact congrArg (fun b => some (Value.bool b)) (by simp [hg1, hg2, hg3])) .nil), hM⟩
      · clear hA; intro hg2 hA
        refine S.no (dj := 17) hA (by kernel_rfl) rfl rfl rfl ?_; clear hA a; intro a hA
        refine S.no (dj := 17) hA (by kernel_rfl) rfl rfl rfl ?_; clear hA a; intro a hA
        refine S.val hA (R.pickF rfl rfl) rfl ?_; clear hA a; intro a hA
        refine S.val hA (R.move rfl) rfl ?_; clear hA a; intro a hA
        refine S.no (dj := 21) hA (by kernel_rfl) rfl rfl rfl ?_; clear hA a; intro a hA
        refine S.no (dj := 21) hA (by kernel_rfl) rfl rfl rfl ?_; clear hA a; intro a hA
        refine S.val hA (R.pickF rfl rfl) rfl ?_; clear hA a; intro a hA
        refine S.val hA (R.move rfl) rfl ?_; clear hA a; intro a hA
        refine S.no (dj := 25) hA (by kernel_rfl) rfl rfl rfl ?_; clear hA a; intro a hA
        refine S.no (dj := 25) hA (by kernel_rfl) rfl rfl rfl ?_; clear hA a; intro a hA
        refine S.val hA (R.pickF rfl rfl) rfl ?_; clear hA a; intro a hA
        refine S.val hA (R.assign rfl) rfl ?_; clear hA a; intro a hA
        refine S.done ?_
        replace hA : St 29 [(8, _)] a := hA.sub ((.cons rfl .nil))
        exact hJ _ _ ⟨hA.sub (.cons (by first | rfl | exact congrArg (fun b => some (Value.bool b)) (by simp [hg1, hg2])) .nil), hM⟩
    · clear hA; intro hg1 hA
      refine S.no (dj := 11) hA (by kernel_rfl) rfl rfl rfl ?_; clear hA a; intro a hA
      refine S.no (dj := 11) hA (by kernel_rfl) rfl rfl rfl ?_; clear hA a; intro a hA
      refine S.no (dj := 11) hA (by kernel_rfl) rfl rfl rfl ?_; clear hA a; intro a hA
      refine S.no (dj := 11) hA (by kernel_rfl) rfl rfl rfl ?_; clear hA a; intro a hA
      refine S.val hA (R.pickF rfl rfl) rfl ?_; clear hA a; intro a hA
      refine S.val hA (R.move rfl) rfl ?_; clear hA a; intro a hA
      refine S.no (dj := 17) hA (by kernel_rfl) rfl rfl rfl ?_; clear hA a; intro a hA
      refine S.no (dj := 17) hA (by kernel_rfl) rfl rfl rfl ?_; clear hA a; intro a hA
      refine S.val hA (R.pickF rfl rfl) rfl ?_; clear hA a; intro a hA
      refine S.val hA (R.move rfl) rfl ?_; clear hA a; intro a hA
      refine S.no (dj := 21) hA (by kernel_rfl) rfl rfl rfl ?_; clear hA a; intro a hA
      refine S.no (dj := 21) hA (by kernel_rfl) rfl rfl rfl ?_; clear hA a; intro a hA
      refine S.val hA (R.pickF rfl rfl) rfl ?_; clear hA a; intro a hA
      refine S.val hA (R.move rfl) rfl ?_; clear hA a; intro a hA
      refine S.no (dj := 25) hA (by kernel_rfl) rfl rfl rfl ?_; clear hA a; intro a hA
      refine S.no (dj := 25) hA (by kernel_rfl) rfl rfl rfl ?_; clear hA a; intro a hA
      refine S.val hA (R.pickF rfl rfl) rfl ?_; clear hA a; intro a hA
      refine S.val hA (R.assign rfl) rfl ?_; clear hA a; intro a hA
      refine S.done ?_
      replace hA : St 29 [(8, _)] a := hA.sub ((.cons rfl .nil))
      exact hJ _ _ ⟨hA.sub (.cons (by first | rfl | exact congrArg (fun b => some (Value.bool b)) (by simp [hg1])) .nil), hM⟩
theorem getD_sets (l : List Int) (i : Nat) (o n : Int) (h : i + 1 < l.length) : ((l.set i o).set (i + 1) n).getD i 0 = o ∧ ((l.set i o).set (i + 1) n).getD (i + 1) 0 = n := by
  have h1 : i < l.length := by omega
  constructor
  · simp [h1]
  · simp [h]
theorem sets_same (l : List Int) (j : Nat) (h : j < l.length) : l.set j (l.getD j 0) = l := by
  apply List.ext_getElem?
  intro q
  rw [List.getElem?_set]
  split
  · rename_i e; subst e
    simp [h]
  · rfl
set_option maxRecDepth 100000 in
set_option maxHeartbeats 400000 in
theorem countNews_yes (i o n : Int) (h : 0 ≤ i ∧ i ≤ 2 ∧ 0 ≤ o ∧ 1 ≤ n ∧ n ≤ 16) (w : World) :
    Calls Try.prog 4 #[.int .i64 i, .int .i64 o, .int .i64 n] w fun e w' => e = .returned (.bool true) ∧ Below w.heap.size w w' := by
  have hM := Mem.start w
  have hlen : ((([0, 0, 0, 0].set i.toNat o).set (i + 1).toNat n)).length = 4 := by simp
  obtain ⟨hso, hsw⟩ := getD_sets [0, 0, 0, 0] i.toNat o n (by simp; omega)
  rw [show i.toNat + 1 = (i + 1).toNat by omega] at hso hsw
  have hsw2 : ((([0, 0, 0, 0].set i.toNat o).set (i + 1).toNat n).set i.toNat ((([0, 0, 0, 0].set i.toNat o).set (i + 1).toNat n).getD i.toNat 0)).getD (i + 1).toNat 0 = n := by rw [sets_same _ _ (by rw [hlen]; omega)]; exact hsw
  refine Calls.of_ends (vs := [.int .i64 i, .int .i64 o, .int .i64 n]) Try.func4 rfl Try.ntmps4 rfl ?_
  intro a hA
  replace hA : St 128 [(0, _), (1, _), (2, _)] a := hA
  refine Ends.seq ?_
  refine Ends.region ?_
  refine S.val hA (R.assign rfl) rfl ?_; clear hA a; intro a hA
  refine S.done ?_
  replace hA : St 128 [(0, _), (1, _), (2, _), (6, _)] a := hA.sub ((.cons rfl (.cons rfl (.cons rfl (.cons rfl .nil)))))
  refine Ends.seq ?_
  refine Ends.region ?_
  refine S.call hA (R.callF Try.func20 rfl rfl rfl) rfl (new_ok 4 (by omega) (by omega) _) ?_; clear hA a
  rintro e w1 ⟨m1, c2, rfl, hm1c2, hn⟩
  replace hM : Mem _ _ [memO m1 c2 [0, 0, 0, 0] 0 ⟨0, 0, 0, 0, false⟩] _ := hM.call hn; clear hn
  refine ⟨.tuple #[.pointer (some ⟨m1, 0, none⟩), .int .i64 0], rfl, fun a hA => ?_⟩
  refine S.val hA (R.move rfl) rfl ?_; clear hA a; intro a hA
  refine S.val hA (R.extract (v := .pointer (some ⟨m1, 0, none⟩)) rfl rfl) rfl ?_; clear hA a; intro a hA
  refine S.val hA (R.extract (v := .int .i64 0) rfl rfl) rfl ?_; clear hA a; intro a hA
  refine S.val hA (R.assign rfl) rfl ?_; clear hA a; intro a hA
  refine S.val hA (R.assign rfl) rfl ?_; clear hA a; intro a hA
  refine S.done ?_
  replace hA : St 128 [(0, _), (1, _), (2, _), (6, _), (7, _), (8, _)] a := hA.sub ((.cons rfl (.cons rfl (.cons rfl (.cons rfl (.cons rfl (.cons rfl .nil)))))))
  refine Ends.seq ?_
  refine Ends.region ?_
  refine S.val hA (R.move rfl) rfl ?_; clear hA a; intro a hA
  refine S.val hA (R.move rfl) rfl ?_; clear hA a; intro a hA
  refine S.val hA (R.move rfl) rfl ?_; clear hA a; intro a hA
  refine S.val hA (R.move rfl) rfl ?_; clear hA a; intro a hA
  refine S.call hA (R.callF Try.func21 rfl rfl rfl) rfl (cnew_ok m1 c2 [0, 0, 0, 0] 0 ⟨0, 0, 0, 0, false⟩ i o n hm1c2 (by simp) (by simp; omega) (by omega) (by omega) (by omega) _ (hM.hereN 1)) ?_; clear hA a
  rintro e w2 ⟨q3, rfl, hn⟩
  replace hM : Mem _ _ [pt q3 #[.pointer (some ⟨m1, 0, none⟩), .int .i64 i] 108, memO m1 c2 ((([0, 0, 0, 0].set i.toNat o).set (i + 1).toNat n)) 2 ⟨2, i + 1, ([0, 0, 0, 0].set i.toNat o).getD (i + 1).toNat 0, n, true⟩] _ := hM.callL 1 hn; clear hn
  refine ⟨.tuple #[.pointer (some ⟨q3, 0, none⟩), .int .i64 0], rfl, fun a hA => ?_⟩
  refine S.val hA (R.move rfl) rfl ?_; clear hA a; intro a hA
  refine S.val hA (R.extract (v := .pointer (some ⟨q3, 0, none⟩)) rfl rfl) rfl ?_; clear hA a; intro a hA
  refine S.val hA (R.extract (v := .int .i64 0) rfl rfl) rfl ?_; clear hA a; intro a hA
  refine S.val hA (R.assign rfl) rfl ?_; clear hA a; intro a hA
  refine S.val hA (R.assign rfl) rfl ?_; clear hA a; intro a hA
  refine S.done ?_
  replace hA : St 128 [(0, _), (1, _), (2, _), (6, _), (8, _), (9, _), (10, _)] a := hA.sub ((.cons rfl (.cons rfl (.cons rfl (.cons rfl (.cons rfl (.cons rfl (.cons rfl .nil))))))))
  refine Ends.seq ?_
  refine Ends.region ?_
  refine S.call hA (R.callF Try.func21 rfl rfl rfl) rfl (cnew_nil 0 0 1 _) ?_; clear hA a
  rintro e w3 ⟨rfl, rfl⟩
  refine ⟨.tuple #[.pointer none, .int .i64 1], rfl, fun a hA => ?_⟩
  refine S.val hA (R.move rfl) rfl ?_; clear hA a; intro a hA
  refine S.val hA (R.extract (v := .pointer none) rfl rfl) rfl ?_; clear hA a; intro a hA
  refine S.val hA (R.extract (v := .int .i64 1) rfl rfl) rfl ?_; clear hA a; intro a hA
  refine S.val hA (R.assign rfl) rfl ?_; clear hA a; intro a hA
  refine S.val hA (R.assign rfl) rfl ?_; clear hA a; intro a hA
  refine S.done ?_
  replace hA : St 128 [(0, _), (1, _), (2, _), (6, _), (8, _), (9, _), (10, _), (12, _)] a := hA.sub ((.cons rfl (.cons rfl (.cons rfl (.cons rfl (.cons rfl (.cons rfl (.cons rfl (.cons rfl .nil)))))))))
  refine Ends.seq ?_
  refine Ends.region ?_
  refine S.call hA (R.callF Try.func22 rfl rfl rfl) rfl (cnone_any _) ?_; clear hA a
  rintro e w4 ⟨rfl, rfl⟩
  refine ⟨.pointer none, rfl, fun a hA => ?_⟩
  refine S.call hA (R.callF Try.func23 rfl rfl rfl) rfl (cnt_more_nil 1 _) ?_; clear hA a
  rintro e w5 ⟨rfl, rfl⟩
  refine ⟨.tuple #[], rfl, fun a hA => ?_⟩
  refine S.done ?_
  replace hA : St 128 [(0, _), (1, _), (2, _), (6, _), (8, _), (9, _), (10, _), (12, _)] a := hA.sub ((.cons rfl (.cons rfl (.cons rfl (.cons rfl (.cons rfl (.cons rfl (.cons rfl (.cons rfl .nil)))))))))
  refine Ends.seq ?_
  refine Ends.region ?_
  refine S.call hA (R.callF Try.func22 rfl rfl rfl) rfl (cnone_any _) ?_; clear hA a
  rintro e w6 ⟨rfl, rfl⟩
  refine ⟨.pointer none, rfl, fun a hA => ?_⟩
  refine S.call hA (R.callF Try.func19 rfl rfl rfl) rfl (cnt_now_nil _) ?_; clear hA a
  rintro e w7 ⟨rfl, rfl⟩
  refine ⟨.tuple #[.int .i64 0, .int .i64 0], rfl, fun a hA => ?_⟩
  refine S.val hA (R.move rfl) rfl ?_; clear hA a; intro a hA
  refine S.val hA (R.extract (v := .int .i64 0) rfl rfl) rfl ?_; clear hA a; intro a hA
  refine S.val hA (R.extract (v := .int .i64 0) rfl rfl) rfl ?_; clear hA a; intro a hA
  refine S.val hA (R.assign rfl) rfl ?_; clear hA a; intro a hA
  refine S.val hA (R.assign rfl) rfl ?_; clear hA a; intro a hA
  refine S.done ?_
  replace hA : St 128 [(0, _), (1, _), (2, _), (6, _), (8, _), (9, _), (10, _), (12, _), (13, _), (14, _)] a := hA.sub ((.cons rfl (.cons rfl (.cons rfl (.cons rfl (.cons rfl (.cons rfl (.cons rfl (.cons rfl (.cons rfl (.cons rfl .nil)))))))))))
  refine Ends.seq ?_
  refine Ends.region ?_
  refine S.val hA (R.assign rfl) rfl ?_; clear hA a; intro a hA
  refine S.done ?_
  replace hA : St 128 [(0, _), (1, _), (2, _), (6, _), (8, _), (9, _), (10, _), (12, _), (13, _), (14, _), (15, _)] a := hA.sub ((.cons rfl (.cons rfl (.cons rfl (.cons rfl (.cons rfl (.cons rfl (.cons rfl (.cons rfl (.cons rfl (.cons rfl (.cons rfl .nil))))))))))))
  refine Ends.seq ?_
  refine Ends.seq ?_
  refine Ends.region ?_
  refine S.call hA (R.callF Try.func14 rfl rfl rfl) rfl (ccounts_any _) ?_; clear hA a
  rintro e w8 ⟨rfl, hb⟩
  replace hM := hM.callB hb; clear hb
  refine ⟨.bool true, rfl, fun a hA => ?_⟩
  refine S.val hA (R.not rfl) rfl ?_; clear hA a; intro a hA
  refine S.val hA (R.move rfl) rfl ?_; clear hA a; intro a hA
  refine S.valg (dj := 43) hA (by kernel_rfl) rfl (R.move rfl) rfl ?_; clear hA a; intro a hA
  refine S.valg (dj := 43) hA (by kernel_rfl) rfl (R.ff (R.neq rfl rfl) (by first | decide | simp | omega)) rfl ?_; clear hA a; intro a hA
  refine S.val hA (R.pickF rfl rfl) rfl ?_; clear hA a; intro a hA
  refine S.val hA (R.move rfl) rfl ?_; clear hA a; intro a hA
  refine S.valg (dj := 47) hA (by kernel_rfl) rfl (R.move rfl) rfl ?_; clear hA a; intro a hA
  refine S.valg (dj := 47) hA (by kernel_rfl) rfl (R.ff (R.neq rfl rfl) (by first | decide | simp | omega)) rfl ?_; clear hA a; intro a hA
  refine S.val hA (R.pickF rfl rfl) rfl ?_; clear hA a; intro a hA
  refine S.val hA (R.move rfl) rfl ?_; clear hA a; intro a hA
  refine S.valg (dj := 51) hA (by kernel_rfl) rfl (R.move rfl) rfl ?_; clear hA a; intro a hA
  refine S.valg (dj := 51) hA (by kernel_rfl) rfl (R.ff (R.neq rfl rfl) (by first | decide | simp | omega)) rfl ?_; clear hA a; intro a hA
  refine S.val hA (R.pickF rfl rfl) rfl ?_; clear hA a; intro a hA
  refine S.val hA (R.move rfl) rfl ?_; clear hA a; intro a hA
  refine S.valg (dj := 55) hA (by kernel_rfl) rfl (R.move rfl) rfl ?_; clear hA a; intro a hA
  refine S.valg (dj := 55) hA (by kernel_rfl) rfl (R.ff (R.neq rfl rfl) (by first | decide | simp | omega)) rfl ?_; clear hA a; intro a hA
  refine S.val hA (R.pickF rfl rfl) rfl ?_; clear hA a; intro a hA
  refine S.val hA (R.move rfl) rfl ?_; clear hA a; intro a hA
  refine S.callg (dj := 59) hA (by kernel_rfl) rfl (R.callF Try.func22 rfl rfl rfl) rfl (cnone_any _) ?_; clear hA a
  rintro e w9 ⟨rfl, rfl⟩
  refine ⟨.pointer none, rfl, fun a hA => ?_⟩
  refine S.callg (dj := 59) hA (by kernel_rfl) rfl (R.callF Try.func24 rfl rfl rfl) rfl (cnt_open_nil _) ?_; clear hA a
  rintro e w10 ⟨rfl, rfl⟩
  refine ⟨.int .i64 0, rfl, fun a hA => ?_⟩
  refine S.valg (dj := 59) hA (by kernel_rfl) rfl (R.ff (R.neq rfl rfl) (by first | decide | simp | omega)) rfl ?_; clear hA a; intro a hA
  refine S.val hA (R.pickF rfl rfl) rfl ?_; clear hA a; intro a hA
  refine S.val hA (R.move rfl) rfl ?_; clear hA a; intro a hA
  refine S.callg (dj := 64) hA (by kernel_rfl) rfl (R.callF Try.func22 rfl rfl rfl) rfl (cnone_any _) ?_; clear hA a
  rintro e w11 ⟨rfl, rfl⟩
  refine ⟨.pointer none, rfl, fun a hA => ?_⟩
  refine S.callg (dj := 64) hA (by kernel_rfl) rfl (R.callF Try.func25 rfl rfl rfl) rfl (cnt_working_nil _) ?_; clear hA a
  rintro e w12 ⟨rfl, rfl⟩
  refine ⟨.int .i64 0, rfl, fun a hA => ?_⟩
  refine S.valg (dj := 64) hA (by kernel_rfl) rfl (R.ff (R.neq rfl rfl) (by first | decide | simp | omega)) rfl ?_; clear hA a; intro a hA
  refine S.val hA (R.pickF rfl rfl) rfl ?_; clear hA a; intro a hA
  refine S.val hA (R.move rfl) rfl ?_; clear hA a; intro a hA
  refine S.callg (dj := 69) hA (by kernel_rfl) rfl (R.callF Try.func22 rfl rfl rfl) rfl (cnone_any _) ?_; clear hA a
  rintro e w13 ⟨rfl, rfl⟩
  refine ⟨.pointer none, rfl, fun a hA => ?_⟩
  refine S.callg (dj := 69) hA (by kernel_rfl) rfl (R.callF Try.func15 rfl rfl rfl) rfl (leave_nil _) ?_; clear hA a
  rintro e w14 ⟨rfl, rfl⟩
  refine ⟨.pointer none, rfl, fun a hA => ?_⟩
  refine S.valg (dj := 69) hA (by kernel_rfl) rfl (R.neqNil Try.underlying28 rfl rfl) rfl ?_; clear hA a; intro a hA
  refine S.val hA (R.pickF rfl rfl) rfl ?_; clear hA a; intro a hA
  refine S.val hA (R.move rfl) rfl ?_; clear hA a; intro a hA
  refine S.valg (dj := 74) hA (by kernel_rfl) rfl (R.move rfl) rfl ?_; clear hA a; intro a hA
  refine S.callg (dj := 74) hA (by kernel_rfl) rfl (R.callF Try.func16 rfl rfl rfl) rfl (cact_over_nil _) ?_; clear hA a
  rintro e w15 ⟨rfl, rfl⟩
  refine ⟨.bool true, rfl, fun a hA => ?_⟩
  refine S.valg (dj := 74) hA (by kernel_rfl) rfl (R.not rfl) rfl ?_; clear hA a; intro a hA
  refine S.val hA (R.pickF rfl rfl) rfl ?_; clear hA a; intro a hA
  refine S.val hA (R.move rfl) rfl ?_; clear hA a; intro a hA
  refine S.valg (dj := 79) hA (by kernel_rfl) rfl (R.move rfl) rfl ?_; clear hA a; intro a hA
  refine S.callg (dj := 79) hA (by kernel_rfl) rfl (R.callF Try.func17 rfl rfl rfl) rfl (cstep_nil _) ?_; clear hA a
  rintro e w16 ⟨rfl, rfl⟩
  refine ⟨.bool true, rfl, fun a hA => ?_⟩
  refine S.valg (dj := 79) hA (by kernel_rfl) rfl (R.not rfl) rfl ?_; clear hA a; intro a hA
  refine S.val hA (R.pickF rfl rfl) rfl ?_; clear hA a; intro a hA
  refine S.val hA (R.move rfl) rfl ?_; clear hA a; intro a hA
  refine S.valg (dj := 84) hA (by kernel_rfl) rfl (R.move rfl) rfl ?_; clear hA a; intro a hA
  refine S.callg (dj := 84) hA (by kernel_rfl) rfl (R.callF Try.func18 rfl rfl rfl) rfl (cact_left_nil _) ?_; clear hA a
  rintro e w17 ⟨rfl, rfl⟩
  refine ⟨.bool false, rfl, fun a hA => ?_⟩
  refine S.val hA (R.pickF rfl rfl) rfl ?_; clear hA a; intro a hA
  refine S.done ?_
  replace hA : St 128 [(0, _), (1, _), (2, _), (6, _), (9, _), (10, _), (87, _)] a := hA.sub ((.cons rfl (.cons rfl (.cons rfl (.cons rfl (.cons rfl (.cons rfl (.cons rfl .nil))))))))
  refine Ends.condF hA rfl ?_
  refine Ends.skip ?_
  refine Ends.seq ?_
  refine Ends.seq ?_
  refine Ends.region ?_
  refine S.val hA (R.move rfl) rfl ?_; clear hA a; intro a hA
  refine S.val hA (R.move rfl) rfl ?_; clear hA a; intro a hA
  refine S.val hA (R.move rfl) rfl ?_; clear hA a; intro a hA
  refine S.call hA (R.callF Try.func26 rfl rfl rfl) rfl (fine23_yes i o n h _) ?_; clear hA a
  rintro e w18 ⟨rfl, rfl⟩
  refine ⟨.bool true, rfl, fun a hA => ?_⟩
  refine S.val hA (R.not rfl) rfl ?_; clear hA a; intro a hA
  refine S.done ?_
  replace hA : St 128 [(1, _), (2, _), (6, _), (9, _), (10, _), (92, _)] a := hA.sub ((.cons rfl (.cons rfl (.cons rfl (.cons rfl (.cons rfl (.cons rfl .nil)))))))
  refine Ends.condF hA rfl ?_
  refine Ends.skip ?_
  refine Ends.seq ?_
  refine Ends.region ?_
  refine S.val hA (R.move rfl) rfl ?_; clear hA a; intro a hA
  refine S.call hA (R.callF Try.func19 rfl rfl rfl) rfl (cnt_Now q3 m1 c2 i ((([0, 0, 0, 0].set i.toNat o).set (i + 1).toNat n)) 2 ⟨2, i + 1, ([0, 0, 0, 0].set i.toNat o).getD (i + 1).toNat 0, n, true⟩ (by simp only [List.length_set]; simp; try omega) (by simp only [List.length_set]; simp; try omega) (by omega) hm1c2 _ (hM.hereN 2)) ?_; clear hA a
  rintro e w19 ⟨rfl, hn⟩
  replace hM : Mem _ _ [pt q3 #[.pointer (some ⟨m1, 0, none⟩), .int .i64 i] 108, memO m1 c2 ((([0, 0, 0, 0].set i.toNat o).set (i + 1).toNat n)) 2 ⟨2, i + 1, ([0, 0, 0, 0].set i.toNat o).getD (i + 1).toNat 0, n, true⟩] _ := hM.callL 2 hn; clear hn
  refine ⟨.tuple #[.int .i64 (((([0, 0, 0, 0].set i.toNat o).set (i + 1).toNat n)).getD i.toNat 0), .int .i64 (((([0, 0, 0, 0].set i.toNat o).set (i + 1).toNat n)).getD (i + 1).toNat 0)], rfl, fun a hA => ?_⟩
  refine S.val hA (R.move rfl) rfl ?_; clear hA a; intro a hA
  refine S.val hA (R.extract (v := .int .i64 (((([0, 0, 0, 0].set i.toNat o).set (i + 1).toNat n)).getD i.toNat 0)) rfl rfl) rfl ?_; clear hA a; intro a hA
  refine S.val hA (R.extract (v := .int .i64 (((([0, 0, 0, 0].set i.toNat o).set (i + 1).toNat n)).getD (i + 1).toNat 0)) rfl rfl) rfl ?_; clear hA a; intro a hA
  refine S.val hA (R.assign rfl) rfl ?_; clear hA a; intro a hA
  refine S.val hA (R.assign rfl) rfl ?_; clear hA a; intro a hA
  refine S.done ?_
  replace hA : St 128 [(1, _), (2, _), (6, _), (9, _), (10, _), (16, _), (17, _)] a := hA.sub ((.cons rfl (.cons rfl (.cons rfl (.cons rfl (.cons rfl (.cons rfl (.cons rfl .nil))))))))
  refine Ends.seq ?_
  refine Ends.region ?_
  refine S.val hA (R.move rfl) rfl ?_; clear hA a; intro a hA
  refine S.val hA (R.tt (R.eql rfl rfl) (by first | decide | simp | omega)) rfl ?_; clear hA a; intro a hA
  refine S.val hA (R.move rfl) rfl ?_; clear hA a; intro a hA
  refine S.valg (dj := 106) hA (by kernel_rfl) rfl (R.move rfl) rfl ?_; clear hA a; intro a hA
  refine S.valg (dj := 106) hA (by kernel_rfl) rfl (R.move rfl) rfl ?_; clear hA a; intro a hA
  refine S.valg (dj := 106) hA (by kernel_rfl) rfl (R.tt (R.eql rfl rfl) (hso)) rfl ?_; clear hA a; intro a hA
  refine S.val hA (R.pickT rfl rfl) rfl ?_; clear hA a; intro a hA
  refine S.val hA (R.move rfl) rfl ?_; clear hA a; intro a hA
  refine S.valg (dj := 111) hA (by kernel_rfl) rfl (R.move rfl) rfl ?_; clear hA a; intro a hA
  refine S.valg (dj := 111) hA (by kernel_rfl) rfl (R.move rfl) rfl ?_; clear hA a; intro a hA
  refine S.valg (dj := 111) hA (by kernel_rfl) rfl (R.tt (R.eql rfl rfl) (hsw)) rfl ?_; clear hA a; intro a hA
  refine S.val hA (R.pickT rfl rfl) rfl ?_; clear hA a; intro a hA
  refine S.val hA (R.move rfl) rfl ?_; clear hA a; intro a hA
  refine S.valg (dj := 116) hA (by kernel_rfl) rfl (R.move rfl) rfl ?_; clear hA a; intro a hA
  refine S.callg (dj := 116) hA (by kernel_rfl) rfl (R.callF Try.func24 rfl rfl rfl) rfl (cnt_Open q3 m1 c2 i ((([0, 0, 0, 0].set i.toNat o).set (i + 1).toNat n)) 2 ⟨2, i + 1, ([0, 0, 0, 0].set i.toNat o).getD (i + 1).toNat 0, n, true⟩ (by simp only [List.length_set]; simp; try omega) (by simp only [List.length_set]; simp; try omega) (by omega) hm1c2 _ (hM.hereN 2)) ?_; clear hA a
  rintro e w20 ⟨rfl, hn⟩
  replace hM : Mem _ _ [pt q3 #[.pointer (some ⟨m1, 0, none⟩), .int .i64 i] 108, memO m1 c2 ((((([0, 0, 0, 0].set i.toNat o).set (i + 1).toNat n)).set i.toNat (((([0, 0, 0, 0].set i.toNat o).set (i + 1).toNat n)).getD i.toNat 0))) 3 ⟨1, i, ((([0, 0, 0, 0].set i.toNat o).set (i + 1).toNat n)).getD i.toNat 0, ((([0, 0, 0, 0].set i.toNat o).set (i + 1).toNat n)).getD i.toNat 0, true⟩] _ := hM.callL 2 hn; clear hn
  refine ⟨.int .i64 (((([0, 0, 0, 0].set i.toNat o).set (i + 1).toNat n)).getD i.toNat 0), rfl, fun a hA => ?_⟩
  refine S.valg (dj := 116) hA (by kernel_rfl) rfl (R.move rfl) rfl ?_; clear hA a; intro a hA
  refine S.valg (dj := 116) hA (by kernel_rfl) rfl (R.tt (R.eql rfl rfl) (hso)) rfl ?_; clear hA a; intro a hA
  refine S.val hA (R.pickT rfl rfl) rfl ?_; clear hA a; intro a hA
  refine S.val hA (R.move rfl) rfl ?_; clear hA a; intro a hA
  refine S.valg (dj := 122) hA (by kernel_rfl) rfl (R.move rfl) rfl ?_; clear hA a; intro a hA
  refine S.callg (dj := 122) hA (by kernel_rfl) rfl (R.callF Try.func25 rfl rfl rfl) rfl (cnt_Working q3 m1 c2 i ((((([0, 0, 0, 0].set i.toNat o).set (i + 1).toNat n)).set i.toNat (((([0, 0, 0, 0].set i.toNat o).set (i + 1).toNat n)).getD i.toNat 0))) 3 ⟨1, i, ((([0, 0, 0, 0].set i.toNat o).set (i + 1).toNat n)).getD i.toNat 0, ((([0, 0, 0, 0].set i.toNat o).set (i + 1).toNat n)).getD i.toNat 0, true⟩ (by simp only [List.length_set]; simp; try omega) (by simp only [List.length_set]; simp; try omega) (by omega) hm1c2 _ (hM.hereN 2)) ?_; clear hA a
  rintro e w21 ⟨rfl, hn⟩
  replace hM : Mem _ _ [pt q3 #[.pointer (some ⟨m1, 0, none⟩), .int .i64 i] 108, memO m1 c2 ((((((([0, 0, 0, 0].set i.toNat o).set (i + 1).toNat n)).set i.toNat (((([0, 0, 0, 0].set i.toNat o).set (i + 1).toNat n)).getD i.toNat 0))).set (i + 1).toNat (((((([0, 0, 0, 0].set i.toNat o).set (i + 1).toNat n)).set i.toNat (((([0, 0, 0, 0].set i.toNat o).set (i + 1).toNat n)).getD i.toNat 0))).getD (i + 1).toNat 0))) 4 ⟨1, i + 1, ((((([0, 0, 0, 0].set i.toNat o).set (i + 1).toNat n)).set i.toNat (((([0, 0, 0, 0].set i.toNat o).set (i + 1).toNat n)).getD i.toNat 0))).getD (i + 1).toNat 0, ((((([0, 0, 0, 0].set i.toNat o).set (i + 1).toNat n)).set i.toNat (((([0, 0, 0, 0].set i.toNat o).set (i + 1).toNat n)).getD i.toNat 0))).getD (i + 1).toNat 0, true⟩] _ := hM.callL 2 hn; clear hn
  refine ⟨.int .i64 (((((([0, 0, 0, 0].set i.toNat o).set (i + 1).toNat n)).set i.toNat (((([0, 0, 0, 0].set i.toNat o).set (i + 1).toNat n)).getD i.toNat 0))).getD (i + 1).toNat 0), rfl, fun a hA => ?_⟩
  refine S.valg (dj := 122) hA (by kernel_rfl) rfl (R.move rfl) rfl ?_; clear hA a; intro a hA
  refine S.valg (dj := 122) hA (by kernel_rfl) rfl (R.tt (R.eql rfl rfl) (hsw2)) rfl ?_; clear hA a; intro a hA
  refine S.val hA (R.pickT rfl rfl) rfl ?_; clear hA a; intro a hA
  refine S.val hA (R.assign rfl) rfl ?_; clear hA a; intro a hA
  refine S.done ?_
  replace hA : St 128 [(6, _)] a := hA.sub ((.cons rfl .nil))
  refine Ends.ret1 Try.func4 Try.results4 hA rfl ?_
  exact ⟨rfl, hM.nilL.below⟩
set_option maxRecDepth 100000 in
set_option maxHeartbeats 400000 in
theorem countNews_no (i o n : Int) (h : ¬ (0 ≤ i ∧ i ≤ 2 ∧ 0 ≤ o ∧ 1 ≤ n ∧ n ≤ 16)) (w : World) :
    Calls Try.prog 4 #[.int .i64 i, .int .i64 o, .int .i64 n] w fun e w' => e = .returned (.bool true) ∧ Below w.heap.size w w' := by
  have hM := Mem.start w
  refine Calls.of_ends (vs := [.int .i64 i, .int .i64 o, .int .i64 n]) Try.func4 rfl Try.ntmps4 rfl ?_
  intro a hA
  replace hA : St 128 [(0, _), (1, _), (2, _)] a := hA
  refine Ends.seq ?_
  refine Ends.region ?_
  refine S.val hA (R.assign rfl) rfl ?_; clear hA a; intro a hA
  refine S.done ?_
  replace hA : St 128 [(0, _), (1, _), (2, _), (6, _)] a := hA.sub ((.cons rfl (.cons rfl (.cons rfl (.cons rfl .nil)))))
  refine Ends.seq ?_
  refine Ends.region ?_
  refine S.call hA (R.callF Try.func20 rfl rfl rfl) rfl (new_ok 4 (by omega) (by omega) _) ?_; clear hA a
  rintro e w1 ⟨m1, c2, rfl, hm1c2, hn⟩
  replace hM : Mem _ _ [memO m1 c2 [0, 0, 0, 0] 0 ⟨0, 0, 0, 0, false⟩] _ := hM.call hn; clear hn
  refine ⟨.tuple #[.pointer (some ⟨m1, 0, none⟩), .int .i64 0], rfl, fun a hA => ?_⟩
  refine S.val hA (R.move rfl) rfl ?_; clear hA a; intro a hA
  refine S.val hA (R.extract (v := .pointer (some ⟨m1, 0, none⟩)) rfl rfl) rfl ?_; clear hA a; intro a hA
  refine S.val hA (R.extract (v := .int .i64 0) rfl rfl) rfl ?_; clear hA a; intro a hA
  refine S.val hA (R.assign rfl) rfl ?_; clear hA a; intro a hA
  refine S.val hA (R.assign rfl) rfl ?_; clear hA a; intro a hA
  refine S.done ?_
  replace hA : St 128 [(0, _), (1, _), (2, _), (6, _), (7, _), (8, _)] a := hA.sub ((.cons rfl (.cons rfl (.cons rfl (.cons rfl (.cons rfl (.cons rfl .nil)))))))
  refine Ends.seq ?_
  refine Ends.region ?_
  refine S.val hA (R.move rfl) rfl ?_; clear hA a; intro a hA
  refine S.val hA (R.move rfl) rfl ?_; clear hA a; intro a hA
  refine S.val hA (R.move rfl) rfl ?_; clear hA a; intro a hA
  refine S.val hA (R.move rfl) rfl ?_; clear hA a; intro a hA
  refine S.call hA (R.callF Try.func21 rfl rfl rfl) rfl (cnew_bad m1 c2 [0, 0, 0, 0] 0 ⟨0, 0, 0, 0, false⟩ i o n hm1c2 (by first | omega | simp | (simp; omega)) (by simp; omega) _ (hM.hereN 1)) ?_; clear hA a
  rintro e w2 ⟨rfl, hn⟩
  replace hM : Mem _ _ [memO m1 c2 [0, 0, 0, 0] 0 ⟨0, 0, 0, 0, false⟩] _ := hM.callL 1 hn; clear hn
  refine ⟨.tuple #[.pointer none, .int .i64 1], rfl, fun a hA => ?_⟩
  refine S.val hA (R.move rfl) rfl ?_; clear hA a; intro a hA
  refine S.val hA (R.extract (v := .pointer none) rfl rfl) rfl ?_; clear hA a; intro a hA
  refine S.val hA (R.extract (v := .int .i64 1) rfl rfl) rfl ?_; clear hA a; intro a hA
  refine S.val hA (R.assign rfl) rfl ?_; clear hA a; intro a hA
  refine S.val hA (R.assign rfl) rfl ?_; clear hA a; intro a hA
  refine S.done ?_
  replace hA : St 128 [(0, _), (1, _), (2, _), (6, _), (8, _), (9, _), (10, _)] a := hA.sub ((.cons rfl (.cons rfl (.cons rfl (.cons rfl (.cons rfl (.cons rfl (.cons rfl .nil))))))))
  refine Ends.seq ?_
  refine Ends.region ?_
  refine S.call hA (R.callF Try.func21 rfl rfl rfl) rfl (cnew_nil 0 0 1 _) ?_; clear hA a
  rintro e w3 ⟨rfl, rfl⟩
  refine ⟨.tuple #[.pointer none, .int .i64 1], rfl, fun a hA => ?_⟩
  refine S.val hA (R.move rfl) rfl ?_; clear hA a; intro a hA
  refine S.val hA (R.extract (v := .pointer none) rfl rfl) rfl ?_; clear hA a; intro a hA
  refine S.val hA (R.extract (v := .int .i64 1) rfl rfl) rfl ?_; clear hA a; intro a hA
  refine S.val hA (R.assign rfl) rfl ?_; clear hA a; intro a hA
  refine S.val hA (R.assign rfl) rfl ?_; clear hA a; intro a hA
  refine S.done ?_
  replace hA : St 128 [(0, _), (1, _), (2, _), (6, _), (8, _), (9, _), (10, _), (12, _)] a := hA.sub ((.cons rfl (.cons rfl (.cons rfl (.cons rfl (.cons rfl (.cons rfl (.cons rfl (.cons rfl .nil)))))))))
  refine Ends.seq ?_
  refine Ends.region ?_
  refine S.call hA (R.callF Try.func22 rfl rfl rfl) rfl (cnone_any _) ?_; clear hA a
  rintro e w4 ⟨rfl, rfl⟩
  refine ⟨.pointer none, rfl, fun a hA => ?_⟩
  refine S.call hA (R.callF Try.func23 rfl rfl rfl) rfl (cnt_more_nil 1 _) ?_; clear hA a
  rintro e w5 ⟨rfl, rfl⟩
  refine ⟨.tuple #[], rfl, fun a hA => ?_⟩
  refine S.done ?_
  replace hA : St 128 [(0, _), (1, _), (2, _), (6, _), (8, _), (9, _), (10, _), (12, _)] a := hA.sub ((.cons rfl (.cons rfl (.cons rfl (.cons rfl (.cons rfl (.cons rfl (.cons rfl (.cons rfl .nil)))))))))
  refine Ends.seq ?_
  refine Ends.region ?_
  refine S.call hA (R.callF Try.func22 rfl rfl rfl) rfl (cnone_any _) ?_; clear hA a
  rintro e w6 ⟨rfl, rfl⟩
  refine ⟨.pointer none, rfl, fun a hA => ?_⟩
  refine S.call hA (R.callF Try.func19 rfl rfl rfl) rfl (cnt_now_nil _) ?_; clear hA a
  rintro e w7 ⟨rfl, rfl⟩
  refine ⟨.tuple #[.int .i64 0, .int .i64 0], rfl, fun a hA => ?_⟩
  refine S.val hA (R.move rfl) rfl ?_; clear hA a; intro a hA
  refine S.val hA (R.extract (v := .int .i64 0) rfl rfl) rfl ?_; clear hA a; intro a hA
  refine S.val hA (R.extract (v := .int .i64 0) rfl rfl) rfl ?_; clear hA a; intro a hA
  refine S.val hA (R.assign rfl) rfl ?_; clear hA a; intro a hA
  refine S.val hA (R.assign rfl) rfl ?_; clear hA a; intro a hA
  refine S.done ?_
  replace hA : St 128 [(0, _), (1, _), (2, _), (6, _), (8, _), (9, _), (10, _), (12, _), (13, _), (14, _)] a := hA.sub ((.cons rfl (.cons rfl (.cons rfl (.cons rfl (.cons rfl (.cons rfl (.cons rfl (.cons rfl (.cons rfl (.cons rfl .nil)))))))))))
  refine Ends.seq ?_
  refine Ends.region ?_
  refine S.val hA (R.assign rfl) rfl ?_; clear hA a; intro a hA
  refine S.done ?_
  replace hA : St 128 [(0, _), (1, _), (2, _), (6, _), (8, _), (9, _), (10, _), (12, _), (13, _), (14, _), (15, _)] a := hA.sub ((.cons rfl (.cons rfl (.cons rfl (.cons rfl (.cons rfl (.cons rfl (.cons rfl (.cons rfl (.cons rfl (.cons rfl (.cons rfl .nil))))))))))))
  refine Ends.seq ?_
  refine Ends.seq ?_
  refine Ends.region ?_
  refine S.call hA (R.callF Try.func14 rfl rfl rfl) rfl (ccounts_any _) ?_; clear hA a
  rintro e w8 ⟨rfl, hb⟩
  replace hM := hM.callB hb; clear hb
  refine ⟨.bool true, rfl, fun a hA => ?_⟩
  refine S.val hA (R.not rfl) rfl ?_; clear hA a; intro a hA
  refine S.val hA (R.move rfl) rfl ?_; clear hA a; intro a hA
  refine S.valg (dj := 43) hA (by kernel_rfl) rfl (R.move rfl) rfl ?_; clear hA a; intro a hA
  refine S.valg (dj := 43) hA (by kernel_rfl) rfl (R.ff (R.neq rfl rfl) (by first | decide | simp | omega)) rfl ?_; clear hA a; intro a hA
  refine S.val hA (R.pickF rfl rfl) rfl ?_; clear hA a; intro a hA
  refine S.val hA (R.move rfl) rfl ?_; clear hA a; intro a hA
  refine S.valg (dj := 47) hA (by kernel_rfl) rfl (R.move rfl) rfl ?_; clear hA a; intro a hA
  refine S.valg (dj := 47) hA (by kernel_rfl) rfl (R.ff (R.neq rfl rfl) (by first | decide | simp | omega)) rfl ?_; clear hA a; intro a hA
  refine S.val hA (R.pickF rfl rfl) rfl ?_; clear hA a; intro a hA
  refine S.val hA (R.move rfl) rfl ?_; clear hA a; intro a hA
  refine S.valg (dj := 51) hA (by kernel_rfl) rfl (R.move rfl) rfl ?_; clear hA a; intro a hA
  refine S.valg (dj := 51) hA (by kernel_rfl) rfl (R.ff (R.neq rfl rfl) (by first | decide | simp | omega)) rfl ?_; clear hA a; intro a hA
  refine S.val hA (R.pickF rfl rfl) rfl ?_; clear hA a; intro a hA
  refine S.val hA (R.move rfl) rfl ?_; clear hA a; intro a hA
  refine S.valg (dj := 55) hA (by kernel_rfl) rfl (R.move rfl) rfl ?_; clear hA a; intro a hA
  refine S.valg (dj := 55) hA (by kernel_rfl) rfl (R.ff (R.neq rfl rfl) (by first | decide | simp | omega)) rfl ?_; clear hA a; intro a hA
  refine S.val hA (R.pickF rfl rfl) rfl ?_; clear hA a; intro a hA
  refine S.val hA (R.move rfl) rfl ?_; clear hA a; intro a hA
  refine S.callg (dj := 59) hA (by kernel_rfl) rfl (R.callF Try.func22 rfl rfl rfl) rfl (cnone_any _) ?_; clear hA a
  rintro e w9 ⟨rfl, rfl⟩
  refine ⟨.pointer none, rfl, fun a hA => ?_⟩
  refine S.callg (dj := 59) hA (by kernel_rfl) rfl (R.callF Try.func24 rfl rfl rfl) rfl (cnt_open_nil _) ?_; clear hA a
  rintro e w10 ⟨rfl, rfl⟩
  refine ⟨.int .i64 0, rfl, fun a hA => ?_⟩
  refine S.valg (dj := 59) hA (by kernel_rfl) rfl (R.ff (R.neq rfl rfl) (by first | decide | simp | omega)) rfl ?_; clear hA a; intro a hA
  refine S.val hA (R.pickF rfl rfl) rfl ?_; clear hA a; intro a hA
  refine S.val hA (R.move rfl) rfl ?_; clear hA a; intro a hA
  refine S.callg (dj := 64) hA (by kernel_rfl) rfl (R.callF Try.func22 rfl rfl rfl) rfl (cnone_any _) ?_; clear hA a
  rintro e w11 ⟨rfl, rfl⟩
  refine ⟨.pointer none, rfl, fun a hA => ?_⟩
  refine S.callg (dj := 64) hA (by kernel_rfl) rfl (R.callF Try.func25 rfl rfl rfl) rfl (cnt_working_nil _) ?_; clear hA a
  rintro e w12 ⟨rfl, rfl⟩
  refine ⟨.int .i64 0, rfl, fun a hA => ?_⟩
  refine S.valg (dj := 64) hA (by kernel_rfl) rfl (R.ff (R.neq rfl rfl) (by first | decide | simp | omega)) rfl ?_; clear hA a; intro a hA
  refine S.val hA (R.pickF rfl rfl) rfl ?_; clear hA a; intro a hA
  refine S.val hA (R.move rfl) rfl ?_; clear hA a; intro a hA
  refine S.callg (dj := 69) hA (by kernel_rfl) rfl (R.callF Try.func22 rfl rfl rfl) rfl (cnone_any _) ?_; clear hA a
  rintro e w13 ⟨rfl, rfl⟩
  refine ⟨.pointer none, rfl, fun a hA => ?_⟩
  refine S.callg (dj := 69) hA (by kernel_rfl) rfl (R.callF Try.func15 rfl rfl rfl) rfl (leave_nil _) ?_; clear hA a
  rintro e w14 ⟨rfl, rfl⟩
  refine ⟨.pointer none, rfl, fun a hA => ?_⟩
  refine S.valg (dj := 69) hA (by kernel_rfl) rfl (R.neqNil Try.underlying28 rfl rfl) rfl ?_; clear hA a; intro a hA
  refine S.val hA (R.pickF rfl rfl) rfl ?_; clear hA a; intro a hA
  refine S.val hA (R.move rfl) rfl ?_; clear hA a; intro a hA
  refine S.valg (dj := 74) hA (by kernel_rfl) rfl (R.move rfl) rfl ?_; clear hA a; intro a hA
  refine S.callg (dj := 74) hA (by kernel_rfl) rfl (R.callF Try.func16 rfl rfl rfl) rfl (cact_over_nil _) ?_; clear hA a
  rintro e w15 ⟨rfl, rfl⟩
  refine ⟨.bool true, rfl, fun a hA => ?_⟩
  refine S.valg (dj := 74) hA (by kernel_rfl) rfl (R.not rfl) rfl ?_; clear hA a; intro a hA
  refine S.val hA (R.pickF rfl rfl) rfl ?_; clear hA a; intro a hA
  refine S.val hA (R.move rfl) rfl ?_; clear hA a; intro a hA
  refine S.valg (dj := 79) hA (by kernel_rfl) rfl (R.move rfl) rfl ?_; clear hA a; intro a hA
  refine S.callg (dj := 79) hA (by kernel_rfl) rfl (R.callF Try.func17 rfl rfl rfl) rfl (cstep_nil _) ?_; clear hA a
  rintro e w16 ⟨rfl, rfl⟩
  refine ⟨.bool true, rfl, fun a hA => ?_⟩
  refine S.valg (dj := 79) hA (by kernel_rfl) rfl (R.not rfl) rfl ?_; clear hA a; intro a hA
  refine S.val hA (R.pickF rfl rfl) rfl ?_; clear hA a; intro a hA
  refine S.val hA (R.move rfl) rfl ?_; clear hA a; intro a hA
  refine S.valg (dj := 84) hA (by kernel_rfl) rfl (R.move rfl) rfl ?_; clear hA a; intro a hA
  refine S.callg (dj := 84) hA (by kernel_rfl) rfl (R.callF Try.func18 rfl rfl rfl) rfl (cact_left_nil _) ?_; clear hA a
  rintro e w17 ⟨rfl, rfl⟩
  refine ⟨.bool false, rfl, fun a hA => ?_⟩
  refine S.val hA (R.pickF rfl rfl) rfl ?_; clear hA a; intro a hA
  refine S.done ?_
  replace hA : St 128 [(0, _), (1, _), (2, _), (6, _), (9, _), (10, _), (87, _)] a := hA.sub ((.cons rfl (.cons rfl (.cons rfl (.cons rfl (.cons rfl (.cons rfl (.cons rfl .nil))))))))
  refine Ends.condF hA rfl ?_
  refine Ends.skip ?_
  refine Ends.seq ?_
  refine Ends.seq ?_
  refine Ends.region ?_
  refine S.val hA (R.move rfl) rfl ?_; clear hA a; intro a hA
  refine S.val hA (R.move rfl) rfl ?_; clear hA a; intro a hA
  refine S.val hA (R.move rfl) rfl ?_; clear hA a; intro a hA
  refine S.call hA (R.callF Try.func26 rfl rfl rfl) rfl (fine23_no i o n h _) ?_; clear hA a
  rintro e w18 ⟨rfl, hb⟩
  replace hM := hM.callB hb; clear hb
  refine ⟨.bool false, rfl, fun a hA => ?_⟩
  refine S.val hA (R.not rfl) rfl ?_; clear hA a; intro a hA
  refine S.done ?_
  replace hA : St 128 [(1, _), (2, _), (6, _), (9, _), (10, _), (92, _)] a := hA.sub ((.cons rfl (.cons rfl (.cons rfl (.cons rfl (.cons rfl (.cons rfl .nil)))))))
  refine Ends.condT hA rfl ?_
  refine Ends.seq ?_
  refine Ends.region ?_
  refine S.val hA (R.move rfl) rfl ?_; clear hA a; intro a hA
  refine S.val hA (R.eqlNil Try.underlying23 rfl rfl) rfl ?_; clear hA a; intro a hA
  refine S.val hA (R.move rfl) rfl ?_; clear hA a; intro a hA
  refine S.valg (dj := 95) hA (by kernel_rfl) rfl (R.move rfl) rfl ?_; clear hA a; intro a hA
  refine S.valg (dj := 95) hA (by kernel_rfl) rfl (R.tt (R.eql rfl rfl) (by first | decide | simp | omega)) rfl ?_; clear hA a; intro a hA
  refine S.val hA (R.pickT rfl rfl) rfl ?_; clear hA a; intro a hA
  refine S.val hA (R.assign rfl) rfl ?_; clear hA a; intro a hA
  refine S.done ?_
  replace hA : St 128 [(1, _), (2, _), (6, _), (9, _), (10, _)] a := hA.sub ((.cons rfl (.cons rfl (.cons rfl (.cons rfl (.cons rfl .nil))))))
  refine Ends.ret1 Try.func4 Try.results4 hA rfl ?_
  exact ⟨rfl, hM.nilL.below⟩
theorem countNews_any (i o n : Int) (_hi : (Lit.int .i64 i).wf = true) (_ho : (Lit.int .i64 o).wf = true) (_hn : (Lit.int .i64 n).wf = true) (w : World) : Calls Try.prog 4 #[.int .i64 i, .int .i64 o, .int .i64 n] w fun e w' => e = .returned (.bool true) ∧ Below w.heap.size w w' := by
  by_cases h : 0 ≤ i ∧ i ≤ 2 ∧ 0 ≤ o ∧ 1 ≤ n ∧ n ≤ 16
  · exact countNews_yes i o n h w
  · exact countNews_no i o n h w
set_option maxRecDepth 100000 in
set_option maxHeartbeats 400000 in
theorem countAlone_any (n : Int) (_hn : (Lit.int .i64 n).wf = true) (w : World) :
    Calls Try.prog 3 #[.int .i64 n] w fun e w' => e = .returned (.bool true) ∧ Below w.heap.size w w' := by
  have hM := Mem.start w
  refine Calls.of_ends (vs := [.int .i64 n]) Try.func3 rfl Try.ntmps3 rfl ?_
  intro a hA
  replace hA : St 65 [(0, _)] a := hA
  refine Ends.seq ?_
  refine Ends.region ?_
  refine S.val hA (R.assign rfl) rfl ?_; clear hA a; intro a hA
  refine S.done ?_
  replace hA : St 65 [(0, _), (2, _)] a := hA.sub ((.cons rfl (.cons rfl .nil)))
  refine Ends.seq ?_
  refine Ends.region ?_
  refine S.val hA (R.move rfl) rfl ?_; clear hA a; intro a hA
  refine S.val hA (R.conv Try.underlying22 Try.underlying3 rfl) rfl ?_; clear hA a; intro a hA
  refine S.val hA (R.remI rfl rfl rfl ⟨u64_nn _, by decide⟩) rfl ?_; clear hA a; intro a hA
  obtain ⟨n1, hn2, en3⟩ := umod_ex n 16 (by decide)
  refine S.val hA (R.to (v := .int .i64 (n1 : Int)) (R.conv Try.underlying3 Try.underlying22 rfl) (congrArg (Value.int .i64) en3)) rfl ?_; clear hA a; intro a hA
  refine S.val hA (R.addI rfl rfl (r := (1 + (n1 : Int))) (by omega) (by omega)) rfl ?_; clear hA a; intro a hA
  refine S.val hA (R.assign rfl) rfl ?_; clear hA a; intro a hA
  refine S.done ?_
  replace hA : St 65 [(0, _), (2, _)] a := hA.sub ((.cons rfl (.cons rfl .nil)))
  refine Ends.seq ?_
  refine Ends.region ?_
  refine S.val hA (R.move rfl) rfl ?_; clear hA a; intro a hA
  refine S.call hA (R.callF Try.func13 rfl rfl rfl) rfl (cfresh_any 0 ((1 + (n1 : Int))) (by first | omega | simp | (simp; omega)) (by first | omega | simp | (simp; omega)) _) ?_; clear hA a
  rintro e w1 ⟨q4, m5, c6, rfl, hm5c6, hn⟩
  replace hM : Mem _ _ [pt q4 #[.pointer (some ⟨m5, 0, none⟩), .int .i64 1] 108, memO m5 c6 [0, 0, (1 + (n1 : Int)), 0] 2 ⟨2, 2, 0, (1 + (n1 : Int)), true⟩] _ := hM.call hn; clear hn
  refine ⟨.tuple #[.pointer (some ⟨q4, 0, none⟩), .pointer (some ⟨m5, 0, none⟩), .bool true], rfl, fun a hA => ?_⟩
  refine S.val hA (R.move rfl) rfl ?_; clear hA a; intro a hA
  refine S.val hA (R.extract (v := .pointer (some ⟨q4, 0, none⟩)) rfl rfl) rfl ?_; clear hA a; intro a hA
  refine S.val hA (R.extract (v := .pointer (some ⟨m5, 0, none⟩)) rfl rfl) rfl ?_; clear hA a; intro a hA
  refine S.val hA (R.extract (v := .bool true) rfl rfl) rfl ?_; clear hA a; intro a hA
  refine S.val hA (R.assign rfl) rfl ?_; clear hA a; intro a hA
  refine S.val hA (R.assign rfl) rfl ?_; clear hA a; intro a hA
  refine S.val hA (R.assign rfl) rfl ?_; clear hA a; intro a hA
  refine S.done ?_
  replace hA : St 65 [(0, _), (2, _), (3, _), (5, _)] a := hA.sub ((.cons rfl (.cons rfl (.cons rfl (.cons rfl .nil)))))
  refine Ends.seq ?_
  refine Ends.seq ?_
  refine Ends.region ?_
  refine S.call hA (R.callF Try.func14 rfl rfl rfl) rfl (ccounts_any _) ?_; clear hA a
  rintro e w2 ⟨rfl, hb⟩
  replace hM := hM.callB hb; clear hb
  refine ⟨.bool true, rfl, fun a hA => ?_⟩
  refine S.val hA (R.not rfl) rfl ?_; clear hA a; intro a hA
  refine S.val hA (R.move rfl) rfl ?_; clear hA a; intro a hA
  refine S.valg (dj := 24) hA (by kernel_rfl) rfl (R.move rfl) rfl ?_; clear hA a; intro a hA
  refine S.valg (dj := 24) hA (by kernel_rfl) rfl (R.not rfl) rfl ?_; clear hA a; intro a hA
  refine S.val hA (R.pickF rfl rfl) rfl ?_; clear hA a; intro a hA
  refine S.done ?_
  replace hA : St 65 [(0, _), (2, _), (3, _), (27, _)] a := hA.sub ((.cons rfl (.cons rfl (.cons rfl (.cons rfl .nil)))))
  refine Ends.condF hA rfl ?_
  refine Ends.skip ?_
  refine Ends.seq ?_
  refine Ends.seq ?_
  refine Ends.region ?_
  refine S.val hA (R.assign rfl) rfl ?_; clear hA a; intro a hA
  refine S.done ?_
  replace hA : St 65 [(0, _), (2, _), (3, _), (6, _)] a := hA.sub ((.cons rfl (.cons rfl (.cons rfl (.cons rfl .nil)))))
  refine Ends.block ?_
  refine Ends.loop (σ := Nat × Int × Int × CellOp) (fun (k, x, s, op) (a : Act) (wv : World) => St 65 [(0, .int .i64 ((1 + (n1 : Int)))), (3, .pointer (some ⟨q4, 0, none⟩)), (6, .int .i64 ((k : Int)))] a ∧ Mem w nof [pt q4 #[.pointer (some ⟨m5, 0, none⟩), .int .i64 1] 108, memO m5 c6 [0, 0, x, 0] s op] wv ∧ (k ≤ n1 + 1) ∧ ((k < n1 + 1 → x = n1 + 1 - k) ∧ (k = n1 + 1 → x = 1)) ∧ (0 ≤ s ∧ s ≤ 2 + 2 * k)) (fun (k, x, s, op) => n1 + 1 - k) ((0, (1 + (n1 : Int)), 2, ⟨2, 2, 0, (1 + (n1 : Int)), true⟩)) ⟨hA.sub ((.cons rfl (.cons rfl (.cons rfl .nil)))), hM, (by omega), (by omega), (by omega)⟩ ?_
  clear hA hM a
  rintro ⟨k, x, s, op⟩ a w3 ⟨hA, hM, hk, hx, hs⟩ hNext
  refine Ends.seq ?_
  refine Ends.seq ?_
  refine Ends.region ?_
  refine S.val hA (R.move rfl) rfl ?_; clear hA a; intro a hA
  refine S.val hA (R.move rfl) rfl ?_; clear hA a; intro a hA
  refine S.val hA (R.lss rfl rfl) rfl ?_; clear hA a; intro a hA
  refine S.done ?_
  replace hA : St 65 [(0, _), (3, _), (6, _), (28, _), (29, _), (30, _)] a := hA.sub ((.cons rfl (.cons rfl (.cons rfl (.cons rfl (.cons rfl (.cons rfl .nil)))))))
  refine Ends.ite hA rfl (fun hc7 => ?_) (fun hc7 => ?_)
  ·
    refine Ends.skip ?_
    refine Ends.seq ?_
    refine Ends.block ?_
    refine Ends.seq ?_
    refine Ends.region ?_
    refine S.val hA (R.move rfl) rfl ?_; clear hA a; intro a hA
    refine S.call hA (R.callF Try.func15 rfl rfl rfl) rfl (leave_ok q4 _) ?_; clear hA a
    rintro e w4 ⟨p8, rfl, hn⟩
    replace hM : Mem _ _ [pt p8 #[.pointer (some ⟨q4, 0, none⟩), .bool false, .int .i64 0, .bool false, .bool false] 105, pt q4 #[.pointer (some ⟨m5, 0, none⟩), .int .i64 1] 108, memO m5 c6 [0, 0, x, 0] s op] _ := hM.call hn; clear hn
    refine ⟨.pointer (some ⟨p8, 0, none⟩), rfl, fun a hA => ?_⟩
    refine S.val hA (R.assign rfl) rfl ?_; clear hA a; intro a hA
    refine S.done ?_
    replace hA : St 65 [(0, _), (3, _), (6, _), (7, _), (28, _), (29, _), (30, _), (33, _), (34, _)] a := hA.sub ((.cons rfl (.cons rfl (.cons rfl (.cons rfl (.cons rfl (.cons rfl (.cons rfl (.cons rfl (.cons rfl .nil))))))))))
    refine Ends.seq ?_
    refine Ends.seq ?_
    refine Ends.region ?_
    refine S.val hA (R.assign rfl) rfl ?_; clear hA a; intro a hA
    refine S.done ?_
    replace hA : St 65 [(0, _), (3, _), (6, _), (7, _), (8, _), (28, _), (29, _), (30, _), (33, _), (34, _)] a := hA.sub ((.cons rfl (.cons rfl (.cons rfl (.cons rfl (.cons rfl (.cons rfl (.cons rfl (.cons rfl (.cons rfl (.cons rfl .nil)))))))))))
    refine Ends.block ?_
    refine Ends.unroll ?_
    refine Ends.seq ?_
    refine Ends.seq ?_
    by_cases hs9 : x ≤ 1
    ·
      refine Ends.region ?_
      refine S.val hA (R.move rfl) rfl ?_; clear hA a; intro a hA
      refine S.val hA (R.tt (R.lss rfl rfl) (by first | decide | simp | omega)) rfl ?_; clear hA a; intro a hA
      refine S.val hA (R.move rfl) rfl ?_; clear hA a; intro a hA
      refine S.valg (dj := 37) hA (by kernel_rfl) rfl (R.move rfl) rfl ?_; clear hA a; intro a hA
      refine S.callg (dj := 37) hA (by kernel_rfl) rfl (R.callF Try.func16 rfl rfl rfl) rfl (cact_over p8 q4 0 false false false _ (hM.block (k := 0) rfl)) ?_; clear hA a
      rintro e w5 ⟨rfl, rfl⟩
      refine ⟨.bool false, rfl, fun a hA => ?_⟩
      refine S.valg (dj := 37) hA (by kernel_rfl) rfl (R.not rfl) rfl ?_; clear hA a; intro a hA
      refine S.val hA (R.pickT rfl rfl) rfl ?_; clear hA a; intro a hA
      refine S.done ?_
      replace hA : St 65 [(0, _), (3, _), (6, _), (7, _), (8, _), (28, _), (29, _), (30, _), (33, _), (34, _), (35, _), (36, _), (37, _), (38, _), (39, _), (40, _), (41, _)] a := hA.sub ((.cons rfl (.cons rfl (.cons rfl (.cons rfl (.cons rfl (.cons rfl (.cons rfl (.cons rfl (.cons rfl (.cons rfl (.cons rfl (.cons rfl (.cons rfl (.cons rfl (.cons rfl (.cons rfl (.cons rfl .nil))))))))))))))))))
      refine Ends.condT hA rfl ?_
      refine Ends.skip ?_
      refine Ends.seq ?_
      refine Ends.block ?_
      refine Ends.region ?_
      refine S.val hA (R.move rfl) rfl ?_; clear hA a; intro a hA
      refine S.call hA (R.callF Try.func17 rfl rfl rfl) rfl (cstep_look_last q4 m5 c6 1 [0, 0, x, 0] s op (by first | omega | simp | (simp; omega)) (by first | omega | simp | (simp; omega)) (by first | omega | simp | (simp; omega)) hm5c6 p8 0 false (by show x ≤ 1; omega) _ (hM.hereN 3)) ?_; clear hA a
      rintro e w6 ⟨rfl, hn⟩
      replace hM : Mem _ _ [pt p8 #[.pointer (some ⟨q4, 0, none⟩), .bool true, .int .i64 x, .bool true, .bool false] 105, pt q4 #[.pointer (some ⟨m5, 0, none⟩), .int .i64 1] 108, memO m5 c6 [0, 0, x, 0] (s + 1) ⟨1, 2, x, x, true⟩] _ := hM.callL 3 hn; clear hn
      refine ⟨.bool true, rfl, fun a hA => ?_⟩
      refine S.done ?_
      replace hA : St 65 [(0, _), (3, _), (6, _), (7, _), (8, _), (28, _), (29, _), (30, _), (33, _), (34, _), (35, _), (36, _), (37, _), (38, _), (39, _), (40, _), (41, _), (44, _)] a := hA.sub ((.cons rfl (.cons rfl (.cons rfl (.cons rfl (.cons rfl (.cons rfl (.cons rfl (.cons rfl (.cons rfl (.cons rfl (.cons rfl (.cons rfl (.cons rfl (.cons rfl (.cons rfl (.cons rfl (.cons rfl (.cons rfl .nil)))))))))))))))))))
      refine Ends.inBlock ?_
      refine Ends.region ?_
      refine S.val hA (R.move rfl) rfl ?_; clear hA a; intro a hA
      refine S.val hA (R.addI rfl rfl (r := 1) rfl (by omega)) rfl ?_; clear hA a; intro a hA
      refine S.val hA (R.assign rfl) rfl ?_; clear hA a; intro a hA
      refine S.done ?_
      replace hA : St 65 [(0, _), (3, _), (6, _), (7, _), (8, _), (28, _), (29, _), (30, _), (33, _), (34, _), (35, _), (36, _), (37, _), (38, _), (39, _), (40, _), (41, _), (42, _), (43, _), (44, _)] a := hA.sub ((.cons rfl (.cons rfl (.cons rfl (.cons rfl (.cons rfl (.cons rfl (.cons rfl (.cons rfl (.cons rfl (.cons rfl (.cons rfl (.cons rfl (.cons rfl (.cons rfl (.cons rfl (.cons rfl (.cons rfl (.cons rfl (.cons rfl (.cons rfl .nil)))))))))))))))))))))
      refine Ends.inLoop ?_
      refine Ends.seq ?_
      refine Ends.seq ?_
      refine Ends.region ?_
      refine S.val hA (R.move rfl) rfl ?_; clear hA a; intro a hA
      refine S.val hA (R.tt (R.lss rfl rfl) (by first | decide | simp | omega)) rfl ?_; clear hA a; intro a hA
      refine S.val hA (R.move rfl) rfl ?_; clear hA a; intro a hA
      refine S.valg (dj := 37) hA (by kernel_rfl) rfl (R.move rfl) rfl ?_; clear hA a; intro a hA
      refine S.callg (dj := 37) hA (by kernel_rfl) rfl (R.callF Try.func16 rfl rfl rfl) rfl (cact_over p8 q4 x true true false _ (hM.block (k := 0) rfl)) ?_; clear hA a
      rintro e w7 ⟨rfl, rfl⟩
      refine ⟨.bool true, rfl, fun a hA => ?_⟩
      refine S.valg (dj := 37) hA (by kernel_rfl) rfl (R.not rfl) rfl ?_; clear hA a; intro a hA
      refine S.val hA (R.pickT rfl rfl) rfl ?_; clear hA a; intro a hA
      refine S.done ?_
      replace hA : St 65 [(0, _), (3, _), (6, _), (7, _), (8, _), (28, _), (29, _), (30, _), (33, _), (34, _), (35, _), (36, _), (37, _), (38, _), (39, _), (40, _), (41, _), (42, _), (43, _), (44, _)] a := hA.sub ((.cons rfl (.cons rfl (.cons rfl (.cons rfl (.cons rfl (.cons rfl (.cons rfl (.cons rfl (.cons rfl (.cons rfl (.cons rfl (.cons rfl (.cons rfl (.cons rfl (.cons rfl (.cons rfl (.cons rfl (.cons rfl (.cons rfl (.cons rfl .nil)))))))))))))))))))))
      refine Ends.condF hA rfl ?_
      refine Ends.exit rfl ?_
      replace hA : St 65 [(0, _), (3, _), (6, _), (7, _), (8, _), (28, _), (29, _), (30, _), (33, _), (34, _), (35, _), (36, _), (37, _), (38, _), (39, _), (40, _), (41, _), (42, _), (43, _), (44, _)] a := hA.sub ((.cons rfl (.cons rfl (.cons rfl (.cons rfl (.cons rfl (.cons rfl (.cons rfl (.cons rfl (.cons rfl (.cons rfl (.cons rfl (.cons rfl (.cons rfl (.cons rfl (.cons rfl (.cons rfl (.cons rfl (.cons rfl (.cons rfl (.cons rfl .nil)))))))))))))))))))))
      refine Ends.seq ?_
      refine Ends.region ?_
      refine S.val hA (R.move rfl) rfl ?_; clear hA a; intro a hA
      refine S.call hA (R.callF Try.func16 rfl rfl rfl) rfl (cact_over p8 q4 x true true false _ (hM.block (k := 0) rfl)) ?_; clear hA a
      rintro e w8 ⟨rfl, rfl⟩
      refine ⟨.bool true, rfl, fun a hA => ?_⟩
      refine S.val hA (R.not rfl) rfl ?_; clear hA a; intro a hA
      refine S.val hA (R.move rfl) rfl ?_; clear hA a; intro a hA
      refine S.valg (dj := 49) hA (by kernel_rfl) rfl (R.move rfl) rfl ?_; clear hA a; intro a hA
      refine S.callg (dj := 49) hA (by kernel_rfl) rfl (R.callF Try.func18 rfl rfl rfl) rfl (cact_left p8 q4 x true true false _ (hM.block (k := 0) rfl)) ?_; clear hA a
      rintro e w9 ⟨rfl, rfl⟩
      refine ⟨.bool false, rfl, fun a hA => ?_⟩
      refine S.valg (dj := 49) hA (by kernel_rfl) rfl (R.move rfl) rfl ?_; clear hA a; intro a hA
      refine S.valg (dj := 49) hA (by kernel_rfl) rfl (R.move rfl) rfl ?_; clear hA a; intro a hA
      refine S.valg (dj := 49) hA (by kernel_rfl) rfl (R.subI rfl rfl (r := ((1 + (n1 : Int))) - 1) rfl (by omega)) rfl ?_; clear hA a; intro a hA
      refine S.valg (dj := 49) hA (by kernel_rfl) rfl (R.lss rfl rfl) rfl ?_; clear hA a; intro a hA
      refine S.valg (dj := 49) hA (by kernel_rfl) rfl (R.to (v := .bool false) (R.neqB Try.underlying4 rfl rfl) (congrArg Value.bool (by first | (rw [decide_eq_true (by omega)]; rfl) | (rw [decide_eq_false (by omega)]; rfl)))) rfl ?_; clear hA a; intro a hA
      refine S.val hA (R.pickF rfl rfl) rfl ?_; clear hA a; intro a hA
      refine S.done ?_
      replace hA : St 65 [(0, _), (3, _), (6, _), (7, _), (8, _), (28, _), (29, _), (30, _), (33, _), (34, _), (35, _), (36, _), (37, _), (38, _), (39, _), (40, _), (41, _), (42, _), (43, _), (44, _), (46, _), (47, _), (48, _), (49, _), (50, _), (51, _), (52, _), (53, _), (54, _), (55, _), (56, _), (57, _)] a := hA.sub ((.cons rfl (.cons rfl (.cons rfl (.cons rfl (.cons rfl (.cons rfl (.cons rfl (.cons rfl (.cons rfl (.cons rfl (.cons rfl (.cons rfl (.cons rfl (.cons rfl (.cons rfl (.cons rfl (.cons rfl (.cons rfl (.cons rfl (.cons rfl (.cons rfl (.cons rfl (.cons rfl (.cons rfl (.cons rfl (.cons rfl (.cons rfl (.cons rfl (.cons rfl (.cons rfl (.cons rfl (.cons rfl .nil)))))))))))))))))))))))))))))))))
      refine Ends.condF hA rfl ?_
      refine Ends.skip ?_
      refine Ends.inBlock ?_
      refine Ends.region ?_
      refine S.val hA (R.move rfl) rfl ?_; clear hA a; intro a hA
      refine S.val hA (R.addI rfl rfl (r := ((k : Int)) + 1) rfl (by omega)) rfl ?_; clear hA a; intro a hA
      refine S.val hA (R.assign rfl) rfl ?_; clear hA a; intro a hA
      refine S.done ?_
      replace hA : St 65 [(0, _), (3, _), (6, _), (7, _), (8, _), (28, _), (29, _), (30, _), (31, _), (32, _), (33, _), (34, _), (35, _), (36, _), (37, _), (38, _), (39, _), (40, _), (41, _), (42, _), (43, _), (44, _), (46, _), (47, _), (48, _), (49, _), (50, _), (51, _), (52, _), (53, _), (54, _), (55, _), (56, _), (57, _)] a := hA.sub ((.cons rfl (.cons rfl (.cons rfl (.cons rfl (.cons rfl (.cons rfl (.cons rfl (.cons rfl (.cons rfl (.cons rfl (.cons rfl (.cons rfl (.cons rfl (.cons rfl (.cons rfl (.cons rfl (.cons rfl (.cons rfl (.cons rfl (.cons rfl (.cons rfl (.cons rfl (.cons rfl (.cons rfl (.cons rfl (.cons rfl (.cons rfl (.cons rfl (.cons rfl (.cons rfl (.cons rfl (.cons rfl (.cons rfl (.cons rfl .nil)))))))))))))))))))))))))))))))))))
      replace hM := hM.front (k := 2) rfl
      replace hM := hM.front (k := 2) rfl
      replace hM : Mem _ _ [pt q4 #[.pointer (some ⟨m5, 0, none⟩), .int .i64 1] 108, memO m5 c6 [0, 0, x, 0] (s + 1) ⟨1, 2, x, x, true⟩, pt p8 #[.pointer (some ⟨q4, 0, none⟩), .bool true, .int .i64 x, .bool true, .bool false] 105] _ := hM
      replace hM : Mem _ _ [pt q4 #[.pointer (some ⟨m5, 0, none⟩), .int .i64 1] 108, memO m5 c6 [0, 0, x, 0] (s + 1) ⟨1, 2, x, x, true⟩] _ := hM.firstN 2
      exact hNext ((k + 1, x, s + 1, ⟨1, 2, x, x, true⟩)) _ _ ((by show n1 + 1 - (k + 1) < n1 + 1 - k; omega)) ⟨hA.sub ((.cons rfl (.cons rfl (.cons rfl .nil)))), hM, (by omega), (by omega), (by omega)⟩
    ·
      refine Ends.region ?_
      refine S.val hA (R.move rfl) rfl ?_; clear hA a; intro a hA
      refine S.val hA (R.tt (R.lss rfl rfl) (by first | decide | simp | omega)) rfl ?_; clear hA a; intro a hA
      refine S.val hA (R.move rfl) rfl ?_; clear hA a; intro a hA
      refine S.valg (dj := 37) hA (by kernel_rfl) rfl (R.move rfl) rfl ?_; clear hA a; intro a hA
      refine S.callg (dj := 37) hA (by kernel_rfl) rfl (R.callF Try.func16 rfl rfl rfl) rfl (cact_over p8 q4 0 false false false _ (hM.block (k := 0) rfl)) ?_; clear hA a
      rintro e w10 ⟨rfl, rfl⟩
      refine ⟨.bool false, rfl, fun a hA => ?_⟩
      refine S.valg (dj := 37) hA (by kernel_rfl) rfl (R.not rfl) rfl ?_; clear hA a; intro a hA
      refine S.val hA (R.pickT rfl rfl) rfl ?_; clear hA a; intro a hA
      refine S.done ?_
      replace hA : St 65 [(0, _), (3, _), (6, _), (7, _), (8, _), (28, _), (29, _), (30, _), (33, _), (34, _), (35, _), (36, _), (37, _), (38, _), (39, _), (40, _), (41, _)] a := hA.sub ((.cons rfl (.cons rfl (.cons rfl (.cons rfl (.cons rfl (.cons rfl (.cons rfl (.cons rfl (.cons rfl (.cons rfl (.cons rfl (.cons rfl (.cons rfl (.cons rfl (.cons rfl (.cons rfl (.cons rfl .nil))))))))))))))))))
      refine Ends.condT hA rfl ?_
      refine Ends.skip ?_
      refine Ends.seq ?_
      refine Ends.block ?_
      refine Ends.region ?_
      refine S.val hA (R.move rfl) rfl ?_; clear hA a; intro a hA
      refine S.call hA (R.callF Try.func17 rfl rfl rfl) rfl (cstep_look_more q4 m5 c6 1 [0, 0, x, 0] s op (by first | omega | simp | (simp; omega)) (by first | omega | simp | (simp; omega)) (by first | omega | simp | (simp; omega)) hm5c6 p8 0 false (by show 1 < x; omega) _ (hM.hereN 3)) ?_; clear hA a
      rintro e w11 ⟨rfl, hn⟩
      replace hM : Mem _ _ [pt p8 #[.pointer (some ⟨q4, 0, none⟩), .bool true, .int .i64 x, .bool false, .bool false] 105, pt q4 #[.pointer (some ⟨m5, 0, none⟩), .int .i64 1] 108, memO m5 c6 [0, 0, x, 0] (s + 1) ⟨1, 2, x, x, true⟩] _ := hM.callL 3 hn; clear hn
      refine ⟨.bool false, rfl, fun a hA => ?_⟩
      refine S.done ?_
      replace hA : St 65 [(0, _), (3, _), (6, _), (7, _), (8, _), (28, _), (29, _), (30, _), (33, _), (34, _), (35, _), (36, _), (37, _), (38, _), (39, _), (40, _), (41, _), (44, _)] a := hA.sub ((.cons rfl (.cons rfl (.cons rfl (.cons rfl (.cons rfl (.cons rfl (.cons rfl (.cons rfl (.cons rfl (.cons rfl (.cons rfl (.cons rfl (.cons rfl (.cons rfl (.cons rfl (.cons rfl (.cons rfl (.cons rfl .nil)))))))))))))))))))
      refine Ends.inBlock ?_
      refine Ends.region ?_
      refine S.val hA (R.move rfl) rfl ?_; clear hA a; intro a hA
      refine S.val hA (R.addI rfl rfl (r := 1) rfl (by omega)) rfl ?_; clear hA a; intro a hA
      refine S.val hA (R.assign rfl) rfl ?_; clear hA a; intro a hA
      refine S.done ?_
      replace hA : St 65 [(0, _), (3, _), (6, _), (7, _), (8, _), (28, _), (29, _), (30, _), (33, _), (34, _), (35, _), (36, _), (37, _), (38, _), (39, _), (40, _), (41, _), (42, _), (43, _), (44, _)] a := hA.sub ((.cons rfl (.cons rfl (.cons rfl (.cons rfl (.cons rfl (.cons rfl (.cons rfl (.cons rfl (.cons rfl (.cons rfl (.cons rfl (.cons rfl (.cons rfl (.cons rfl (.cons rfl (.cons rfl (.cons rfl (.cons rfl (.cons rfl (.cons rfl .nil)))))))))))))))))))))
      refine Ends.inLoop ?_
      refine Ends.seq ?_
      refine Ends.seq ?_
      refine Ends.region ?_
      refine S.val hA (R.move rfl) rfl ?_; clear hA a; intro a hA
      refine S.val hA (R.tt (R.lss rfl rfl) (by first | decide | simp | omega)) rfl ?_; clear hA a; intro a hA
      refine S.val hA (R.move rfl) rfl ?_; clear hA a; intro a hA
      refine S.valg (dj := 37) hA (by kernel_rfl) rfl (R.move rfl) rfl ?_; clear hA a; intro a hA
      refine S.callg (dj := 37) hA (by kernel_rfl) rfl (R.callF Try.func16 rfl rfl rfl) rfl (cact_over p8 q4 x true false false _ (hM.block (k := 0) rfl)) ?_; clear hA a
      rintro e w12 ⟨rfl, rfl⟩
      refine ⟨.bool false, rfl, fun a hA => ?_⟩
      refine S.valg (dj := 37) hA (by kernel_rfl) rfl (R.not rfl) rfl ?_; clear hA a; intro a hA
      refine S.val hA (R.pickT rfl rfl) rfl ?_; clear hA a; intro a hA
      refine S.done ?_
      replace hA : St 65 [(0, _), (3, _), (6, _), (7, _), (8, _), (28, _), (29, _), (30, _), (33, _), (34, _), (35, _), (36, _), (37, _), (38, _), (39, _), (40, _), (41, _), (42, _), (43, _), (44, _)] a := hA.sub ((.cons rfl (.cons rfl (.cons rfl (.cons rfl (.cons rfl (.cons rfl (.cons rfl (.cons rfl (.cons rfl (.cons rfl (.cons rfl (.cons rfl (.cons rfl (.cons rfl (.cons rfl (.cons rfl (.cons rfl (.cons rfl (.cons rfl (.cons rfl .nil)))))))))))))))))))))
      refine Ends.condT hA rfl ?_
      refine Ends.skip ?_
      refine Ends.seq ?_
      refine Ends.block ?_
      refine Ends.region ?_
      refine S.val hA (R.move rfl) rfl ?_; clear hA a; intro a hA
      refine S.call hA (R.callF Try.func17 rfl rfl rfl) rfl (cstep_hit q4 m5 c6 1 [0, 0, x, 0] (s + 1) ⟨1, 2, x, x, true⟩ (by first | omega | simp | (simp; omega)) (by first | omega | simp | (simp; omega)) (by first | omega | simp | (simp; omega)) hm5c6 p8 x false (by show x = x; first | rfl | omega) (by first | omega | simp | (simp; omega)) _ (hM.hereN 3)) ?_; clear hA a
      rintro e w13 ⟨rfl, hn⟩
      replace hM : Mem _ _ [pt p8 #[.pointer (some ⟨q4, 0, none⟩), .bool false, .int .i64 x, .bool true, .bool true] 105, pt q4 #[.pointer (some ⟨m5, 0, none⟩), .int .i64 1] 108, memO m5 c6 [0, 0, x - 1, 0] (s + 1 + 1) ⟨3, 2, x, x - 1, true⟩] _ := hM.callL 3 hn; clear hn
      refine ⟨.bool true, rfl, fun a hA => ?_⟩
      refine S.done ?_
      replace hA : St 65 [(0, _), (3, _), (6, _), (7, _), (8, _), (28, _), (29, _), (30, _), (33, _), (34, _), (35, _), (36, _), (37, _), (38, _), (39, _), (40, _), (41, _), (42, _), (43, _), (44, _)] a := hA.sub ((.cons rfl (.cons rfl (.cons rfl (.cons rfl (.cons rfl (.cons rfl (.cons rfl (.cons rfl (.cons rfl (.cons rfl (.cons rfl (.cons rfl (.cons rfl (.cons rfl (.cons rfl (.cons rfl (.cons rfl (.cons rfl (.cons rfl (.cons rfl .nil)))))))))))))))))))))
      refine Ends.inBlock ?_
      refine Ends.region ?_
      refine S.val hA (R.move rfl) rfl ?_; clear hA a; intro a hA
      refine S.val hA (R.addI rfl rfl (r := 2) rfl (by omega)) rfl ?_; clear hA a; intro a hA
      refine S.val hA (R.assign rfl) rfl ?_; clear hA a; intro a hA
      refine S.done ?_
      replace hA : St 65 [(0, _), (3, _), (6, _), (7, _), (8, _), (28, _), (29, _), (30, _), (33, _), (34, _), (35, _), (36, _), (37, _), (38, _), (39, _), (40, _), (41, _), (42, _), (43, _), (44, _)] a := hA.sub ((.cons rfl (.cons rfl (.cons rfl (.cons rfl (.cons rfl (.cons rfl (.cons rfl (.cons rfl (.cons rfl (.cons rfl (.cons rfl (.cons rfl (.cons rfl (.cons rfl (.cons rfl (.cons rfl (.cons rfl (.cons rfl (.cons rfl (.cons rfl .nil)))))))))))))))))))))
      refine Ends.inLoop ?_
      refine Ends.seq ?_
      refine Ends.seq ?_
      refine Ends.region ?_
      refine S.val hA (R.move rfl) rfl ?_; clear hA a; intro a hA
      refine S.val hA (R.ff (R.lss rfl rfl) (by first | decide | simp | omega)) rfl ?_; clear hA a; intro a hA
      refine S.val hA (R.move rfl) rfl ?_; clear hA a; intro a hA
      refine S.no (dj := 37) hA (by kernel_rfl) rfl rfl rfl ?_; clear hA a; intro a hA
      refine S.no (dj := 37) hA (by kernel_rfl) rfl rfl rfl ?_; clear hA a; intro a hA
      refine S.no (dj := 37) hA (by kernel_rfl) rfl rfl rfl ?_; clear hA a; intro a hA
      refine S.val hA (R.pickF rfl rfl) rfl ?_; clear hA a; intro a hA
      refine S.done ?_
      replace hA : St 65 [(0, _), (3, _), (6, _), (7, _), (8, _), (28, _), (29, _), (30, _), (33, _), (34, _), (35, _), (36, _), (37, _), (41, _), (42, _), (43, _), (44, _)] a := hA.sub ((.cons rfl (.cons rfl (.cons rfl (.cons rfl (.cons rfl (.cons rfl (.cons rfl (.cons rfl (.cons rfl (.cons rfl (.cons rfl (.cons rfl (.cons rfl (.cons rfl (.cons rfl (.cons rfl (.cons rfl .nil))))))))))))))))))
      refine Ends.condF hA rfl ?_
      refine Ends.exit rfl ?_
      replace hA : St 65 [(0, _), (3, _), (6, _), (7, _), (8, _), (28, _), (29, _), (30, _), (33, _), (34, _), (35, _), (36, _), (37, _), (41, _), (42, _), (43, _), (44, _)] a := hA.sub ((.cons rfl (.cons rfl (.cons rfl (.cons rfl (.cons rfl (.cons rfl (.cons rfl (.cons rfl (.cons rfl (.cons rfl (.cons rfl (.cons rfl (.cons rfl (.cons rfl (.cons rfl (.cons rfl (.cons rfl .nil))))))))))))))))))
      refine Ends.seq ?_
      refine Ends.region ?_
      refine S.val hA (R.move rfl) rfl ?_; clear hA a; intro a hA
      refine S.call hA (R.callF Try.func16 rfl rfl rfl) rfl (cact_over p8 q4 x false true true _ (hM.block (k := 0) rfl)) ?_; clear hA a
      rintro e w14 ⟨rfl, rfl⟩
      refine ⟨.bool true, rfl, fun a hA => ?_⟩
      refine S.val hA (R.not rfl) rfl ?_; clear hA a; intro a hA
      refine S.val hA (R.move rfl) rfl ?_; clear hA a; intro a hA
      refine S.valg (dj := 49) hA (by kernel_rfl) rfl (R.move rfl) rfl ?_; clear hA a; intro a hA
      refine S.callg (dj := 49) hA (by kernel_rfl) rfl (R.callF Try.func18 rfl rfl rfl) rfl (cact_left p8 q4 x false true true _ (hM.block (k := 0) rfl)) ?_; clear hA a
      rintro e w15 ⟨rfl, rfl⟩
      refine ⟨.bool true, rfl, fun a hA => ?_⟩
      refine S.valg (dj := 49) hA (by kernel_rfl) rfl (R.move rfl) rfl ?_; clear hA a; intro a hA
      refine S.valg (dj := 49) hA (by kernel_rfl) rfl (R.move rfl) rfl ?_; clear hA a; intro a hA
      refine S.valg (dj := 49) hA (by kernel_rfl) rfl (R.subI rfl rfl (r := ((1 + (n1 : Int))) - 1) rfl (by omega)) rfl ?_; clear hA a; intro a hA
      refine S.valg (dj := 49) hA (by kernel_rfl) rfl (R.lss rfl rfl) rfl ?_; clear hA a; intro a hA
      refine S.valg (dj := 49) hA (by kernel_rfl) rfl (R.to (v := .bool false) (R.neqB Try.underlying4 rfl rfl) (congrArg Value.bool (by first | (rw [decide_eq_true (by omega)]; rfl) | (rw [decide_eq_false (by omega)]; rfl)))) rfl ?_; clear hA a; intro a hA
      refine S.val hA (R.pickF rfl rfl) rfl ?_; clear hA a; intro a hA
      refine S.done ?_
      replace hA : St 65 [(0, _), (3, _), (6, _), (7, _), (8, _), (28, _), (29, _), (30, _), (33, _), (34, _), (35, _), (36, _), (37, _), (41, _), (42, _), (43, _), (44, _), (46, _), (47, _), (48, _), (49, _), (50, _), (51, _), (52, _), (53, _), (54, _), (55, _), (56, _), (57, _)] a := hA.sub ((.cons rfl (.cons rfl (.cons rfl (.cons rfl (.cons rfl (.cons rfl (.cons rfl (.cons rfl (.cons rfl (.cons rfl (.cons rfl (.cons rfl (.cons rfl (.cons rfl (.cons rfl (.cons rfl (.cons rfl (.cons rfl (.cons rfl (.cons rfl (.cons rfl (.cons rfl (.cons rfl (.cons rfl (.cons rfl (.cons rfl (.cons rfl (.cons rfl (.cons rfl .nil))))))))))))))))))))))))))))))
      refine Ends.condF hA rfl ?_
      refine Ends.skip ?_
      refine Ends.inBlock ?_
      refine Ends.region ?_
      refine S.val hA (R.move rfl) rfl ?_; clear hA a; intro a hA
      refine S.val hA (R.addI rfl rfl (r := ((k : Int)) + 1) rfl (by omega)) rfl ?_; clear hA a; intro a hA
      refine S.val hA (R.assign rfl) rfl ?_; clear hA a; intro a hA
      refine S.done ?_
      replace hA : St 65 [(0, _), (3, _), (6, _), (7, _), (8, _), (28, _), (29, _), (30, _), (31, _), (32, _), (33, _), (34, _), (35, _), (36, _), (37, _), (41, _), (42, _), (43, _), (44, _), (46, _), (47, _), (48, _), (49, _), (50, _), (51, _), (52, _), (53, _), (54, _), (55, _), (56, _), (57, _)] a := hA.sub ((.cons rfl (.cons rfl (.cons rfl (.cons rfl (.cons rfl (.cons rfl (.cons rfl (.cons rfl (.cons rfl (.cons rfl (.cons rfl (.cons rfl (.cons rfl (.cons rfl (.cons rfl (.cons rfl (.cons rfl (.cons rfl (.cons rfl (.cons rfl (.cons rfl (.cons rfl (.cons rfl (.cons rfl (.cons rfl (.cons rfl (.cons rfl (.cons rfl (.cons rfl (.cons rfl (.cons rfl .nil))))))))))))))))))))))))))))))))
      replace hM := hM.front (k := 2) rfl
      replace hM := hM.front (k := 2) rfl
      replace hM : Mem _ _ [pt q4 #[.pointer (some ⟨m5, 0, none⟩), .int .i64 1] 108, memO m5 c6 [0, 0, x - 1, 0] (s + 1 + 1) ⟨3, 2, x, x - 1, true⟩, pt p8 #[.pointer (some ⟨q4, 0, none⟩), .bool false, .int .i64 x, .bool true, .bool true] 105] _ := hM
      replace hM : Mem _ _ [pt q4 #[.pointer (some ⟨m5, 0, none⟩), .int .i64 1] 108, memO m5 c6 [0, 0, x - 1, 0] (s + 1 + 1) ⟨3, 2, x, x - 1, true⟩] _ := hM.firstN 2
      exact hNext ((k + 1, x - 1, s + 1 + 1, ⟨3, 2, x, x - 1, true⟩)) _ _ ((by show n1 + 1 - (k + 1) < n1 + 1 - k; omega)) ⟨hA.sub ((.cons rfl (.cons rfl (.cons rfl .nil)))), hM, (by omega), (by omega), (by omega)⟩
  ·
    refine Ends.exit rfl ?_
    replace hA : St 65 [(3, _)] a := hA.sub ((.cons rfl .nil))
    refine Ends.seq ?_
    refine Ends.region ?_
    refine S.val hA (R.move rfl) rfl ?_; clear hA a; intro a hA
    refine S.call hA (R.callF Try.func19 rfl rfl rfl) rfl (cnt_Now q4 m5 c6 1 [0, 0, x, 0] s op (by first | omega | simp | (simp; omega)) (by first | omega | simp | (simp; omega)) (by first | omega | simp | (simp; omega)) hm5c6 _ (hM.hereN 2)) ?_; clear hA a
    rintro e w16 ⟨rfl, hn⟩
    replace hM : Mem _ _ [pt q4 #[.pointer (some ⟨m5, 0, none⟩), .int .i64 1] 108, memO m5 c6 [0, 0, x, 0] s op] _ := hM.callL 2 hn; clear hn
    refine ⟨.tuple #[.int .i64 0, .int .i64 x], rfl, fun a hA => ?_⟩
    refine S.val hA (R.move rfl) rfl ?_; clear hA a; intro a hA
    refine S.val hA (R.extract (v := .int .i64 0) rfl rfl) rfl ?_; clear hA a; intro a hA
    refine S.val hA (R.extract (v := .int .i64 x) rfl rfl) rfl ?_; clear hA a; intro a hA
    refine S.val hA (R.assign rfl) rfl ?_; clear hA a; intro a hA
    refine S.val hA (R.assign rfl) rfl ?_; clear hA a; intro a hA
    refine S.done ?_
    replace hA : St 65 [(10, _)] a := hA.sub ((.cons rfl .nil))
    refine Ends.seq ?_
    refine Ends.region ?_
    refine S.val hA (R.move rfl) rfl ?_; clear hA a; intro a hA
    refine S.val hA (R.tt (R.eql rfl rfl) (by omega)) rfl ?_; clear hA a; intro a hA
    refine S.val hA (R.assign rfl) rfl ?_; clear hA a; intro a hA
    refine S.done ?_
    replace hA : St 65 [(2, _)] a := hA.sub ((.cons rfl .nil))
    refine Ends.ret1 Try.func3 Try.results3 hA rfl ?_
    exact ⟨rfl, hM.nilL.below⟩
end Go.Proofs.Ytjjbognomeplbaa
