/-
  kurganlaw16.do and kurganref16.Mem.Do: what a job answers, and what the memory is behind it.
-/
import Derived.Test.YtlkemphhbamcfaaJobs
import Derived.Test.YtlkemphhbamcfaaSumsL
namespace Go.Proofs.Ytlkemphhbamcfaa
open Go.RowKit

set_option maxRecDepth 100000 in
set_option maxHeartbeats 400000 in
theorem do1_ok (b c : Nat) (l : List Int) (s : Int) (o : CellOp) (hbc : b ≠ c) (x i p q : Int) (h0 : 0 ≤ i) (h1 : i < l.length) (hs : 0 ≤ s ∧ s < 9223372036854775807) (w : World) (hm : (memO b c l s o).holds w) :
    Calls Try.prog 55 #[.pointer (some ⟨b, 0, none⟩), .agg #[.int .i64 x, .int .i64 i, .int .i64 p, .int .i64 q], .int .i64 1] w fun e w' => e = .returned (.tuple #[.int .i64 (l.getD i.toNat 0), .bool false, .int .i64 0]) ∧ Mem w (two b c) [memO b c (l.set i.toNat (l.getD i.toNat 0)) (s + 1) ⟨1, i, l.getD i.toNat 0, l.getD i.toNat 0, true⟩] w' := by
  have hM : Mem w (two b c) [memO b c l s o] w := (memO.open hm hbc).join
  refine Calls.of_ends (vs := [.pointer (some ⟨b, 0, none⟩), .agg #[.int .i64 x, .int .i64 i, .int .i64 p, .int .i64 q], .int .i64 1]) Try.func55 rfl Try.ntmps55 rfl ?_
  intro a hA
  replace hA : St 61 [(0, _), (1, _), (2, _)] a := hA
  refine Ends.seq ?_
  refine Ends.region ?_
  refine S.box hA hM rfl rfl ?_; clear hA hM a; intro b1 w1 hb2 hM a hA
  replace hM : Mem _ _ [pt b1 #[.int .i64 x, .int .i64 i, .int .i64 p, .int .i64 q] 87, memO b c l s o] _ := hM
  refine S.val hA (R.assign rfl) rfl ?_; clear hA a; intro a hA
  refine S.val hA (R.assign rfl) rfl ?_; clear hA a; intro a hA
  refine S.val hA (R.assign rfl) rfl ?_; clear hA a; intro a hA
  refine S.done ?_
  replace hA : St 61 [(0, _), (2, _), (4, _), (6, _), (7, _), (8, _)] a := hA.sub ((.cons rfl (.cons rfl (.cons rfl (.cons rfl (.cons rfl (.cons rfl .nil)))))))
  refine Ends.seq ?_
  refine Ends.seq ?_
  refine Ends.region ?_
  refine S.val hA (R.move rfl) rfl ?_; clear hA a; intro a hA
  refine S.done ?_
  replace hA : St 61 [(0, _), (4, _), (6, _), (7, _), (8, _), (15, _)] a := hA.sub ((.cons rfl (.cons rfl (.cons rfl (.cons rfl (.cons rfl (.cons rfl .nil)))))))
  refine Ends.block ?_
  refine Ends.seq ?_
  refine Ends.region ?_
  refine S.val hA (R.tt (R.eql rfl rfl) (by first | decide | simp | omega)) rfl ?_; clear hA a; intro a hA
  refine S.val hA (R.assign rfl) rfl ?_; clear hA a; intro a hA
  refine S.done ?_
  replace hA : St 61 [(0, _), (4, _), (6, _), (7, _), (8, _), (15, _), (16, _)] a := hA.sub ((.cons rfl (.cons rfl (.cons rfl (.cons rfl (.cons rfl (.cons rfl (.cons rfl .nil))))))))
  refine Ends.condT hA rfl ?_
  refine Ends.seq ?_
  refine Ends.region ?_
  refine S.val hA (R.move rfl) rfl ?_; clear hA a; intro a hA
  refine S.val hA (R.fieldAddr (q := 1) fi87_1 rfl rfl rfl) rfl ?_; clear hA a; intro a hA
  refine S.val hA (R.load sz3 rfl (hM.cell (k := 0) rfl rfl)) rfl ?_; clear hA a; intro a hA
  refine S.call hA (R.callF Try.func45 rfl rfl rfl) rfl (get_ok b c l s o hbc i (by omega) (by omega) (by omega) _ (hM.mem (k := 1) rfl)) ?_; clear hA a
  rintro e w2 ⟨rfl, hn⟩
  replace hM : Mem _ _ [memO b c ((l.set i.toNat (l.getD i.toNat 0))) (s + 1) ⟨1, i, l.getD i.toNat 0, l.getD i.toNat 0, true⟩, pt b1 #[.int .i64 x, .int .i64 i, .int .i64 p, .int .i64 q] 87] _ := hM.callW (k := 1) rfl hn (fun _ h => h); clear hn
  refine ⟨.tuple #[.int .i64 (l.getD i.toNat 0), .int .i64 0], rfl, fun a hA => ?_⟩
  refine S.val hA (R.move rfl) rfl ?_; clear hA a; intro a hA
  refine S.val hA (R.extract (v := .int .i64 (l.getD i.toNat 0)) rfl rfl) rfl ?_; clear hA a; intro a hA
  refine S.val hA (R.extract (v := .int .i64 0) rfl rfl) rfl ?_; clear hA a; intro a hA
  refine S.val hA (R.assign rfl) rfl ?_; clear hA a; intro a hA
  refine S.val hA (R.assign rfl) rfl ?_; clear hA a; intro a hA
  refine S.done ?_
  replace hA : St 61 [(0, _), (4, _), (6, _), (7, _), (8, _), (9, _), (10, _)] a := hA.sub ((.cons rfl (.cons rfl (.cons rfl (.cons rfl (.cons rfl (.cons rfl (.cons rfl .nil))))))))
  refine Ends.seq ?_
  refine Ends.region ?_
  refine S.val hA (R.move rfl) rfl ?_; clear hA a; intro a hA
  refine S.val hA (R.move rfl) rfl ?_; clear hA a; intro a hA
  refine S.val hA (R.assign rfl) rfl ?_; clear hA a; intro a hA
  refine S.val hA (R.assign rfl) rfl ?_; clear hA a; intro a hA
  refine S.val hA (R.assign rfl) rfl ?_; clear hA a; intro a hA
  refine S.done ?_
  replace hA : St 61 [(0, _), (4, _), (6, _), (7, _), (8, _)] a := hA.sub ((.cons rfl (.cons rfl (.cons rfl (.cons rfl (.cons rfl .nil))))))
  refine Ends.ret3 Try.func55 Try.results55 hA rfl rfl rfl ?_
  exact ⟨rfl, hM.only (k := 0) rfl⟩
set_option maxRecDepth 100000 in
set_option maxHeartbeats 400000 in
theorem do2_ok (b c : Nat) (l : List Int) (s : Int) (o : CellOp) (hbc : b ≠ c) (x i p q : Int) (h0 : 0 ≤ i) (h1 : i < l.length) (hs : 0 ≤ s ∧ s < 9223372036854775807) (w : World) (hm : (memO b c l s o).holds w) :
    Calls Try.prog 55 #[.pointer (some ⟨b, 0, none⟩), .agg #[.int .i64 x, .int .i64 i, .int .i64 p, .int .i64 q], .int .i64 2] w fun e w' => e = .returned (.tuple #[.int .i64 0, .bool false, .int .i64 0]) ∧ Mem w (two b c) [memO b c (l.set i.toNat p) (s + 1) ⟨2, i, l.getD i.toNat 0, p, true⟩] w' := by
  have hM : Mem w (two b c) [memO b c l s o] w := (memO.open hm hbc).join
  refine Calls.of_ends (vs := [.pointer (some ⟨b, 0, none⟩), .agg #[.int .i64 x, .int .i64 i, .int .i64 p, .int .i64 q], .int .i64 2]) Try.func55 rfl Try.ntmps55 rfl ?_
  intro a hA
  replace hA : St 61 [(0, _), (1, _), (2, _)] a := hA
  refine Ends.seq ?_
  refine Ends.region ?_
  refine S.box hA hM rfl rfl ?_; clear hA hM a; intro b1 w1 hb2 hM a hA
  replace hM : Mem _ _ [pt b1 #[.int .i64 x, .int .i64 i, .int .i64 p, .int .i64 q] 87, memO b c l s o] _ := hM
  refine S.val hA (R.assign rfl) rfl ?_; clear hA a; intro a hA
  refine S.val hA (R.assign rfl) rfl ?_; clear hA a; intro a hA
  refine S.val hA (R.assign rfl) rfl ?_; clear hA a; intro a hA
  refine S.done ?_
  replace hA : St 61 [(0, _), (2, _), (4, _), (6, _), (7, _), (8, _)] a := hA.sub ((.cons rfl (.cons rfl (.cons rfl (.cons rfl (.cons rfl (.cons rfl .nil)))))))
  refine Ends.seq ?_
  refine Ends.seq ?_
  refine Ends.region ?_
  refine S.val hA (R.move rfl) rfl ?_; clear hA a; intro a hA
  refine S.done ?_
  replace hA : St 61 [(0, _), (4, _), (6, _), (7, _), (8, _), (15, _)] a := hA.sub ((.cons rfl (.cons rfl (.cons rfl (.cons rfl (.cons rfl (.cons rfl .nil)))))))
  refine Ends.block ?_
  refine Ends.seq ?_
  refine Ends.region ?_
  refine S.val hA (R.ff (R.eql rfl rfl) (by first | decide | simp | omega)) rfl ?_; clear hA a; intro a hA
  refine S.val hA (R.assign rfl) rfl ?_; clear hA a; intro a hA
  refine S.done ?_
  replace hA : St 61 [(0, _), (4, _), (6, _), (7, _), (8, _), (15, _), (16, _)] a := hA.sub ((.cons rfl (.cons rfl (.cons rfl (.cons rfl (.cons rfl (.cons rfl (.cons rfl .nil))))))))
  refine Ends.condF hA rfl ?_
  refine Ends.seq ?_
  refine Ends.region ?_
  refine S.val hA (R.tt (R.eql rfl rfl) (by first | decide | simp | omega)) rfl ?_; clear hA a; intro a hA
  refine S.val hA (R.assign rfl) rfl ?_; clear hA a; intro a hA
  refine S.done ?_
  replace hA : St 61 [(0, _), (4, _), (6, _), (7, _), (8, _), (15, _), (27, _)] a := hA.sub ((.cons rfl (.cons rfl (.cons rfl (.cons rfl (.cons rfl (.cons rfl (.cons rfl .nil))))))))
  refine Ends.condT hA rfl ?_
  refine Ends.seq ?_
  refine Ends.region ?_
  refine S.val hA (R.move rfl) rfl ?_; clear hA a; intro a hA
  refine S.val hA (R.fieldAddr (q := 1) fi87_1 rfl rfl rfl) rfl ?_; clear hA a; intro a hA
  refine S.val hA (R.load sz3 rfl (hM.cell (k := 0) rfl rfl)) rfl ?_; clear hA a; intro a hA
  refine S.val hA (R.fieldAddr (q := 2) fi87_2 rfl rfl rfl) rfl ?_; clear hA a; intro a hA
  refine S.val hA (R.load sz3 rfl (hM.cell (k := 0) rfl rfl)) rfl ?_; clear hA a; intro a hA
  refine S.call hA (R.callF Try.func52 rfl rfl rfl) rfl (set_ok b c l s o hbc i p (by omega) (by omega) (by omega) _ (hM.mem (k := 1) rfl)) ?_; clear hA a
  rintro e w2 ⟨rfl, hn⟩
  replace hM : Mem _ _ [memO b c ((l.set i.toNat p)) (s + 1) ⟨2, i, l.getD i.toNat 0, p, true⟩, pt b1 #[.int .i64 x, .int .i64 i, .int .i64 p, .int .i64 q] 87] _ := hM.callW (k := 1) rfl hn (fun _ h => h); clear hn
  refine ⟨.int .i64 0, rfl, fun a hA => ?_⟩
  refine S.val hA (R.assign rfl) rfl ?_; clear hA a; intro a hA
  refine S.val hA (R.assign rfl) rfl ?_; clear hA a; intro a hA
  refine S.val hA (R.assign rfl) rfl ?_; clear hA a; intro a hA
  refine S.done ?_
  replace hA : St 61 [(0, _), (4, _), (6, _), (7, _), (8, _)] a := hA.sub ((.cons rfl (.cons rfl (.cons rfl (.cons rfl (.cons rfl .nil))))))
  refine Ends.ret3 Try.func55 Try.results55 hA rfl rfl rfl ?_
  exact ⟨rfl, hM.only (k := 0) rfl⟩
set_option maxRecDepth 100000 in
set_option maxHeartbeats 400000 in
theorem do3_hit (b c : Nat) (l : List Int) (s : Int) (o : CellOp) (hbc : b ≠ c) (x i p q : Int) (h0 : 0 ≤ i) (h1 : i < l.length) (hs : 0 ≤ s ∧ s < 9223372036854775807) (hv : l.getD i.toNat 0 = p) (w : World) (hm : (memO b c l s o).holds w) :
    Calls Try.prog 55 #[.pointer (some ⟨b, 0, none⟩), .agg #[.int .i64 x, .int .i64 i, .int .i64 p, .int .i64 q], .int .i64 3] w fun e w' => e = .returned (.tuple #[.int .i64 0, .bool true, .int .i64 0]) ∧ Mem w (two b c) [memO b c (l.set i.toNat q) (s + 1) ⟨3, i, l.getD i.toNat 0, q, true⟩] w' := by
  have hM : Mem w (two b c) [memO b c l s o] w := (memO.open hm hbc).join
  refine Calls.of_ends (vs := [.pointer (some ⟨b, 0, none⟩), .agg #[.int .i64 x, .int .i64 i, .int .i64 p, .int .i64 q], .int .i64 3]) Try.func55 rfl Try.ntmps55 rfl ?_
  intro a hA
  replace hA : St 61 [(0, _), (1, _), (2, _)] a := hA
  refine Ends.seq ?_
  refine Ends.region ?_
  refine S.box hA hM rfl rfl ?_; clear hA hM a; intro b1 w1 hb2 hM a hA
  replace hM : Mem _ _ [pt b1 #[.int .i64 x, .int .i64 i, .int .i64 p, .int .i64 q] 87, memO b c l s o] _ := hM
  refine S.val hA (R.assign rfl) rfl ?_; clear hA a; intro a hA
  refine S.val hA (R.assign rfl) rfl ?_; clear hA a; intro a hA
  refine S.val hA (R.assign rfl) rfl ?_; clear hA a; intro a hA
  refine S.done ?_
  replace hA : St 61 [(0, _), (2, _), (4, _), (6, _), (7, _), (8, _)] a := hA.sub ((.cons rfl (.cons rfl (.cons rfl (.cons rfl (.cons rfl (.cons rfl .nil)))))))
  refine Ends.seq ?_
  refine Ends.seq ?_
  refine Ends.region ?_
  refine S.val hA (R.move rfl) rfl ?_; clear hA a; intro a hA
  refine S.done ?_
  replace hA : St 61 [(0, _), (4, _), (6, _), (7, _), (8, _), (15, _)] a := hA.sub ((.cons rfl (.cons rfl (.cons rfl (.cons rfl (.cons rfl (.cons rfl .nil)))))))
  refine Ends.block ?_
  refine Ends.seq ?_
  refine Ends.region ?_
  refine S.val hA (R.ff (R.eql rfl rfl) (by first | decide | simp | omega)) rfl ?_; clear hA a; intro a hA
  refine S.val hA (R.assign rfl) rfl ?_; clear hA a; intro a hA
  refine S.done ?_
  replace hA : St 61 [(0, _), (4, _), (6, _), (7, _), (8, _), (15, _), (16, _)] a := hA.sub ((.cons rfl (.cons rfl (.cons rfl (.cons rfl (.cons rfl (.cons rfl (.cons rfl .nil))))))))
  refine Ends.condF hA rfl ?_
  refine Ends.seq ?_
  refine Ends.region ?_
  refine S.val hA (R.ff (R.eql rfl rfl) (by first | decide | simp | omega)) rfl ?_; clear hA a; intro a hA
  refine S.val hA (R.assign rfl) rfl ?_; clear hA a; intro a hA
  refine S.done ?_
  replace hA : St 61 [(0, _), (4, _), (6, _), (7, _), (8, _), (15, _), (27, _)] a := hA.sub ((.cons rfl (.cons rfl (.cons rfl (.cons rfl (.cons rfl (.cons rfl (.cons rfl .nil))))))))
  refine Ends.condF hA rfl ?_
  refine Ends.seq ?_
  refine Ends.region ?_
  refine S.val hA (R.tt (R.eql rfl rfl) (by first | decide | simp | omega)) rfl ?_; clear hA a; intro a hA
  refine S.val hA (R.assign rfl) rfl ?_; clear hA a; intro a hA
  refine S.done ?_
  replace hA : St 61 [(0, _), (4, _), (6, _), (7, _), (8, _), (35, _)] a := hA.sub ((.cons rfl (.cons rfl (.cons rfl (.cons rfl (.cons rfl (.cons rfl .nil)))))))
  refine Ends.condT hA rfl ?_
  refine Ends.seq ?_
  refine Ends.region ?_
  refine S.val hA (R.move rfl) rfl ?_; clear hA a; intro a hA
  refine S.val hA (R.fieldAddr (q := 1) fi87_1 rfl rfl rfl) rfl ?_; clear hA a; intro a hA
  refine S.val hA (R.load sz3 rfl (hM.cell (k := 0) rfl rfl)) rfl ?_; clear hA a; intro a hA
  refine S.val hA (R.fieldAddr (q := 2) fi87_2 rfl rfl rfl) rfl ?_; clear hA a; intro a hA
  refine S.val hA (R.load sz3 rfl (hM.cell (k := 0) rfl rfl)) rfl ?_; clear hA a; intro a hA
  refine S.val hA (R.fieldAddr (q := 3) fi87_3 rfl rfl rfl) rfl ?_; clear hA a; intro a hA
  refine S.val hA (R.load sz3 rfl (hM.cell (k := 0) rfl rfl)) rfl ?_; clear hA a; intro a hA
  refine S.call hA (R.callF Try.func50 rfl rfl rfl) rfl (cas_hit b c l s o hbc i p q (by omega) (by omega) (by omega) hv _ (hM.mem (k := 1) rfl)) ?_; clear hA a
  rintro e w2 ⟨rfl, hn⟩
  replace hM : Mem _ _ [memO b c ((l.set i.toNat q)) (s + 1) ⟨3, i, l.getD i.toNat 0, q, true⟩, pt b1 #[.int .i64 x, .int .i64 i, .int .i64 p, .int .i64 q] 87] _ := hM.callW (k := 1) rfl hn (fun _ h => h); clear hn
  refine ⟨.tuple #[.bool true, .int .i64 0], rfl, fun a hA => ?_⟩
  refine S.val hA (R.move rfl) rfl ?_; clear hA a; intro a hA
  refine S.val hA (R.extract (v := .bool true) rfl rfl) rfl ?_; clear hA a; intro a hA
  refine S.val hA (R.extract (v := .int .i64 0) rfl rfl) rfl ?_; clear hA a; intro a hA
  refine S.val hA (R.assign rfl) rfl ?_; clear hA a; intro a hA
  refine S.val hA (R.assign rfl) rfl ?_; clear hA a; intro a hA
  refine S.done ?_
  replace hA : St 61 [(0, _), (4, _), (6, _), (7, _), (8, _), (11, _), (12, _)] a := hA.sub ((.cons rfl (.cons rfl (.cons rfl (.cons rfl (.cons rfl (.cons rfl (.cons rfl .nil))))))))
  refine Ends.seq ?_
  refine Ends.region ?_
  refine S.val hA (R.move rfl) rfl ?_; clear hA a; intro a hA
  refine S.val hA (R.move rfl) rfl ?_; clear hA a; intro a hA
  refine S.val hA (R.assign rfl) rfl ?_; clear hA a; intro a hA
  refine S.val hA (R.assign rfl) rfl ?_; clear hA a; intro a hA
  refine S.val hA (R.assign rfl) rfl ?_; clear hA a; intro a hA
  refine S.done ?_
  replace hA : St 61 [(0, _), (4, _), (6, _), (7, _), (8, _)] a := hA.sub ((.cons rfl (.cons rfl (.cons rfl (.cons rfl (.cons rfl .nil))))))
  refine Ends.ret3 Try.func55 Try.results55 hA rfl rfl rfl ?_
  exact ⟨rfl, hM.only (k := 0) rfl⟩
set_option maxRecDepth 100000 in
set_option maxHeartbeats 400000 in
theorem do3_not (b c : Nat) (l : List Int) (s : Int) (o : CellOp) (hbc : b ≠ c) (x i p q : Int) (h0 : 0 ≤ i) (h1 : i < l.length) (hs : 0 ≤ s ∧ s < 9223372036854775807) (hv : l.getD i.toNat 0 ≠ p) (w : World) (hm : (memO b c l s o).holds w) :
    Calls Try.prog 55 #[.pointer (some ⟨b, 0, none⟩), .agg #[.int .i64 x, .int .i64 i, .int .i64 p, .int .i64 q], .int .i64 3] w fun e w' => e = .returned (.tuple #[.int .i64 0, .bool false, .int .i64 0]) ∧ Mem w (two b c) [memO b c (l.set i.toNat (l.getD i.toNat 0)) (s + 1) ⟨3, i, l.getD i.toNat 0, l.getD i.toNat 0, false⟩] w' := by
  have hM : Mem w (two b c) [memO b c l s o] w := (memO.open hm hbc).join
  refine Calls.of_ends (vs := [.pointer (some ⟨b, 0, none⟩), .agg #[.int .i64 x, .int .i64 i, .int .i64 p, .int .i64 q], .int .i64 3]) Try.func55 rfl Try.ntmps55 rfl ?_
  intro a hA
  replace hA : St 61 [(0, _), (1, _), (2, _)] a := hA
  refine Ends.seq ?_
  refine Ends.region ?_
  refine S.box hA hM rfl rfl ?_; clear hA hM a; intro b1 w1 hb2 hM a hA
  replace hM : Mem _ _ [pt b1 #[.int .i64 x, .int .i64 i, .int .i64 p, .int .i64 q] 87, memO b c l s o] _ := hM
  refine S.val hA (R.assign rfl) rfl ?_; clear hA a; intro a hA
  refine S.val hA (R.assign rfl) rfl ?_; clear hA a; intro a hA
  refine S.val hA (R.assign rfl) rfl ?_; clear hA a; intro a hA
  refine S.done ?_
  replace hA : St 61 [(0, _), (2, _), (4, _), (6, _), (7, _), (8, _)] a := hA.sub ((.cons rfl (.cons rfl (.cons rfl (.cons rfl (.cons rfl (.cons rfl .nil)))))))
  refine Ends.seq ?_
  refine Ends.seq ?_
  refine Ends.region ?_
  refine S.val hA (R.move rfl) rfl ?_; clear hA a; intro a hA
  refine S.done ?_
  replace hA : St 61 [(0, _), (4, _), (6, _), (7, _), (8, _), (15, _)] a := hA.sub ((.cons rfl (.cons rfl (.cons rfl (.cons rfl (.cons rfl (.cons rfl .nil)))))))
  refine Ends.block ?_
  refine Ends.seq ?_
  refine Ends.region ?_
  refine S.val hA (R.ff (R.eql rfl rfl) (by first | decide | simp | omega)) rfl ?_; clear hA a; intro a hA
  refine S.val hA (R.assign rfl) rfl ?_; clear hA a; intro a hA
  refine S.done ?_
  replace hA : St 61 [(0, _), (4, _), (6, _), (7, _), (8, _), (15, _), (16, _)] a := hA.sub ((.cons rfl (.cons rfl (.cons rfl (.cons rfl (.cons rfl (.cons rfl (.cons rfl .nil))))))))
  refine Ends.condF hA rfl ?_
  refine Ends.seq ?_
  refine Ends.region ?_
  refine S.val hA (R.ff (R.eql rfl rfl) (by first | decide | simp | omega)) rfl ?_; clear hA a; intro a hA
  refine S.val hA (R.assign rfl) rfl ?_; clear hA a; intro a hA
  refine S.done ?_
  replace hA : St 61 [(0, _), (4, _), (6, _), (7, _), (8, _), (15, _), (27, _)] a := hA.sub ((.cons rfl (.cons rfl (.cons rfl (.cons rfl (.cons rfl (.cons rfl (.cons rfl .nil))))))))
  refine Ends.condF hA rfl ?_
  refine Ends.seq ?_
  refine Ends.region ?_
  refine S.val hA (R.tt (R.eql rfl rfl) (by first | decide | simp | omega)) rfl ?_; clear hA a; intro a hA
  refine S.val hA (R.assign rfl) rfl ?_; clear hA a; intro a hA
  refine S.done ?_
  replace hA : St 61 [(0, _), (4, _), (6, _), (7, _), (8, _), (35, _)] a := hA.sub ((.cons rfl (.cons rfl (.cons rfl (.cons rfl (.cons rfl (.cons rfl .nil)))))))
  refine Ends.condT hA rfl ?_
  refine Ends.seq ?_
  refine Ends.region ?_
  refine S.val hA (R.move rfl) rfl ?_; clear hA a; intro a hA
  refine S.val hA (R.fieldAddr (q := 1) fi87_1 rfl rfl rfl) rfl ?_; clear hA a; intro a hA
  refine S.val hA (R.load sz3 rfl (hM.cell (k := 0) rfl rfl)) rfl ?_; clear hA a; intro a hA
  refine S.val hA (R.fieldAddr (q := 2) fi87_2 rfl rfl rfl) rfl ?_; clear hA a; intro a hA
  refine S.val hA (R.load sz3 rfl (hM.cell (k := 0) rfl rfl)) rfl ?_; clear hA a; intro a hA
  refine S.val hA (R.fieldAddr (q := 3) fi87_3 rfl rfl rfl) rfl ?_; clear hA a; intro a hA
  refine S.val hA (R.load sz3 rfl (hM.cell (k := 0) rfl rfl)) rfl ?_; clear hA a; intro a hA
  refine S.call hA (R.callF Try.func50 rfl rfl rfl) rfl (cas_not b c l s o hbc i p q (by omega) (by omega) (by omega) hv _ (hM.mem (k := 1) rfl)) ?_; clear hA a
  rintro e w2 ⟨rfl, hn⟩
  replace hM : Mem _ _ [memO b c ((l.set i.toNat (l.getD i.toNat 0))) (s + 1) ⟨3, i, l.getD i.toNat 0, l.getD i.toNat 0, false⟩, pt b1 #[.int .i64 x, .int .i64 i, .int .i64 p, .int .i64 q] 87] _ := hM.callW (k := 1) rfl hn (fun _ h => h); clear hn
  refine ⟨.tuple #[.bool false, .int .i64 0], rfl, fun a hA => ?_⟩
  refine S.val hA (R.move rfl) rfl ?_; clear hA a; intro a hA
  refine S.val hA (R.extract (v := .bool false) rfl rfl) rfl ?_; clear hA a; intro a hA
  refine S.val hA (R.extract (v := .int .i64 0) rfl rfl) rfl ?_; clear hA a; intro a hA
  refine S.val hA (R.assign rfl) rfl ?_; clear hA a; intro a hA
  refine S.val hA (R.assign rfl) rfl ?_; clear hA a; intro a hA
  refine S.done ?_
  replace hA : St 61 [(0, _), (4, _), (6, _), (7, _), (8, _), (11, _), (12, _)] a := hA.sub ((.cons rfl (.cons rfl (.cons rfl (.cons rfl (.cons rfl (.cons rfl (.cons rfl .nil))))))))
  refine Ends.seq ?_
  refine Ends.region ?_
  refine S.val hA (R.move rfl) rfl ?_; clear hA a; intro a hA
  refine S.val hA (R.move rfl) rfl ?_; clear hA a; intro a hA
  refine S.val hA (R.assign rfl) rfl ?_; clear hA a; intro a hA
  refine S.val hA (R.assign rfl) rfl ?_; clear hA a; intro a hA
  refine S.val hA (R.assign rfl) rfl ?_; clear hA a; intro a hA
  refine S.done ?_
  replace hA : St 61 [(0, _), (4, _), (6, _), (7, _), (8, _)] a := hA.sub ((.cons rfl (.cons rfl (.cons rfl (.cons rfl (.cons rfl .nil))))))
  refine Ends.ret3 Try.func55 Try.results55 hA rfl rfl rfl ?_
  exact ⟨rfl, hM.only (k := 0) rfl⟩
set_option maxRecDepth 100000 in
set_option maxHeartbeats 400000 in
theorem do4_ok (b c : Nat) (l : List Int) (s : Int) (o : CellOp) (hbc : b ≠ c) (x i p q : Int) (h0 : 0 ≤ i) (h1 : i < l.length) (hs : 0 ≤ s ∧ s < 9223372036854775807) (hr : -9223372036854775808 ≤ l.getD i.toNat 0 ∧ l.getD i.toNat 0 ≤ 9223372036854775807) (hp : -9223372036854775808 ≤ p ∧ p ≤ 9223372036854775807) (hv : -9223372036854775808 ≤ l.getD i.toNat 0 + p ∧ l.getD i.toNat 0 + p ≤ 9223372036854775807) (w : World) (hm : (memO b c l s o).holds w) :
    Calls Try.prog 55 #[.pointer (some ⟨b, 0, none⟩), .agg #[.int .i64 x, .int .i64 i, .int .i64 p, .int .i64 q], .int .i64 4] w fun e w' => e = .returned (.tuple #[.int .i64 (l.getD i.toNat 0), .bool false, .int .i64 0]) ∧ Mem w (two b c) [memO b c (l.set i.toNat (l.getD i.toNat 0 + p)) (s + 1) ⟨4, i, l.getD i.toNat 0, l.getD i.toNat 0 + p, true⟩] w' := by
  have hM : Mem w (two b c) [memO b c l s o] w := (memO.open hm hbc).join
  refine Calls.of_ends (vs := [.pointer (some ⟨b, 0, none⟩), .agg #[.int .i64 x, .int .i64 i, .int .i64 p, .int .i64 q], .int .i64 4]) Try.func55 rfl Try.ntmps55 rfl ?_
  intro a hA
  replace hA : St 61 [(0, _), (1, _), (2, _)] a := hA
  refine Ends.seq ?_
  refine Ends.region ?_
  refine S.box hA hM rfl rfl ?_; clear hA hM a; intro b1 w1 hb2 hM a hA
  replace hM : Mem _ _ [pt b1 #[.int .i64 x, .int .i64 i, .int .i64 p, .int .i64 q] 87, memO b c l s o] _ := hM
  refine S.val hA (R.assign rfl) rfl ?_; clear hA a; intro a hA
  refine S.val hA (R.assign rfl) rfl ?_; clear hA a; intro a hA
  refine S.val hA (R.assign rfl) rfl ?_; clear hA a; intro a hA
  refine S.done ?_
  replace hA : St 61 [(0, _), (2, _), (4, _), (6, _), (7, _), (8, _)] a := hA.sub ((.cons rfl (.cons rfl (.cons rfl (.cons rfl (.cons rfl (.cons rfl .nil)))))))
  refine Ends.seq ?_
  refine Ends.seq ?_
  refine Ends.region ?_
  refine S.val hA (R.move rfl) rfl ?_; clear hA a; intro a hA
  refine S.done ?_
  replace hA : St 61 [(0, _), (4, _), (6, _), (7, _), (8, _), (15, _)] a := hA.sub ((.cons rfl (.cons rfl (.cons rfl (.cons rfl (.cons rfl (.cons rfl .nil)))))))
  refine Ends.block ?_
  refine Ends.seq ?_
  refine Ends.region ?_
  refine S.val hA (R.ff (R.eql rfl rfl) (by first | decide | simp | omega)) rfl ?_; clear hA a; intro a hA
  refine S.val hA (R.assign rfl) rfl ?_; clear hA a; intro a hA
  refine S.done ?_
  replace hA : St 61 [(0, _), (4, _), (6, _), (7, _), (8, _), (15, _), (16, _)] a := hA.sub ((.cons rfl (.cons rfl (.cons rfl (.cons rfl (.cons rfl (.cons rfl (.cons rfl .nil))))))))
  refine Ends.condF hA rfl ?_
  refine Ends.seq ?_
  refine Ends.region ?_
  refine S.val hA (R.ff (R.eql rfl rfl) (by first | decide | simp | omega)) rfl ?_; clear hA a; intro a hA
  refine S.val hA (R.assign rfl) rfl ?_; clear hA a; intro a hA
  refine S.done ?_
  replace hA : St 61 [(0, _), (4, _), (6, _), (7, _), (8, _), (15, _), (27, _)] a := hA.sub ((.cons rfl (.cons rfl (.cons rfl (.cons rfl (.cons rfl (.cons rfl (.cons rfl .nil))))))))
  refine Ends.condF hA rfl ?_
  refine Ends.seq ?_
  refine Ends.region ?_
  refine S.val hA (R.ff (R.eql rfl rfl) (by first | decide | simp | omega)) rfl ?_; clear hA a; intro a hA
  refine S.val hA (R.assign rfl) rfl ?_; clear hA a; intro a hA
  refine S.done ?_
  replace hA : St 61 [(0, _), (4, _), (6, _), (7, _), (8, _), (35, _)] a := hA.sub ((.cons rfl (.cons rfl (.cons rfl (.cons rfl (.cons rfl (.cons rfl .nil)))))))
  refine Ends.condF hA rfl ?_
  refine Ends.skip ?_
  refine Ends.inBlock ?_
  refine Ends.seq ?_
  refine Ends.region ?_
  refine S.val hA (R.move rfl) rfl ?_; clear hA a; intro a hA
  refine S.val hA (R.fieldAddr (q := 1) fi87_1 rfl rfl rfl) rfl ?_; clear hA a; intro a hA
  refine S.val hA (R.load sz3 rfl (hM.cell (k := 0) rfl rfl)) rfl ?_; clear hA a; intro a hA
  refine S.val hA (R.fieldAddr (q := 2) fi87_2 rfl rfl rfl) rfl ?_; clear hA a; intro a hA
  refine S.val hA (R.load sz3 rfl (hM.cell (k := 0) rfl rfl)) rfl ?_; clear hA a; intro a hA
  refine S.call hA (R.callF Try.func51 rfl rfl rfl) rfl (bump_ok b c l s o hbc i p h0 h1 hs hr hp hv _ (hM.mem (k := 1) rfl)) ?_; clear hA a
  rintro e w2 ⟨rfl, hn⟩
  replace hM : Mem _ _ [memO b c ((l.set i.toNat (l.getD i.toNat 0 + p))) (s + 1) ⟨4, i, l.getD i.toNat 0, l.getD i.toNat 0 + p, true⟩, pt b1 #[.int .i64 x, .int .i64 i, .int .i64 p, .int .i64 q] 87] _ := hM.callW (k := 1) rfl hn (fun _ h => h); clear hn
  refine ⟨.tuple #[.int .i64 (l.getD i.toNat 0), .int .i64 0], rfl, fun a hA => ?_⟩
  refine S.val hA (R.move rfl) rfl ?_; clear hA a; intro a hA
  refine S.val hA (R.extract (v := .int .i64 (l.getD i.toNat 0)) rfl rfl) rfl ?_; clear hA a; intro a hA
  refine S.val hA (R.extract (v := .int .i64 0) rfl rfl) rfl ?_; clear hA a; intro a hA
  refine S.val hA (R.assign rfl) rfl ?_; clear hA a; intro a hA
  refine S.val hA (R.assign rfl) rfl ?_; clear hA a; intro a hA
  refine S.done ?_
  replace hA : St 61 [(6, _), (7, _), (8, _), (13, _), (14, _)] a := hA.sub ((.cons rfl (.cons rfl (.cons rfl (.cons rfl (.cons rfl .nil))))))
  refine Ends.seq ?_
  refine Ends.region ?_
  refine S.val hA (R.move rfl) rfl ?_; clear hA a; intro a hA
  refine S.val hA (R.move rfl) rfl ?_; clear hA a; intro a hA
  refine S.val hA (R.assign rfl) rfl ?_; clear hA a; intro a hA
  refine S.val hA (R.assign rfl) rfl ?_; clear hA a; intro a hA
  refine S.val hA (R.assign rfl) rfl ?_; clear hA a; intro a hA
  refine S.done ?_
  replace hA : St 61 [(6, _), (7, _), (8, _)] a := hA.sub ((.cons rfl (.cons rfl (.cons rfl .nil))))
  refine Ends.ret3 Try.func55 Try.results55 hA rfl rfl rfl ?_
  exact ⟨rfl, hM.only (k := 0) rfl⟩
set_option maxRecDepth 100000 in
set_option maxHeartbeats 400000 in
theorem do4_over (b c : Nat) (l : List Int) (s : Int) (o : CellOp) (hbc : b ≠ c) (x i p q : Int) (h0 : 0 ≤ i) (h1 : i < l.length) (hr : -9223372036854775808 ≤ l.getD i.toNat 0 ∧ l.getD i.toNat 0 ≤ 9223372036854775807) (hp : -9223372036854775808 ≤ p ∧ p ≤ 9223372036854775807) (hv : ¬ (-9223372036854775808 ≤ l.getD i.toNat 0 + p ∧ l.getD i.toNat 0 + p ≤ 9223372036854775807)) (w : World) (hm : (memO b c l s o).holds w) :
    Calls Try.prog 55 #[.pointer (some ⟨b, 0, none⟩), .agg #[.int .i64 x, .int .i64 i, .int .i64 p, .int .i64 q], .int .i64 4] w fun e w' => e = .returned (.tuple #[.int .i64 0, .bool false, .int .i64 12]) ∧ Mem w (two b c) [memO b c l (s) o] w' := by
  have hM : Mem w (two b c) [memO b c l s o] w := (memO.open hm hbc).join
  refine Calls.of_ends (vs := [.pointer (some ⟨b, 0, none⟩), .agg #[.int .i64 x, .int .i64 i, .int .i64 p, .int .i64 q], .int .i64 4]) Try.func55 rfl Try.ntmps55 rfl ?_
  intro a hA
  replace hA : St 61 [(0, _), (1, _), (2, _)] a := hA
  refine Ends.seq ?_
  refine Ends.region ?_
  refine S.box hA hM rfl rfl ?_; clear hA hM a; intro b1 w1 hb2 hM a hA
  replace hM : Mem _ _ [pt b1 #[.int .i64 x, .int .i64 i, .int .i64 p, .int .i64 q] 87, memO b c l s o] _ := hM
  refine S.val hA (R.assign rfl) rfl ?_; clear hA a; intro a hA
  refine S.val hA (R.assign rfl) rfl ?_; clear hA a; intro a hA
  refine S.val hA (R.assign rfl) rfl ?_; clear hA a; intro a hA
  refine S.done ?_
  replace hA : St 61 [(0, _), (2, _), (4, _), (6, _), (7, _), (8, _)] a := hA.sub ((.cons rfl (.cons rfl (.cons rfl (.cons rfl (.cons rfl (.cons rfl .nil)))))))
  refine Ends.seq ?_
  refine Ends.seq ?_
  refine Ends.region ?_
  refine S.val hA (R.move rfl) rfl ?_; clear hA a; intro a hA
  refine S.done ?_
  replace hA : St 61 [(0, _), (4, _), (6, _), (7, _), (8, _), (15, _)] a := hA.sub ((.cons rfl (.cons rfl (.cons rfl (.cons rfl (.cons rfl (.cons rfl .nil)))))))
  refine Ends.block ?_
  refine Ends.seq ?_
  refine Ends.region ?_
  refine S.val hA (R.ff (R.eql rfl rfl) (by first | decide | simp | omega)) rfl ?_; clear hA a; intro a hA
  refine S.val hA (R.assign rfl) rfl ?_; clear hA a; intro a hA
  refine S.done ?_
  replace hA : St 61 [(0, _), (4, _), (6, _), (7, _), (8, _), (15, _), (16, _)] a := hA.sub ((.cons rfl (.cons rfl (.cons rfl (.cons rfl (.cons rfl (.cons rfl (.cons rfl .nil))))))))
  refine Ends.condF hA rfl ?_
  refine Ends.seq ?_
  refine Ends.region ?_
  refine S.val hA (R.ff (R.eql rfl rfl) (by first | decide | simp | omega)) rfl ?_; clear hA a; intro a hA
  refine S.val hA (R.assign rfl) rfl ?_; clear hA a; intro a hA
  refine S.done ?_
  replace hA : St 61 [(0, _), (4, _), (6, _), (7, _), (8, _), (15, _), (27, _)] a := hA.sub ((.cons rfl (.cons rfl (.cons rfl (.cons rfl (.cons rfl (.cons rfl (.cons rfl .nil))))))))
  refine Ends.condF hA rfl ?_
  refine Ends.seq ?_
  refine Ends.region ?_
  refine S.val hA (R.ff (R.eql rfl rfl) (by first | decide | simp | omega)) rfl ?_; clear hA a; intro a hA
  refine S.val hA (R.assign rfl) rfl ?_; clear hA a; intro a hA
  refine S.done ?_
  replace hA : St 61 [(0, _), (4, _), (6, _), (7, _), (8, _), (35, _)] a := hA.sub ((.cons rfl (.cons rfl (.cons rfl (.cons rfl (.cons rfl (.cons rfl .nil)))))))
  refine Ends.condF hA rfl ?_
  refine Ends.skip ?_
  refine Ends.inBlock ?_
  refine Ends.seq ?_
  refine Ends.region ?_
  refine S.val hA (R.move rfl) rfl ?_; clear hA a; intro a hA
  refine S.val hA (R.fieldAddr (q := 1) fi87_1 rfl rfl rfl) rfl ?_; clear hA a; intro a hA
  refine S.val hA (R.load sz3 rfl (hM.cell (k := 0) rfl rfl)) rfl ?_; clear hA a; intro a hA
  refine S.val hA (R.fieldAddr (q := 2) fi87_2 rfl rfl rfl) rfl ?_; clear hA a; intro a hA
  refine S.val hA (R.load sz3 rfl (hM.cell (k := 0) rfl rfl)) rfl ?_; clear hA a; intro a hA
  refine S.call hA (R.callF Try.func51 rfl rfl rfl) rfl (bump_over b c l s o hbc i p h0 h1 hr hp hv _ (hM.mem (k := 1) rfl)) ?_; clear hA a
  rintro e w2 ⟨rfl, rfl⟩
  refine ⟨.tuple #[.int .i64 0, .int .i64 12], rfl, fun a hA => ?_⟩
  refine S.val hA (R.move rfl) rfl ?_; clear hA a; intro a hA
  refine S.val hA (R.extract (v := .int .i64 0) rfl rfl) rfl ?_; clear hA a; intro a hA
  refine S.val hA (R.extract (v := .int .i64 12) rfl rfl) rfl ?_; clear hA a; intro a hA
  refine S.val hA (R.assign rfl) rfl ?_; clear hA a; intro a hA
  refine S.val hA (R.assign rfl) rfl ?_; clear hA a; intro a hA
  refine S.done ?_
  replace hA : St 61 [(6, _), (7, _), (8, _), (13, _), (14, _)] a := hA.sub ((.cons rfl (.cons rfl (.cons rfl (.cons rfl (.cons rfl .nil))))))
  refine Ends.seq ?_
  refine Ends.region ?_
  refine S.val hA (R.move rfl) rfl ?_; clear hA a; intro a hA
  refine S.val hA (R.move rfl) rfl ?_; clear hA a; intro a hA
  refine S.val hA (R.assign rfl) rfl ?_; clear hA a; intro a hA
  refine S.val hA (R.assign rfl) rfl ?_; clear hA a; intro a hA
  refine S.val hA (R.assign rfl) rfl ?_; clear hA a; intro a hA
  refine S.done ?_
  replace hA : St 61 [(6, _), (7, _), (8, _)] a := hA.sub ((.cons rfl (.cons rfl (.cons rfl .nil))))
  refine Ends.ret3 Try.func55 Try.results55 hA rfl rfl rfl ?_
  exact ⟨rfl, hM.only (k := 1) rfl⟩
set_option maxRecDepth 100000 in
set_option maxHeartbeats 400000 in
theorem do1_low (b c : Nat) (l : List Int) (s : Int) (o : CellOp) (hbc : b ≠ c) (x i p q : Int) (h0 : i < 0) (w : World) (hm : (memO b c l s o).holds w) :
    Calls Try.prog 55 #[.pointer (some ⟨b, 0, none⟩), .agg #[.int .i64 x, .int .i64 i, .int .i64 p, .int .i64 q], .int .i64 1] w fun e w' => e = .returned (.tuple #[.int .i64 0, .bool false, .int .i64 11]) ∧ Mem w (two b c) [memO b c l (s) o] w' := by
  have hM : Mem w (two b c) [memO b c l s o] w := (memO.open hm hbc).join
  refine Calls.of_ends (vs := [.pointer (some ⟨b, 0, none⟩), .agg #[.int .i64 x, .int .i64 i, .int .i64 p, .int .i64 q], .int .i64 1]) Try.func55 rfl Try.ntmps55 rfl ?_
  intro a hA
  replace hA : St 61 [(0, _), (1, _), (2, _)] a := hA
  refine Ends.seq ?_
  refine Ends.region ?_
  refine S.box hA hM rfl rfl ?_; clear hA hM a; intro b1 w1 hb2 hM a hA
  replace hM : Mem _ _ [pt b1 #[.int .i64 x, .int .i64 i, .int .i64 p, .int .i64 q] 87, memO b c l s o] _ := hM
  refine S.val hA (R.assign rfl) rfl ?_; clear hA a; intro a hA
  refine S.val hA (R.assign rfl) rfl ?_; clear hA a; intro a hA
  refine S.val hA (R.assign rfl) rfl ?_; clear hA a; intro a hA
  refine S.done ?_
  replace hA : St 61 [(0, _), (2, _), (4, _), (6, _), (7, _), (8, _)] a := hA.sub ((.cons rfl (.cons rfl (.cons rfl (.cons rfl (.cons rfl (.cons rfl .nil)))))))
  refine Ends.seq ?_
  refine Ends.seq ?_
  refine Ends.region ?_
  refine S.val hA (R.move rfl) rfl ?_; clear hA a; intro a hA
  refine S.done ?_
  replace hA : St 61 [(0, _), (4, _), (6, _), (7, _), (8, _), (15, _)] a := hA.sub ((.cons rfl (.cons rfl (.cons rfl (.cons rfl (.cons rfl (.cons rfl .nil)))))))
  refine Ends.block ?_
  refine Ends.seq ?_
  refine Ends.region ?_
  refine S.val hA (R.tt (R.eql rfl rfl) (by first | decide | simp | omega)) rfl ?_; clear hA a; intro a hA
  refine S.val hA (R.assign rfl) rfl ?_; clear hA a; intro a hA
  refine S.done ?_
  replace hA : St 61 [(0, _), (4, _), (6, _), (7, _), (8, _), (15, _), (16, _)] a := hA.sub ((.cons rfl (.cons rfl (.cons rfl (.cons rfl (.cons rfl (.cons rfl (.cons rfl .nil))))))))
  refine Ends.condT hA rfl ?_
  refine Ends.seq ?_
  refine Ends.region ?_
  refine S.val hA (R.move rfl) rfl ?_; clear hA a; intro a hA
  refine S.val hA (R.fieldAddr (q := 1) fi87_1 rfl rfl rfl) rfl ?_; clear hA a; intro a hA
  refine S.val hA (R.load sz3 rfl (hM.cell (k := 0) rfl rfl)) rfl ?_; clear hA a; intro a hA
  refine S.call hA (R.callF Try.func45 rfl rfl rfl) rfl (get_low b c l s o hbc i h0 _ (hM.mem (k := 1) rfl)) ?_; clear hA a
  rintro e w2 ⟨rfl, rfl⟩
  refine ⟨.tuple #[.int .i64 0, .int .i64 11], rfl, fun a hA => ?_⟩
  refine S.val hA (R.move rfl) rfl ?_; clear hA a; intro a hA
  refine S.val hA (R.extract (v := .int .i64 0) rfl rfl) rfl ?_; clear hA a; intro a hA
  refine S.val hA (R.extract (v := .int .i64 11) rfl rfl) rfl ?_; clear hA a; intro a hA
  refine S.val hA (R.assign rfl) rfl ?_; clear hA a; intro a hA
  refine S.val hA (R.assign rfl) rfl ?_; clear hA a; intro a hA
  refine S.done ?_
  replace hA : St 61 [(0, _), (4, _), (6, _), (7, _), (8, _), (9, _), (10, _)] a := hA.sub ((.cons rfl (.cons rfl (.cons rfl (.cons rfl (.cons rfl (.cons rfl (.cons rfl .nil))))))))
  refine Ends.seq ?_
  refine Ends.region ?_
  refine S.val hA (R.move rfl) rfl ?_; clear hA a; intro a hA
  refine S.val hA (R.move rfl) rfl ?_; clear hA a; intro a hA
  refine S.val hA (R.assign rfl) rfl ?_; clear hA a; intro a hA
  refine S.val hA (R.assign rfl) rfl ?_; clear hA a; intro a hA
  refine S.val hA (R.assign rfl) rfl ?_; clear hA a; intro a hA
  refine S.done ?_
  replace hA : St 61 [(0, _), (4, _), (6, _), (7, _), (8, _)] a := hA.sub ((.cons rfl (.cons rfl (.cons rfl (.cons rfl (.cons rfl .nil))))))
  refine Ends.ret3 Try.func55 Try.results55 hA rfl rfl rfl ?_
  exact ⟨rfl, hM.only (k := 1) rfl⟩
set_option maxRecDepth 100000 in
set_option maxHeartbeats 400000 in
theorem do1_high (b c : Nat) (l : List Int) (s : Int) (o : CellOp) (hbc : b ≠ c) (x i p q : Int) (h0 : 0 ≤ i) (h1 : l.length ≤ i) (w : World) (hm : (memO b c l s o).holds w) :
    Calls Try.prog 55 #[.pointer (some ⟨b, 0, none⟩), .agg #[.int .i64 x, .int .i64 i, .int .i64 p, .int .i64 q], .int .i64 1] w fun e w' => e = .returned (.tuple #[.int .i64 0, .bool false, .int .i64 11]) ∧ Mem w (two b c) [memO b c l (s) o] w' := by
  have hM : Mem w (two b c) [memO b c l s o] w := (memO.open hm hbc).join
  refine Calls.of_ends (vs := [.pointer (some ⟨b, 0, none⟩), .agg #[.int .i64 x, .int .i64 i, .int .i64 p, .int .i64 q], .int .i64 1]) Try.func55 rfl Try.ntmps55 rfl ?_
  intro a hA
  replace hA : St 61 [(0, _), (1, _), (2, _)] a := hA
  refine Ends.seq ?_
  refine Ends.region ?_
  refine S.box hA hM rfl rfl ?_; clear hA hM a; intro b1 w1 hb2 hM a hA
  replace hM : Mem _ _ [pt b1 #[.int .i64 x, .int .i64 i, .int .i64 p, .int .i64 q] 87, memO b c l s o] _ := hM
  refine S.val hA (R.assign rfl) rfl ?_; clear hA a; intro a hA
  refine S.val hA (R.assign rfl) rfl ?_; clear hA a; intro a hA
  refine S.val hA (R.assign rfl) rfl ?_; clear hA a; intro a hA
  refine S.done ?_
  replace hA : St 61 [(0, _), (2, _), (4, _), (6, _), (7, _), (8, _)] a := hA.sub ((.cons rfl (.cons rfl (.cons rfl (.cons rfl (.cons rfl (.cons rfl .nil)))))))
  refine Ends.seq ?_
  refine Ends.seq ?_
  refine Ends.region ?_
  refine S.val hA (R.move rfl) rfl ?_; clear hA a; intro a hA
  refine S.done ?_
  replace hA : St 61 [(0, _), (4, _), (6, _), (7, _), (8, _), (15, _)] a := hA.sub ((.cons rfl (.cons rfl (.cons rfl (.cons rfl (.cons rfl (.cons rfl .nil)))))))
  refine Ends.block ?_
  refine Ends.seq ?_
  refine Ends.region ?_
  refine S.val hA (R.tt (R.eql rfl rfl) (by first | decide | simp | omega)) rfl ?_; clear hA a; intro a hA
  refine S.val hA (R.assign rfl) rfl ?_; clear hA a; intro a hA
  refine S.done ?_
  replace hA : St 61 [(0, _), (4, _), (6, _), (7, _), (8, _), (15, _), (16, _)] a := hA.sub ((.cons rfl (.cons rfl (.cons rfl (.cons rfl (.cons rfl (.cons rfl (.cons rfl .nil))))))))
  refine Ends.condT hA rfl ?_
  refine Ends.seq ?_
  refine Ends.region ?_
  refine S.val hA (R.move rfl) rfl ?_; clear hA a; intro a hA
  refine S.val hA (R.fieldAddr (q := 1) fi87_1 rfl rfl rfl) rfl ?_; clear hA a; intro a hA
  refine S.val hA (R.load sz3 rfl (hM.cell (k := 0) rfl rfl)) rfl ?_; clear hA a; intro a hA
  refine S.call hA (R.callF Try.func45 rfl rfl rfl) rfl (get_high b c l s o hbc i h0 h1 _ (hM.mem (k := 1) rfl)) ?_; clear hA a
  rintro e w2 ⟨rfl, rfl⟩
  refine ⟨.tuple #[.int .i64 0, .int .i64 11], rfl, fun a hA => ?_⟩
  refine S.val hA (R.move rfl) rfl ?_; clear hA a; intro a hA
  refine S.val hA (R.extract (v := .int .i64 0) rfl rfl) rfl ?_; clear hA a; intro a hA
  refine S.val hA (R.extract (v := .int .i64 11) rfl rfl) rfl ?_; clear hA a; intro a hA
  refine S.val hA (R.assign rfl) rfl ?_; clear hA a; intro a hA
  refine S.val hA (R.assign rfl) rfl ?_; clear hA a; intro a hA
  refine S.done ?_
  replace hA : St 61 [(0, _), (4, _), (6, _), (7, _), (8, _), (9, _), (10, _)] a := hA.sub ((.cons rfl (.cons rfl (.cons rfl (.cons rfl (.cons rfl (.cons rfl (.cons rfl .nil))))))))
  refine Ends.seq ?_
  refine Ends.region ?_
  refine S.val hA (R.move rfl) rfl ?_; clear hA a; intro a hA
  refine S.val hA (R.move rfl) rfl ?_; clear hA a; intro a hA
  refine S.val hA (R.assign rfl) rfl ?_; clear hA a; intro a hA
  refine S.val hA (R.assign rfl) rfl ?_; clear hA a; intro a hA
  refine S.val hA (R.assign rfl) rfl ?_; clear hA a; intro a hA
  refine S.done ?_
  replace hA : St 61 [(0, _), (4, _), (6, _), (7, _), (8, _)] a := hA.sub ((.cons rfl (.cons rfl (.cons rfl (.cons rfl (.cons rfl .nil))))))
  refine Ends.ret3 Try.func55 Try.results55 hA rfl rfl rfl ?_
  exact ⟨rfl, hM.only (k := 1) rfl⟩
set_option maxRecDepth 100000 in
set_option maxHeartbeats 400000 in
theorem do2_low (b c : Nat) (l : List Int) (s : Int) (o : CellOp) (hbc : b ≠ c) (x i p q : Int) (h0 : i < 0) (w : World) (hm : (memO b c l s o).holds w) :
    Calls Try.prog 55 #[.pointer (some ⟨b, 0, none⟩), .agg #[.int .i64 x, .int .i64 i, .int .i64 p, .int .i64 q], .int .i64 2] w fun e w' => e = .returned (.tuple #[.int .i64 0, .bool false, .int .i64 11]) ∧ Mem w (two b c) [memO b c l (s) o] w' := by
  have hM : Mem w (two b c) [memO b c l s o] w := (memO.open hm hbc).join
  refine Calls.of_ends (vs := [.pointer (some ⟨b, 0, none⟩), .agg #[.int .i64 x, .int .i64 i, .int .i64 p, .int .i64 q], .int .i64 2]) Try.func55 rfl Try.ntmps55 rfl ?_
  intro a hA
  replace hA : St 61 [(0, _), (1, _), (2, _)] a := hA
  refine Ends.seq ?_
  refine Ends.region ?_
  refine S.box hA hM rfl rfl ?_; clear hA hM a; intro b1 w1 hb2 hM a hA
  replace hM : Mem _ _ [pt b1 #[.int .i64 x, .int .i64 i, .int .i64 p, .int .i64 q] 87, memO b c l s o] _ := hM
  refine S.val hA (R.assign rfl) rfl ?_; clear hA a; intro a hA
  refine S.val hA (R.assign rfl) rfl ?_; clear hA a; intro a hA
  refine S.val hA (R.assign rfl) rfl ?_; clear hA a; intro a hA
  refine S.done ?_
  replace hA : St 61 [(0, _), (2, _), (4, _), (6, _), (7, _), (8, _)] a := hA.sub ((.cons rfl (.cons rfl (.cons rfl (.cons rfl (.cons rfl (.cons rfl .nil)))))))
  refine Ends.seq ?_
  refine Ends.seq ?_
  refine Ends.region ?_
  refine S.val hA (R.move rfl) rfl ?_; clear hA a; intro a hA
  refine S.done ?_
  replace hA : St 61 [(0, _), (4, _), (6, _), (7, _), (8, _), (15, _)] a := hA.sub ((.cons rfl (.cons rfl (.cons rfl (.cons rfl (.cons rfl (.cons rfl .nil)))))))
  refine Ends.block ?_
  refine Ends.seq ?_
  refine Ends.region ?_
  refine S.val hA (R.ff (R.eql rfl rfl) (by first | decide | simp | omega)) rfl ?_; clear hA a; intro a hA
  refine S.val hA (R.assign rfl) rfl ?_; clear hA a; intro a hA
  refine S.done ?_
  replace hA : St 61 [(0, _), (4, _), (6, _), (7, _), (8, _), (15, _), (16, _)] a := hA.sub ((.cons rfl (.cons rfl (.cons rfl (.cons rfl (.cons rfl (.cons rfl (.cons rfl .nil))))))))
  refine Ends.condF hA rfl ?_
  refine Ends.seq ?_
  refine Ends.region ?_
  refine S.val hA (R.tt (R.eql rfl rfl) (by first | decide | simp | omega)) rfl ?_; clear hA a; intro a hA
  refine S.val hA (R.assign rfl) rfl ?_; clear hA a; intro a hA
  refine S.done ?_
  replace hA : St 61 [(0, _), (4, _), (6, _), (7, _), (8, _), (15, _), (27, _)] a := hA.sub ((.cons rfl (.cons rfl (.cons rfl (.cons rfl (.cons rfl (.cons rfl (.cons rfl .nil))))))))
  refine Ends.condT hA rfl ?_
  refine Ends.seq ?_
  refine Ends.region ?_
  refine S.val hA (R.move rfl) rfl ?_; clear hA a; intro a hA
  refine S.val hA (R.fieldAddr (q := 1) fi87_1 rfl rfl rfl) rfl ?_; clear hA a; intro a hA
  refine S.val hA (R.load sz3 rfl (hM.cell (k := 0) rfl rfl)) rfl ?_; clear hA a; intro a hA
  refine S.val hA (R.fieldAddr (q := 2) fi87_2 rfl rfl rfl) rfl ?_; clear hA a; intro a hA
  refine S.val hA (R.load sz3 rfl (hM.cell (k := 0) rfl rfl)) rfl ?_; clear hA a; intro a hA
  refine S.call hA (R.callF Try.func52 rfl rfl rfl) rfl (set_low b c l s o hbc i p h0 _ (hM.mem (k := 1) rfl)) ?_; clear hA a
  rintro e w2 ⟨rfl, rfl⟩
  refine ⟨.int .i64 11, rfl, fun a hA => ?_⟩
  refine S.val hA (R.assign rfl) rfl ?_; clear hA a; intro a hA
  refine S.val hA (R.assign rfl) rfl ?_; clear hA a; intro a hA
  refine S.val hA (R.assign rfl) rfl ?_; clear hA a; intro a hA
  refine S.done ?_
  replace hA : St 61 [(0, _), (4, _), (6, _), (7, _), (8, _)] a := hA.sub ((.cons rfl (.cons rfl (.cons rfl (.cons rfl (.cons rfl .nil))))))
  refine Ends.ret3 Try.func55 Try.results55 hA rfl rfl rfl ?_
  exact ⟨rfl, hM.only (k := 1) rfl⟩
set_option maxRecDepth 100000 in
set_option maxHeartbeats 400000 in
theorem do2_high (b c : Nat) (l : List Int) (s : Int) (o : CellOp) (hbc : b ≠ c) (x i p q : Int) (h0 : 0 ≤ i) (h1 : l.length ≤ i) (w : World) (hm : (memO b c l s o).holds w) :
    Calls Try.prog 55 #[.pointer (some ⟨b, 0, none⟩), .agg #[.int .i64 x, .int .i64 i, .int .i64 p, .int .i64 q], .int .i64 2] w fun e w' => e = .returned (.tuple #[.int .i64 0, .bool false, .int .i64 11]) ∧ Mem w (two b c) [memO b c l (s) o] w' := by
  have hM : Mem w (two b c) [memO b c l s o] w := (memO.open hm hbc).join
  refine Calls.of_ends (vs := [.pointer (some ⟨b, 0, none⟩), .agg #[.int .i64 x, .int .i64 i, .int .i64 p, .int .i64 q], .int .i64 2]) Try.func55 rfl Try.ntmps55 rfl ?_
  intro a hA
  replace hA : St 61 [(0, _), (1, _), (2, _)] a := hA
  refine Ends.seq ?_
  refine Ends.region ?_
  refine S.box hA hM rfl rfl ?_; clear hA hM a; intro b1 w1 hb2 hM a hA
  replace hM : Mem _ _ [pt b1 #[.int .i64 x, .int .i64 i, .int .i64 p, .int .i64 q] 87, memO b c l s o] _ := hM
  refine S.val hA (R.assign rfl) rfl ?_; clear hA a; intro a hA
  refine S.val hA (R.assign rfl) rfl ?_; clear hA a; intro a hA
  refine S.val hA (R.assign rfl) rfl ?_; clear hA a; intro a hA
  refine S.done ?_
  replace hA : St 61 [(0, _), (2, _), (4, _), (6, _), (7, _), (8, _)] a := hA.sub ((.cons rfl (.cons rfl (.cons rfl (.cons rfl (.cons rfl (.cons rfl .nil)))))))
  refine Ends.seq ?_
  refine Ends.seq ?_
  refine Ends.region ?_
  refine S.val hA (R.move rfl) rfl ?_; clear hA a; intro a hA
  refine S.done ?_
  replace hA : St 61 [(0, _), (4, _), (6, _), (7, _), (8, _), (15, _)] a := hA.sub ((.cons rfl (.cons rfl (.cons rfl (.cons rfl (.cons rfl (.cons rfl .nil)))))))
  refine Ends.block ?_
  refine Ends.seq ?_
  refine Ends.region ?_
  refine S.val hA (R.ff (R.eql rfl rfl) (by first | decide | simp | omega)) rfl ?_; clear hA a; intro a hA
  refine S.val hA (R.assign rfl) rfl ?_; clear hA a; intro a hA
  refine S.done ?_
  replace hA : St 61 [(0, _), (4, _), (6, _), (7, _), (8, _), (15, _), (16, _)] a := hA.sub ((.cons rfl (.cons rfl (.cons rfl (.cons rfl (.cons rfl (.cons rfl (.cons rfl .nil))))))))
  refine Ends.condF hA rfl ?_
  refine Ends.seq ?_
  refine Ends.region ?_
  refine S.val hA (R.tt (R.eql rfl rfl) (by first | decide | simp | omega)) rfl ?_; clear hA a; intro a hA
  refine S.val hA (R.assign rfl) rfl ?_; clear hA a; intro a hA
  refine S.done ?_
  replace hA : St 61 [(0, _), (4, _), (6, _), (7, _), (8, _), (15, _), (27, _)] a := hA.sub ((.cons rfl (.cons rfl (.cons rfl (.cons rfl (.cons rfl (.cons rfl (.cons rfl .nil))))))))
  refine Ends.condT hA rfl ?_
  refine Ends.seq ?_
  refine Ends.region ?_
  refine S.val hA (R.move rfl) rfl ?_; clear hA a; intro a hA
  refine S.val hA (R.fieldAddr (q := 1) fi87_1 rfl rfl rfl) rfl ?_; clear hA a; intro a hA
  refine S.val hA (R.load sz3 rfl (hM.cell (k := 0) rfl rfl)) rfl ?_; clear hA a; intro a hA
  refine S.val hA (R.fieldAddr (q := 2) fi87_2 rfl rfl rfl) rfl ?_; clear hA a; intro a hA
  refine S.val hA (R.load sz3 rfl (hM.cell (k := 0) rfl rfl)) rfl ?_; clear hA a; intro a hA
  refine S.call hA (R.callF Try.func52 rfl rfl rfl) rfl (set_high b c l s o hbc i p h0 h1 _ (hM.mem (k := 1) rfl)) ?_; clear hA a
  rintro e w2 ⟨rfl, rfl⟩
  refine ⟨.int .i64 11, rfl, fun a hA => ?_⟩
  refine S.val hA (R.assign rfl) rfl ?_; clear hA a; intro a hA
  refine S.val hA (R.assign rfl) rfl ?_; clear hA a; intro a hA
  refine S.val hA (R.assign rfl) rfl ?_; clear hA a; intro a hA
  refine S.done ?_
  replace hA : St 61 [(0, _), (4, _), (6, _), (7, _), (8, _)] a := hA.sub ((.cons rfl (.cons rfl (.cons rfl (.cons rfl (.cons rfl .nil))))))
  refine Ends.ret3 Try.func55 Try.results55 hA rfl rfl rfl ?_
  exact ⟨rfl, hM.only (k := 1) rfl⟩
set_option maxRecDepth 100000 in
set_option maxHeartbeats 400000 in
theorem do3_low (b c : Nat) (l : List Int) (s : Int) (o : CellOp) (hbc : b ≠ c) (x i p q : Int) (h0 : i < 0) (w : World) (hm : (memO b c l s o).holds w) :
    Calls Try.prog 55 #[.pointer (some ⟨b, 0, none⟩), .agg #[.int .i64 x, .int .i64 i, .int .i64 p, .int .i64 q], .int .i64 3] w fun e w' => e = .returned (.tuple #[.int .i64 0, .bool false, .int .i64 11]) ∧ Mem w (two b c) [memO b c l (s) o] w' := by
  have hM : Mem w (two b c) [memO b c l s o] w := (memO.open hm hbc).join
  refine Calls.of_ends (vs := [.pointer (some ⟨b, 0, none⟩), .agg #[.int .i64 x, .int .i64 i, .int .i64 p, .int .i64 q], .int .i64 3]) Try.func55 rfl Try.ntmps55 rfl ?_
  intro a hA
  replace hA : St 61 [(0, _), (1, _), (2, _)] a := hA
  refine Ends.seq ?_
  refine Ends.region ?_
  refine S.box hA hM rfl rfl ?_; clear hA hM a; intro b1 w1 hb2 hM a hA
  replace hM : Mem _ _ [pt b1 #[.int .i64 x, .int .i64 i, .int .i64 p, .int .i64 q] 87, memO b c l s o] _ := hM
  refine S.val hA (R.assign rfl) rfl ?_; clear hA a; intro a hA
  refine S.val hA (R.assign rfl) rfl ?_; clear hA a; intro a hA
  refine S.val hA (R.assign rfl) rfl ?_; clear hA a; intro a hA
  refine S.done ?_
  replace hA : St 61 [(0, _), (2, _), (4, _), (6, _), (7, _), (8, _)] a := hA.sub ((.cons rfl (.cons rfl (.cons rfl (.cons rfl (.cons rfl (.cons rfl .nil)))))))
  refine Ends.seq ?_
  refine Ends.seq ?_
  refine Ends.region ?_
  refine S.val hA (R.move rfl) rfl ?_; clear hA a; intro a hA
  refine S.done ?_
  replace hA : St 61 [(0, _), (4, _), (6, _), (7, _), (8, _), (15, _)] a := hA.sub ((.cons rfl (.cons rfl (.cons rfl (.cons rfl (.cons rfl (.cons rfl .nil)))))))
  refine Ends.block ?_
  refine Ends.seq ?_
  refine Ends.region ?_
  refine S.val hA (R.ff (R.eql rfl rfl) (by first | decide | simp | omega)) rfl ?_; clear hA a; intro a hA
  refine S.val hA (R.assign rfl) rfl ?_; clear hA a; intro a hA
  refine S.done ?_
  replace hA : St 61 [(0, _), (4, _), (6, _), (7, _), (8, _), (15, _), (16, _)] a := hA.sub ((.cons rfl (.cons rfl (.cons rfl (.cons rfl (.cons rfl (.cons rfl (.cons rfl .nil))))))))
  refine Ends.condF hA rfl ?_
  refine Ends.seq ?_
  refine Ends.region ?_
  refine S.val hA (R.ff (R.eql rfl rfl) (by first | decide | simp | omega)) rfl ?_; clear hA a; intro a hA
  refine S.val hA (R.assign rfl) rfl ?_; clear hA a; intro a hA
  refine S.done ?_
  replace hA : St 61 [(0, _), (4, _), (6, _), (7, _), (8, _), (15, _), (27, _)] a := hA.sub ((.cons rfl (.cons rfl (.cons rfl (.cons rfl (.cons rfl (.cons rfl (.cons rfl .nil))))))))
  refine Ends.condF hA rfl ?_
  refine Ends.seq ?_
  refine Ends.region ?_
  refine S.val hA (R.tt (R.eql rfl rfl) (by first | decide | simp | omega)) rfl ?_; clear hA a; intro a hA
  refine S.val hA (R.assign rfl) rfl ?_; clear hA a; intro a hA
  refine S.done ?_
  replace hA : St 61 [(0, _), (4, _), (6, _), (7, _), (8, _), (35, _)] a := hA.sub ((.cons rfl (.cons rfl (.cons rfl (.cons rfl (.cons rfl (.cons rfl .nil)))))))
  refine Ends.condT hA rfl ?_
  refine Ends.seq ?_
  refine Ends.region ?_
  refine S.val hA (R.move rfl) rfl ?_; clear hA a; intro a hA
  refine S.val hA (R.fieldAddr (q := 1) fi87_1 rfl rfl rfl) rfl ?_; clear hA a; intro a hA
  refine S.val hA (R.load sz3 rfl (hM.cell (k := 0) rfl rfl)) rfl ?_; clear hA a; intro a hA
  refine S.val hA (R.fieldAddr (q := 2) fi87_2 rfl rfl rfl) rfl ?_; clear hA a; intro a hA
  refine S.val hA (R.load sz3 rfl (hM.cell (k := 0) rfl rfl)) rfl ?_; clear hA a; intro a hA
  refine S.val hA (R.fieldAddr (q := 3) fi87_3 rfl rfl rfl) rfl ?_; clear hA a; intro a hA
  refine S.val hA (R.load sz3 rfl (hM.cell (k := 0) rfl rfl)) rfl ?_; clear hA a; intro a hA
  refine S.call hA (R.callF Try.func50 rfl rfl rfl) rfl (cas_low b c l s o hbc i p q h0 _ (hM.mem (k := 1) rfl)) ?_; clear hA a
  rintro e w2 ⟨rfl, rfl⟩
  refine ⟨.tuple #[.bool false, .int .i64 11], rfl, fun a hA => ?_⟩
  refine S.val hA (R.move rfl) rfl ?_; clear hA a; intro a hA
  refine S.val hA (R.extract (v := .bool false) rfl rfl) rfl ?_; clear hA a; intro a hA
  refine S.val hA (R.extract (v := .int .i64 11) rfl rfl) rfl ?_; clear hA a; intro a hA
  refine S.val hA (R.assign rfl) rfl ?_; clear hA a; intro a hA
  refine S.val hA (R.assign rfl) rfl ?_; clear hA a; intro a hA
  refine S.done ?_
  replace hA : St 61 [(0, _), (4, _), (6, _), (7, _), (8, _), (11, _), (12, _)] a := hA.sub ((.cons rfl (.cons rfl (.cons rfl (.cons rfl (.cons rfl (.cons rfl (.cons rfl .nil))))))))
  refine Ends.seq ?_
  refine Ends.region ?_
  refine S.val hA (R.move rfl) rfl ?_; clear hA a; intro a hA
  refine S.val hA (R.move rfl) rfl ?_; clear hA a; intro a hA
  refine S.val hA (R.assign rfl) rfl ?_; clear hA a; intro a hA
  refine S.val hA (R.assign rfl) rfl ?_; clear hA a; intro a hA
  refine S.val hA (R.assign rfl) rfl ?_; clear hA a; intro a hA
  refine S.done ?_
  replace hA : St 61 [(0, _), (4, _), (6, _), (7, _), (8, _)] a := hA.sub ((.cons rfl (.cons rfl (.cons rfl (.cons rfl (.cons rfl .nil))))))
  refine Ends.ret3 Try.func55 Try.results55 hA rfl rfl rfl ?_
  exact ⟨rfl, hM.only (k := 1) rfl⟩
set_option maxRecDepth 100000 in
set_option maxHeartbeats 400000 in
theorem do3_high (b c : Nat) (l : List Int) (s : Int) (o : CellOp) (hbc : b ≠ c) (x i p q : Int) (h0 : 0 ≤ i) (h1 : l.length ≤ i) (w : World) (hm : (memO b c l s o).holds w) :
    Calls Try.prog 55 #[.pointer (some ⟨b, 0, none⟩), .agg #[.int .i64 x, .int .i64 i, .int .i64 p, .int .i64 q], .int .i64 3] w fun e w' => e = .returned (.tuple #[.int .i64 0, .bool false, .int .i64 11]) ∧ Mem w (two b c) [memO b c l (s) o] w' := by
  have hM : Mem w (two b c) [memO b c l s o] w := (memO.open hm hbc).join
  refine Calls.of_ends (vs := [.pointer (some ⟨b, 0, none⟩), .agg #[.int .i64 x, .int .i64 i, .int .i64 p, .int .i64 q], .int .i64 3]) Try.func55 rfl Try.ntmps55 rfl ?_
  intro a hA
  replace hA : St 61 [(0, _), (1, _), (2, _)] a := hA
  refine Ends.seq ?_
  refine Ends.region ?_
  refine S.box hA hM rfl rfl ?_; clear hA hM a; intro b1 w1 hb2 hM a hA
  replace hM : Mem _ _ [pt b1 #[.int .i64 x, .int .i64 i, .int .i64 p, .int .i64 q] 87, memO b c l s o] _ := hM
  refine S.val hA (R.assign rfl) rfl ?_; clear hA a; intro a hA
  refine S.val hA (R.assign rfl) rfl ?_; clear hA a; intro a hA
  refine S.val hA (R.assign rfl) rfl ?_; clear hA a; intro a hA
  refine S.done ?_
  replace hA : St 61 [(0, _), (2, _), (4, _), (6, _), (7, _), (8, _)] a := hA.sub ((.cons rfl (.cons rfl (.cons rfl (.cons rfl (.cons rfl (.cons rfl .nil)))))))
  refine Ends.seq ?_
  refine Ends.seq ?_
  refine Ends.region ?_
  refine S.val hA (R.move rfl) rfl ?_; clear hA a; intro a hA
  refine S.done ?_
  replace hA : St 61 [(0, _), (4, _), (6, _), (7, _), (8, _), (15, _)] a := hA.sub ((.cons rfl (.cons rfl (.cons rfl (.cons rfl (.cons rfl (.cons rfl .nil)))))))
  refine Ends.block ?_
  refine Ends.seq ?_
  refine Ends.region ?_
  refine S.val hA (R.ff (R.eql rfl rfl) (by first | decide | simp | omega)) rfl ?_; clear hA a; intro a hA
  refine S.val hA (R.assign rfl) rfl ?_; clear hA a; intro a hA
  refine S.done ?_
  replace hA : St 61 [(0, _), (4, _), (6, _), (7, _), (8, _), (15, _), (16, _)] a := hA.sub ((.cons rfl (.cons rfl (.cons rfl (.cons rfl (.cons rfl (.cons rfl (.cons rfl .nil))))))))
  refine Ends.condF hA rfl ?_
  refine Ends.seq ?_
  refine Ends.region ?_
  refine S.val hA (R.ff (R.eql rfl rfl) (by first | decide | simp | omega)) rfl ?_; clear hA a; intro a hA
  refine S.val hA (R.assign rfl) rfl ?_; clear hA a; intro a hA
  refine S.done ?_
  replace hA : St 61 [(0, _), (4, _), (6, _), (7, _), (8, _), (15, _), (27, _)] a := hA.sub ((.cons rfl (.cons rfl (.cons rfl (.cons rfl (.cons rfl (.cons rfl (.cons rfl .nil))))))))
  refine Ends.condF hA rfl ?_
  refine Ends.seq ?_
  refine Ends.region ?_
  refine S.val hA (R.tt (R.eql rfl rfl) (by first | decide | simp | omega)) rfl ?_; clear hA a; intro a hA
  refine S.val hA (R.assign rfl) rfl ?_; clear hA a; intro a hA
  refine S.done ?_
  replace hA : St 61 [(0, _), (4, _), (6, _), (7, _), (8, _), (35, _)] a := hA.sub ((.cons rfl (.cons rfl (.cons rfl (.cons rfl (.cons rfl (.cons rfl .nil)))))))
  refine Ends.condT hA rfl ?_
  refine Ends.seq ?_
  refine Ends.region ?_
  refine S.val hA (R.move rfl) rfl ?_; clear hA a; intro a hA
  refine S.val hA (R.fieldAddr (q := 1) fi87_1 rfl rfl rfl) rfl ?_; clear hA a; intro a hA
  refine S.val hA (R.load sz3 rfl (hM.cell (k := 0) rfl rfl)) rfl ?_; clear hA a; intro a hA
  refine S.val hA (R.fieldAddr (q := 2) fi87_2 rfl rfl rfl) rfl ?_; clear hA a; intro a hA
  refine S.val hA (R.load sz3 rfl (hM.cell (k := 0) rfl rfl)) rfl ?_; clear hA a; intro a hA
  refine S.val hA (R.fieldAddr (q := 3) fi87_3 rfl rfl rfl) rfl ?_; clear hA a; intro a hA
  refine S.val hA (R.load sz3 rfl (hM.cell (k := 0) rfl rfl)) rfl ?_; clear hA a; intro a hA
  refine S.call hA (R.callF Try.func50 rfl rfl rfl) rfl (cas_high b c l s o hbc i p q h0 h1 _ (hM.mem (k := 1) rfl)) ?_; clear hA a
  rintro e w2 ⟨rfl, rfl⟩
  refine ⟨.tuple #[.bool false, .int .i64 11], rfl, fun a hA => ?_⟩
  refine S.val hA (R.move rfl) rfl ?_; clear hA a; intro a hA
  refine S.val hA (R.extract (v := .bool false) rfl rfl) rfl ?_; clear hA a; intro a hA
  refine S.val hA (R.extract (v := .int .i64 11) rfl rfl) rfl ?_; clear hA a; intro a hA
  refine S.val hA (R.assign rfl) rfl ?_; clear hA a; intro a hA
  refine S.val hA (R.assign rfl) rfl ?_; clear hA a; intro a hA
  refine S.done ?_
  replace hA : St 61 [(0, _), (4, _), (6, _), (7, _), (8, _), (11, _), (12, _)] a := hA.sub ((.cons rfl (.cons rfl (.cons rfl (.cons rfl (.cons rfl (.cons rfl (.cons rfl .nil))))))))
  refine Ends.seq ?_
  refine Ends.region ?_
  refine S.val hA (R.move rfl) rfl ?_; clear hA a; intro a hA
  refine S.val hA (R.move rfl) rfl ?_; clear hA a; intro a hA
  refine S.val hA (R.assign rfl) rfl ?_; clear hA a; intro a hA
  refine S.val hA (R.assign rfl) rfl ?_; clear hA a; intro a hA
  refine S.val hA (R.assign rfl) rfl ?_; clear hA a; intro a hA
  refine S.done ?_
  replace hA : St 61 [(0, _), (4, _), (6, _), (7, _), (8, _)] a := hA.sub ((.cons rfl (.cons rfl (.cons rfl (.cons rfl (.cons rfl .nil))))))
  refine Ends.ret3 Try.func55 Try.results55 hA rfl rfl rfl ?_
  exact ⟨rfl, hM.only (k := 1) rfl⟩
set_option maxRecDepth 100000 in
set_option maxHeartbeats 400000 in
theorem do4_low (b c : Nat) (l : List Int) (s : Int) (o : CellOp) (hbc : b ≠ c) (x i p q : Int) (h0 : i < 0) (w : World) (hm : (memO b c l s o).holds w) :
    Calls Try.prog 55 #[.pointer (some ⟨b, 0, none⟩), .agg #[.int .i64 x, .int .i64 i, .int .i64 p, .int .i64 q], .int .i64 4] w fun e w' => e = .returned (.tuple #[.int .i64 0, .bool false, .int .i64 11]) ∧ Mem w (two b c) [memO b c l (s) o] w' := by
  have hM : Mem w (two b c) [memO b c l s o] w := (memO.open hm hbc).join
  refine Calls.of_ends (vs := [.pointer (some ⟨b, 0, none⟩), .agg #[.int .i64 x, .int .i64 i, .int .i64 p, .int .i64 q], .int .i64 4]) Try.func55 rfl Try.ntmps55 rfl ?_
  intro a hA
  replace hA : St 61 [(0, _), (1, _), (2, _)] a := hA
  refine Ends.seq ?_
  refine Ends.region ?_
  refine S.box hA hM rfl rfl ?_; clear hA hM a; intro b1 w1 hb2 hM a hA
  replace hM : Mem _ _ [pt b1 #[.int .i64 x, .int .i64 i, .int .i64 p, .int .i64 q] 87, memO b c l s o] _ := hM
  refine S.val hA (R.assign rfl) rfl ?_; clear hA a; intro a hA
  refine S.val hA (R.assign rfl) rfl ?_; clear hA a; intro a hA
  refine S.val hA (R.assign rfl) rfl ?_; clear hA a; intro a hA
  refine S.done ?_
  replace hA : St 61 [(0, _), (2, _), (4, _), (6, _), (7, _), (8, _)] a := hA.sub ((.cons rfl (.cons rfl (.cons rfl (.cons rfl (.cons rfl (.cons rfl .nil)))))))
  refine Ends.seq ?_
  refine Ends.seq ?_
  refine Ends.region ?_
  refine S.val hA (R.move rfl) rfl ?_; clear hA a; intro a hA
  refine S.done ?_
  replace hA : St 61 [(0, _), (4, _), (6, _), (7, _), (8, _), (15, _)] a := hA.sub ((.cons rfl (.cons rfl (.cons rfl (.cons rfl (.cons rfl (.cons rfl .nil)))))))
  refine Ends.block ?_
  refine Ends.seq ?_
  refine Ends.region ?_
  refine S.val hA (R.ff (R.eql rfl rfl) (by first | decide | simp | omega)) rfl ?_; clear hA a; intro a hA
  refine S.val hA (R.assign rfl) rfl ?_; clear hA a; intro a hA
  refine S.done ?_
  replace hA : St 61 [(0, _), (4, _), (6, _), (7, _), (8, _), (15, _), (16, _)] a := hA.sub ((.cons rfl (.cons rfl (.cons rfl (.cons rfl (.cons rfl (.cons rfl (.cons rfl .nil))))))))
  refine Ends.condF hA rfl ?_
  refine Ends.seq ?_
  refine Ends.region ?_
  refine S.val hA (R.ff (R.eql rfl rfl) (by first | decide | simp | omega)) rfl ?_; clear hA a; intro a hA
  refine S.val hA (R.assign rfl) rfl ?_; clear hA a; intro a hA
  refine S.done ?_
  replace hA : St 61 [(0, _), (4, _), (6, _), (7, _), (8, _), (15, _), (27, _)] a := hA.sub ((.cons rfl (.cons rfl (.cons rfl (.cons rfl (.cons rfl (.cons rfl (.cons rfl .nil))))))))
  refine Ends.condF hA rfl ?_
  refine Ends.seq ?_
  refine Ends.region ?_
  refine S.val hA (R.ff (R.eql rfl rfl) (by first | decide | simp | omega)) rfl ?_; clear hA a; intro a hA
  refine S.val hA (R.assign rfl) rfl ?_; clear hA a; intro a hA
  refine S.done ?_
  replace hA : St 61 [(0, _), (4, _), (6, _), (7, _), (8, _), (35, _)] a := hA.sub ((.cons rfl (.cons rfl (.cons rfl (.cons rfl (.cons rfl (.cons rfl .nil)))))))
  refine Ends.condF hA rfl ?_
  refine Ends.skip ?_
  refine Ends.inBlock ?_
  refine Ends.seq ?_
  refine Ends.region ?_
  refine S.val hA (R.move rfl) rfl ?_; clear hA a; intro a hA
  refine S.val hA (R.fieldAddr (q := 1) fi87_1 rfl rfl rfl) rfl ?_; clear hA a; intro a hA
  refine S.val hA (R.load sz3 rfl (hM.cell (k := 0) rfl rfl)) rfl ?_; clear hA a; intro a hA
  refine S.val hA (R.fieldAddr (q := 2) fi87_2 rfl rfl rfl) rfl ?_; clear hA a; intro a hA
  refine S.val hA (R.load sz3 rfl (hM.cell (k := 0) rfl rfl)) rfl ?_; clear hA a; intro a hA
  refine S.call hA (R.callF Try.func51 rfl rfl rfl) rfl (bump_low b c l s o hbc i p h0 _ (hM.mem (k := 1) rfl)) ?_; clear hA a
  rintro e w2 ⟨rfl, rfl⟩
  refine ⟨.tuple #[.int .i64 0, .int .i64 11], rfl, fun a hA => ?_⟩
  refine S.val hA (R.move rfl) rfl ?_; clear hA a; intro a hA
  refine S.val hA (R.extract (v := .int .i64 0) rfl rfl) rfl ?_; clear hA a; intro a hA
  refine S.val hA (R.extract (v := .int .i64 11) rfl rfl) rfl ?_; clear hA a; intro a hA
  refine S.val hA (R.assign rfl) rfl ?_; clear hA a; intro a hA
  refine S.val hA (R.assign rfl) rfl ?_; clear hA a; intro a hA
  refine S.done ?_
  replace hA : St 61 [(6, _), (7, _), (8, _), (13, _), (14, _)] a := hA.sub ((.cons rfl (.cons rfl (.cons rfl (.cons rfl (.cons rfl .nil))))))
  refine Ends.seq ?_
  refine Ends.region ?_
  refine S.val hA (R.move rfl) rfl ?_; clear hA a; intro a hA
  refine S.val hA (R.move rfl) rfl ?_; clear hA a; intro a hA
  refine S.val hA (R.assign rfl) rfl ?_; clear hA a; intro a hA
  refine S.val hA (R.assign rfl) rfl ?_; clear hA a; intro a hA
  refine S.val hA (R.assign rfl) rfl ?_; clear hA a; intro a hA
  refine S.done ?_
  replace hA : St 61 [(6, _), (7, _), (8, _)] a := hA.sub ((.cons rfl (.cons rfl (.cons rfl .nil))))
  refine Ends.ret3 Try.func55 Try.results55 hA rfl rfl rfl ?_
  exact ⟨rfl, hM.only (k := 1) rfl⟩
set_option maxRecDepth 100000 in
set_option maxHeartbeats 400000 in
theorem do4_high (b c : Nat) (l : List Int) (s : Int) (o : CellOp) (hbc : b ≠ c) (x i p q : Int) (h0 : 0 ≤ i) (h1 : l.length ≤ i) (w : World) (hm : (memO b c l s o).holds w) :
    Calls Try.prog 55 #[.pointer (some ⟨b, 0, none⟩), .agg #[.int .i64 x, .int .i64 i, .int .i64 p, .int .i64 q], .int .i64 4] w fun e w' => e = .returned (.tuple #[.int .i64 0, .bool false, .int .i64 11]) ∧ Mem w (two b c) [memO b c l (s) o] w' := by
  have hM : Mem w (two b c) [memO b c l s o] w := (memO.open hm hbc).join
  refine Calls.of_ends (vs := [.pointer (some ⟨b, 0, none⟩), .agg #[.int .i64 x, .int .i64 i, .int .i64 p, .int .i64 q], .int .i64 4]) Try.func55 rfl Try.ntmps55 rfl ?_
  intro a hA
  replace hA : St 61 [(0, _), (1, _), (2, _)] a := hA
  refine Ends.seq ?_
  refine Ends.region ?_
  refine S.box hA hM rfl rfl ?_; clear hA hM a; intro b1 w1 hb2 hM a hA
  replace hM : Mem _ _ [pt b1 #[.int .i64 x, .int .i64 i, .int .i64 p, .int .i64 q] 87, memO b c l s o] _ := hM
  refine S.val hA (R.assign rfl) rfl ?_; clear hA a; intro a hA
  refine S.val hA (R.assign rfl) rfl ?_; clear hA a; intro a hA
  refine S.val hA (R.assign rfl) rfl ?_; clear hA a; intro a hA
  refine S.done ?_
  replace hA : St 61 [(0, _), (2, _), (4, _), (6, _), (7, _), (8, _)] a := hA.sub ((.cons rfl (.cons rfl (.cons rfl (.cons rfl (.cons rfl (.cons rfl .nil)))))))
  refine Ends.seq ?_
  refine Ends.seq ?_
  refine Ends.region ?_
  refine S.val hA (R.move rfl) rfl ?_; clear hA a; intro a hA
  refine S.done ?_
  replace hA : St 61 [(0, _), (4, _), (6, _), (7, _), (8, _), (15, _)] a := hA.sub ((.cons rfl (.cons rfl (.cons rfl (.cons rfl (.cons rfl (.cons rfl .nil)))))))
  refine Ends.block ?_
  refine Ends.seq ?_
  refine Ends.region ?_
  refine S.val hA (R.ff (R.eql rfl rfl) (by first | decide | simp | omega)) rfl ?_; clear hA a; intro a hA
  refine S.val hA (R.assign rfl) rfl ?_; clear hA a; intro a hA
  refine S.done ?_
  replace hA : St 61 [(0, _), (4, _), (6, _), (7, _), (8, _), (15, _), (16, _)] a := hA.sub ((.cons rfl (.cons rfl (.cons rfl (.cons rfl (.cons rfl (.cons rfl (.cons rfl .nil))))))))
  refine Ends.condF hA rfl ?_
  refine Ends.seq ?_
  refine Ends.region ?_
  refine S.val hA (R.ff (R.eql rfl rfl) (by first | decide | simp | omega)) rfl ?_; clear hA a; intro a hA
  refine S.val hA (R.assign rfl) rfl ?_; clear hA a; intro a hA
  refine S.done ?_
  replace hA : St 61 [(0, _), (4, _), (6, _), (7, _), (8, _), (15, _), (27, _)] a := hA.sub ((.cons rfl (.cons rfl (.cons rfl (.cons rfl (.cons rfl (.cons rfl (.cons rfl .nil))))))))
  refine Ends.condF hA rfl ?_
  refine Ends.seq ?_
  refine Ends.region ?_
  refine S.val hA (R.ff (R.eql rfl rfl) (by first | decide | simp | omega)) rfl ?_; clear hA a; intro a hA
  refine S.val hA (R.assign rfl) rfl ?_; clear hA a; intro a hA
  refine S.done ?_
  replace hA : St 61 [(0, _), (4, _), (6, _), (7, _), (8, _), (35, _)] a := hA.sub ((.cons rfl (.cons rfl (.cons rfl (.cons rfl (.cons rfl (.cons rfl .nil)))))))
  refine Ends.condF hA rfl ?_
  refine Ends.skip ?_
  refine Ends.inBlock ?_
  refine Ends.seq ?_
  refine Ends.region ?_
  refine S.val hA (R.move rfl) rfl ?_; clear hA a; intro a hA
  refine S.val hA (R.fieldAddr (q := 1) fi87_1 rfl rfl rfl) rfl ?_; clear hA a; intro a hA
  refine S.val hA (R.load sz3 rfl (hM.cell (k := 0) rfl rfl)) rfl ?_; clear hA a; intro a hA
  refine S.val hA (R.fieldAddr (q := 2) fi87_2 rfl rfl rfl) rfl ?_; clear hA a; intro a hA
  refine S.val hA (R.load sz3 rfl (hM.cell (k := 0) rfl rfl)) rfl ?_; clear hA a; intro a hA
  refine S.call hA (R.callF Try.func51 rfl rfl rfl) rfl (bump_high b c l s o hbc i p h0 h1 _ (hM.mem (k := 1) rfl)) ?_; clear hA a
  rintro e w2 ⟨rfl, rfl⟩
  refine ⟨.tuple #[.int .i64 0, .int .i64 11], rfl, fun a hA => ?_⟩
  refine S.val hA (R.move rfl) rfl ?_; clear hA a; intro a hA
  refine S.val hA (R.extract (v := .int .i64 0) rfl rfl) rfl ?_; clear hA a; intro a hA
  refine S.val hA (R.extract (v := .int .i64 11) rfl rfl) rfl ?_; clear hA a; intro a hA
  refine S.val hA (R.assign rfl) rfl ?_; clear hA a; intro a hA
  refine S.val hA (R.assign rfl) rfl ?_; clear hA a; intro a hA
  refine S.done ?_
  replace hA : St 61 [(6, _), (7, _), (8, _), (13, _), (14, _)] a := hA.sub ((.cons rfl (.cons rfl (.cons rfl (.cons rfl (.cons rfl .nil))))))
  refine Ends.seq ?_
  refine Ends.region ?_
  refine S.val hA (R.move rfl) rfl ?_; clear hA a; intro a hA
  refine S.val hA (R.move rfl) rfl ?_; clear hA a; intro a hA
  refine S.val hA (R.assign rfl) rfl ?_; clear hA a; intro a hA
  refine S.val hA (R.assign rfl) rfl ?_; clear hA a; intro a hA
  refine S.val hA (R.assign rfl) rfl ?_; clear hA a; intro a hA
  refine S.done ?_
  replace hA : St 61 [(6, _), (7, _), (8, _)] a := hA.sub ((.cons rfl (.cons rfl (.cons rfl .nil))))
  refine Ends.ret3 Try.func55 Try.results55 hA rfl rfl rfl ?_
  exact ⟨rfl, hM.only (k := 1) rfl⟩
set_option maxRecDepth 100000 in
set_option maxHeartbeats 400000 in
theorem rstep_ok (b c : Nat) (l : List Int) (s : Int) (o : CellOp) (hbc : b ≠ c) (k_ i n : Int) (done : Bool) (h0 : 0 ≤ i) (h1 : i < l.length) (hs : 0 ≤ s ∧ s < 9223372036854775807) (w : World) (hm : (refO b c l s o).holds w) :
    Calls Try.prog 77 #[.pointer (some ⟨b, 0, none⟩), .int .i64 k_, .int .i64 i, .int .i64 n, .bool done] w fun e w' => e = .returned (.tuple #[]) ∧ Mem w (two b c) [refO b c (l.set i.toNat n) (s + 1) ⟨k_, i, l.getD i.toNat 0, n, done⟩] w' := by
  have hM := refO.open hm hbc
  replace hM : Mem w (two b c) [pt b #[.slice (some ⟨c, 0, none⟩) l.length l.length, .int .i64 s, .int .i64 o.kind, .int .i64 o.cell, .int .i64 o.old, .int .i64 o.new, .bool o.done] 85, pt c ((ints l)) 3] w := hM
  refine Calls.of_ends (vs := [.pointer (some ⟨b, 0, none⟩), .int .i64 k_, .int .i64 i, .int .i64 n, .bool done]) Try.func77 rfl Try.ntmps77 rfl ?_
  intro a hA
  replace hA : St 39 [(0, _), (1, _), (2, _), (3, _), (4, _)] a := hA
  refine Ends.seq ?_
  refine Ends.region ?_
  refine S.val hA (R.move rfl) rfl ?_; clear hA a; intro a hA
  refine S.val hA (R.move rfl) rfl ?_; clear hA a; intro a hA
  refine S.val hA (R.move rfl) rfl ?_; clear hA a; intro a hA
  refine S.val hA (R.move rfl) rfl ?_; clear hA a; intro a hA
  refine S.val hA (R.nilCheck rfl) rfl ?_; clear hA a; intro a hA
  refine S.val hA (R.fieldAddr (q := 0) fi85_0 rfl rfl rfl) rfl ?_; clear hA a; intro a hA
  refine S.val hA (R.load sz40 rfl (hM.cell (k := 0) rfl rfl)) rfl ?_; clear hA a; intro a hA
  refine S.val hA (R.move rfl) rfl ?_; clear hA a; intro a hA
  refine S.val hA (R.indexAddr (q := i.toNat) sl40 rfl rfl (by omega) (by omega)) rfl ?_; clear hA a; intro a hA
  refine S.val hA (R.load sz3 rfl (hM.cell (k := 1) rfl (ints_getD l _ (by omega)))) rfl ?_; clear hA a; intro a hA
  refine S.val hA (R.move rfl) rfl ?_; clear hA a; intro a hA
  refine S.val hA (R.move rfl) rfl ?_; clear hA a; intro a hA
  refine S.val hA (R.build (cells := #[.int .i64 k_, .int .i64 i, .int .i64 (l.getD i.toNat 0), .int .i64 n, .bool done]) rfl (by kernel_rfl)) rfl ?_; clear hA a; intro a hA
  refine S.val hA (R.nilCheck rfl) rfl ?_; clear hA a; intro a hA
  refine S.val hA (R.fieldAddr (q := 2) fi85_2 rfl rfl rfl) rfl ?_; clear hA a; intro a hA
  refine S.storeA (k := 0) hA hM sz83 rfl rfl rfl rfl rfl rfl ?_; clear hM
  intro w1 hM
  replace hM : Mem _ _ [pt b #[.slice (some ⟨c, 0, none⟩) l.length l.length, .int .i64 s, .int .i64 k_, .int .i64 i, .int .i64 (l.getD i.toNat 0), .int .i64 n, .bool done] 85, pt c ((ints l)) 3] _ := hM
  refine S.done ?_
  replace hA : St 39 [(0, _), (2, _), (3, _)] a := hA.sub ((.cons rfl (.cons rfl (.cons rfl .nil))))
  refine Ends.seq ?_
  refine Ends.region ?_
  refine S.val hA (R.move rfl) rfl ?_; clear hA a; intro a hA
  refine S.val hA (R.nilCheck rfl) rfl ?_; clear hA a; intro a hA
  refine S.val hA (R.fieldAddr (q := 0) fi85_0 rfl rfl rfl) rfl ?_; clear hA a; intro a hA
  refine S.val hA (R.load sz40 rfl (hM.cell (k := 0) rfl rfl)) rfl ?_; clear hA a; intro a hA
  refine S.val hA (R.move rfl) rfl ?_; clear hA a; intro a hA
  refine S.val hA (R.move rfl) rfl ?_; clear hA a; intro a hA
  refine S.val hA (R.indexAddr (q := i.toNat) sl40 rfl rfl (by omega) (by omega)) rfl ?_; clear hA a; intro a hA
  refine S.store (k := 1) hA hM sz3 rfl rfl rfl rfl (ints_getD l _ (by omega)) ?_; clear hM
  intro w2 hM
  rw [ints_set] at hM
  replace hM : Mem _ _ [pt b #[.slice (some ⟨c, 0, none⟩) l.length l.length, .int .i64 s, .int .i64 k_, .int .i64 i, .int .i64 (l.getD i.toNat 0), .int .i64 n, .bool done] 85, pt c ((ints (l.set i.toNat n))) 3] _ := hM
  refine S.done ?_
  replace hA : St 39 [(0, _)] a := hA.sub ((.cons rfl .nil))
  refine Ends.region ?_
  refine S.val hA (R.move rfl) rfl ?_; clear hA a; intro a hA
  refine S.val hA (R.nilCheck rfl) rfl ?_; clear hA a; intro a hA
  refine S.val hA (R.fieldAddr (q := 1) fi85_1 rfl rfl rfl) rfl ?_; clear hA a; intro a hA
  refine S.val hA (R.load sz3 rfl (hM.cell (k := 0) rfl rfl)) rfl ?_; clear hA a; intro a hA
  refine S.val hA (R.addI rfl rfl (r := s + 1) rfl (by omega)) rfl ?_; clear hA a; intro a hA
  refine S.val hA (R.nilCheck rfl) rfl ?_; clear hA a; intro a hA
  refine S.val hA (R.fieldAddr (q := 1) fi85_1 rfl rfl rfl) rfl ?_; clear hA a; intro a hA
  refine S.store (k := 0) hA hM sz3 rfl rfl rfl rfl rfl ?_; clear hM
  intro w3 hM
  replace hM : Mem _ _ [pt b #[.slice (some ⟨c, 0, none⟩) l.length l.length, .int .i64 (s + 1), .int .i64 k_, .int .i64 i, .int .i64 (l.getD i.toNat 0), .int .i64 n, .bool done] 85, pt c ((ints (l.set i.toNat n))) 3] _ := hM
  refine S.done ?_
  replace hA : St 39 [] a := hA.sub (.nil)
  refine Ends.end0 Try.func77 Try.results77 hA ?_
  exact ⟨rfl, hM.toR (by simp)⟩
set_option maxRecDepth 100000 in
set_option maxHeartbeats 400000 in
theorem rdo1_ok (b c : Nat) (l : List Int) (s : Int) (o : CellOp) (hbc : b ≠ c) (i p q : Int) (h0 : 0 ≤ i) (h1 : i < l.length) (hs : 0 ≤ s ∧ s < 9223372036854775807) (w : World) (hm : (refO b c l s o).holds w) :
    Calls Try.prog 56 #[.pointer (some ⟨b, 0, none⟩), .int .i64 1, .int .i64 i, .int .i64 p, .int .i64 q] w fun e w' => e = .returned (.tuple #[.int .i64 (l.getD i.toNat 0), .bool false, .int .i64 0]) ∧ Mem w (two b c) [refO b c (l.set i.toNat (l.getD i.toNat 0)) (s + 1) ⟨1, i, l.getD i.toNat 0, l.getD i.toNat 0, true⟩] w' := by
  have hM := refO.open hm hbc
  replace hM : Mem w (two b c) [pt b #[.slice (some ⟨c, 0, none⟩) l.length l.length, .int .i64 s, .int .i64 o.kind, .int .i64 o.cell, .int .i64 o.old, .int .i64 o.new, .bool o.done] 85, pt c ((ints l)) 3] w := hM
  refine Calls.of_ends (vs := [.pointer (some ⟨b, 0, none⟩), .int .i64 1, .int .i64 i, .int .i64 p, .int .i64 q]) Try.func56 rfl Try.ntmps56 rfl ?_
  intro a hA
  replace hA : St 77 [(0, _), (1, _), (2, _), (3, _), (4, _)] a := hA
  refine Ends.seq ?_
  refine Ends.region ?_
  refine S.val hA (R.assign rfl) rfl ?_; clear hA a; intro a hA
  refine S.val hA (R.assign rfl) rfl ?_; clear hA a; intro a hA
  refine S.val hA (R.assign rfl) rfl ?_; clear hA a; intro a hA
  refine S.done ?_
  replace hA : St 77 [(0, _), (1, _), (2, _), (3, _), (4, _), (10, _), (11, _), (12, _)] a := hA.sub ((.cons rfl (.cons rfl (.cons rfl (.cons rfl (.cons rfl (.cons rfl (.cons rfl (.cons rfl .nil)))))))))
  refine Ends.seq ?_
  refine Ends.seq ?_
  refine Ends.region ?_
  refine S.val hA (R.move rfl) rfl ?_; clear hA a; intro a hA
  refine S.val hA (R.ff (R.lss rfl rfl) (by omega)) rfl ?_; clear hA a; intro a hA
  refine S.val hA (R.move rfl) rfl ?_; clear hA a; intro a hA
  refine S.valg (dj := 18) hA (by kernel_rfl) rfl (R.move rfl) rfl ?_; clear hA a; intro a hA
  refine S.valg (dj := 18) hA (by kernel_rfl) rfl (R.move rfl) rfl ?_; clear hA a; intro a hA
  refine S.valg (dj := 18) hA (by kernel_rfl) rfl (R.nilCheck rfl) rfl ?_; clear hA a; intro a hA
  refine S.valg (dj := 18) hA (by kernel_rfl) rfl (R.fieldAddr (q := 0) fi85_0 rfl rfl rfl) rfl ?_; clear hA a; intro a hA
  refine S.valg (dj := 18) hA (by kernel_rfl) rfl (R.load sz40 rfl (hM.cell (k := 0) rfl rfl)) rfl ?_; clear hA a; intro a hA
  refine S.valg (dj := 18) hA (by kernel_rfl) rfl (R.lenS Try.underlying40 rfl rfl) rfl ?_; clear hA a; intro a hA
  refine S.valg (dj := 18) hA (by kernel_rfl) rfl (R.ff (R.geq rfl rfl) (by omega)) rfl ?_; clear hA a; intro a hA
  refine S.val hA (R.pickF rfl rfl) rfl ?_; clear hA a; intro a hA
  refine S.done ?_
  replace hA : St 77 [(0, _), (1, _), (2, _), (3, _), (4, _), (10, _), (11, _), (12, _), (26, _)] a := hA.sub ((.cons rfl (.cons rfl (.cons rfl (.cons rfl (.cons rfl (.cons rfl (.cons rfl (.cons rfl (.cons rfl .nil))))))))))
  refine Ends.condF hA rfl ?_
  refine Ends.skip ?_
  refine Ends.seq ?_
  refine Ends.region ?_
  refine S.val hA (R.move rfl) rfl ?_; clear hA a; intro a hA
  refine S.val hA (R.nilCheck rfl) rfl ?_; clear hA a; intro a hA
  refine S.val hA (R.fieldAddr (q := 0) fi85_0 rfl rfl rfl) rfl ?_; clear hA a; intro a hA
  refine S.val hA (R.load sz40 rfl (hM.cell (k := 0) rfl rfl)) rfl ?_; clear hA a; intro a hA
  refine S.val hA (R.move rfl) rfl ?_; clear hA a; intro a hA
  refine S.val hA (R.indexAddr (q := i.toNat) sl40 rfl rfl (by omega) (by omega)) rfl ?_; clear hA a; intro a hA
  refine S.val hA (R.load sz3 rfl (hM.cell (k := 1) rfl (ints_getD l _ (by omega)))) rfl ?_; clear hA a; intro a hA
  refine S.val hA (R.assign rfl) rfl ?_; clear hA a; intro a hA
  refine S.done ?_
  replace hA : St 77 [(0, _), (1, _), (2, _), (3, _), (4, _), (10, _), (11, _), (12, _), (13, _)] a := hA.sub ((.cons rfl (.cons rfl (.cons rfl (.cons rfl (.cons rfl (.cons rfl (.cons rfl (.cons rfl (.cons rfl .nil))))))))))
  refine Ends.seq ?_
  refine Ends.seq ?_
  refine Ends.region ?_
  refine S.val hA (R.move rfl) rfl ?_; clear hA a; intro a hA
  refine S.done ?_
  replace hA : St 77 [(0, _), (2, _), (3, _), (4, _), (10, _), (11, _), (12, _), (13, _), (34, _)] a := hA.sub ((.cons rfl (.cons rfl (.cons rfl (.cons rfl (.cons rfl (.cons rfl (.cons rfl (.cons rfl (.cons rfl .nil))))))))))
  refine Ends.block ?_
  refine Ends.seq ?_
  refine Ends.region ?_
  refine S.val hA (R.tt (R.eql rfl rfl) (by first | decide | simp | omega)) rfl ?_; clear hA a; intro a hA
  refine S.val hA (R.assign rfl) rfl ?_; clear hA a; intro a hA
  refine S.done ?_
  replace hA : St 77 [(0, _), (2, _), (3, _), (4, _), (10, _), (11, _), (12, _), (13, _), (34, _), (35, _)] a := hA.sub ((.cons rfl (.cons rfl (.cons rfl (.cons rfl (.cons rfl (.cons rfl (.cons rfl (.cons rfl (.cons rfl (.cons rfl .nil)))))))))))
  refine Ends.condT hA rfl ?_
  refine Ends.seq ?_
  refine Ends.region ?_
  refine S.val hA (R.move rfl) rfl ?_; clear hA a; intro a hA
  refine S.val hA (R.move rfl) rfl ?_; clear hA a; intro a hA
  refine S.val hA (R.move rfl) rfl ?_; clear hA a; intro a hA
  have hm2 : (refO b c l s o).holds _ := ⟨hM.block (k := 0) rfl, hM.block (k := 1) rfl⟩
  refine S.call hA (R.callF Try.func77 rfl rfl rfl) rfl (rstep_ok b c l s o hbc 1 i (l.getD i.toNat 0) true h0 h1 hs _ hm2) ?_; clear hA a
  rintro e w1 ⟨rfl, hn⟩
  replace hM : Mem _ _ [refO b c ((l.set i.toNat (l.getD i.toNat 0))) (s + 1) ⟨1, i, l.getD i.toNat 0, l.getD i.toNat 0, true⟩] _ := (hM.join).callW (k := 0) rfl hn (fun _ h => h); clear hn
  refine ⟨.tuple #[], rfl, fun a hA => ?_⟩
  refine S.done ?_
  replace hA : St 77 [(0, _), (2, _), (3, _), (10, _), (11, _), (12, _), (13, _)] a := hA.sub ((.cons rfl (.cons rfl (.cons rfl (.cons rfl (.cons rfl (.cons rfl (.cons rfl .nil))))))))
  refine Ends.seq ?_
  refine Ends.region ?_
  refine S.val hA (R.move rfl) rfl ?_; clear hA a; intro a hA
  refine S.val hA (R.assign rfl) rfl ?_; clear hA a; intro a hA
  refine S.val hA (R.assign rfl) rfl ?_; clear hA a; intro a hA
  refine S.val hA (R.assign rfl) rfl ?_; clear hA a; intro a hA
  refine S.done ?_
  replace hA : St 77 [(0, _), (2, _), (3, _), (10, _), (11, _), (12, _), (13, _)] a := hA.sub ((.cons rfl (.cons rfl (.cons rfl (.cons rfl (.cons rfl (.cons rfl (.cons rfl .nil))))))))
  refine Ends.ret3 Try.func56 Try.results56 hA rfl rfl rfl ?_
  exact ⟨rfl, hM.only (k := 0) rfl⟩
set_option maxRecDepth 100000 in
set_option maxHeartbeats 400000 in
theorem rdo2_ok (b c : Nat) (l : List Int) (s : Int) (o : CellOp) (hbc : b ≠ c) (i p q : Int) (h0 : 0 ≤ i) (h1 : i < l.length) (hs : 0 ≤ s ∧ s < 9223372036854775807) (w : World) (hm : (refO b c l s o).holds w) :
    Calls Try.prog 56 #[.pointer (some ⟨b, 0, none⟩), .int .i64 2, .int .i64 i, .int .i64 p, .int .i64 q] w fun e w' => e = .returned (.tuple #[.int .i64 0, .bool false, .int .i64 0]) ∧ Mem w (two b c) [refO b c (l.set i.toNat p) (s + 1) ⟨2, i, l.getD i.toNat 0, p, true⟩] w' := by
  have hM := refO.open hm hbc
  replace hM : Mem w (two b c) [pt b #[.slice (some ⟨c, 0, none⟩) l.length l.length, .int .i64 s, .int .i64 o.kind, .int .i64 o.cell, .int .i64 o.old, .int .i64 o.new, .bool o.done] 85, pt c ((ints l)) 3] w := hM
  refine Calls.of_ends (vs := [.pointer (some ⟨b, 0, none⟩), .int .i64 2, .int .i64 i, .int .i64 p, .int .i64 q]) Try.func56 rfl Try.ntmps56 rfl ?_
  intro a hA
  replace hA : St 77 [(0, _), (1, _), (2, _), (3, _), (4, _)] a := hA
  refine Ends.seq ?_
  refine Ends.region ?_
  refine S.val hA (R.assign rfl) rfl ?_; clear hA a; intro a hA
  refine S.val hA (R.assign rfl) rfl ?_; clear hA a; intro a hA
  refine S.val hA (R.assign rfl) rfl ?_; clear hA a; intro a hA
  refine S.done ?_
  replace hA : St 77 [(0, _), (1, _), (2, _), (3, _), (4, _), (10, _), (11, _), (12, _)] a := hA.sub ((.cons rfl (.cons rfl (.cons rfl (.cons rfl (.cons rfl (.cons rfl (.cons rfl (.cons rfl .nil)))))))))
  refine Ends.seq ?_
  refine Ends.seq ?_
  refine Ends.region ?_
  refine S.val hA (R.move rfl) rfl ?_; clear hA a; intro a hA
  refine S.val hA (R.ff (R.lss rfl rfl) (by omega)) rfl ?_; clear hA a; intro a hA
  refine S.val hA (R.move rfl) rfl ?_; clear hA a; intro a hA
  refine S.valg (dj := 18) hA (by kernel_rfl) rfl (R.move rfl) rfl ?_; clear hA a; intro a hA
  refine S.valg (dj := 18) hA (by kernel_rfl) rfl (R.move rfl) rfl ?_; clear hA a; intro a hA
  refine S.valg (dj := 18) hA (by kernel_rfl) rfl (R.nilCheck rfl) rfl ?_; clear hA a; intro a hA
  refine S.valg (dj := 18) hA (by kernel_rfl) rfl (R.fieldAddr (q := 0) fi85_0 rfl rfl rfl) rfl ?_; clear hA a; intro a hA
  refine S.valg (dj := 18) hA (by kernel_rfl) rfl (R.load sz40 rfl (hM.cell (k := 0) rfl rfl)) rfl ?_; clear hA a; intro a hA
  refine S.valg (dj := 18) hA (by kernel_rfl) rfl (R.lenS Try.underlying40 rfl rfl) rfl ?_; clear hA a; intro a hA
  refine S.valg (dj := 18) hA (by kernel_rfl) rfl (R.ff (R.geq rfl rfl) (by omega)) rfl ?_; clear hA a; intro a hA
  refine S.val hA (R.pickF rfl rfl) rfl ?_; clear hA a; intro a hA
  refine S.done ?_
  replace hA : St 77 [(0, _), (1, _), (2, _), (3, _), (4, _), (10, _), (11, _), (12, _), (26, _)] a := hA.sub ((.cons rfl (.cons rfl (.cons rfl (.cons rfl (.cons rfl (.cons rfl (.cons rfl (.cons rfl (.cons rfl .nil))))))))))
  refine Ends.condF hA rfl ?_
  refine Ends.skip ?_
  refine Ends.seq ?_
  refine Ends.region ?_
  refine S.val hA (R.move rfl) rfl ?_; clear hA a; intro a hA
  refine S.val hA (R.nilCheck rfl) rfl ?_; clear hA a; intro a hA
  refine S.val hA (R.fieldAddr (q := 0) fi85_0 rfl rfl rfl) rfl ?_; clear hA a; intro a hA
  refine S.val hA (R.load sz40 rfl (hM.cell (k := 0) rfl rfl)) rfl ?_; clear hA a; intro a hA
  refine S.val hA (R.move rfl) rfl ?_; clear hA a; intro a hA
  refine S.val hA (R.indexAddr (q := i.toNat) sl40 rfl rfl (by omega) (by omega)) rfl ?_; clear hA a; intro a hA
  refine S.val hA (R.load sz3 rfl (hM.cell (k := 1) rfl (ints_getD l _ (by omega)))) rfl ?_; clear hA a; intro a hA
  refine S.val hA (R.assign rfl) rfl ?_; clear hA a; intro a hA
  refine S.done ?_
  replace hA : St 77 [(0, _), (1, _), (2, _), (3, _), (4, _), (10, _), (11, _), (12, _), (13, _)] a := hA.sub ((.cons rfl (.cons rfl (.cons rfl (.cons rfl (.cons rfl (.cons rfl (.cons rfl (.cons rfl (.cons rfl .nil))))))))))
  refine Ends.seq ?_
  refine Ends.seq ?_
  refine Ends.region ?_
  refine S.val hA (R.move rfl) rfl ?_; clear hA a; intro a hA
  refine S.done ?_
  replace hA : St 77 [(0, _), (2, _), (3, _), (4, _), (10, _), (11, _), (12, _), (13, _), (34, _)] a := hA.sub ((.cons rfl (.cons rfl (.cons rfl (.cons rfl (.cons rfl (.cons rfl (.cons rfl (.cons rfl (.cons rfl .nil))))))))))
  refine Ends.block ?_
  refine Ends.seq ?_
  refine Ends.region ?_
  refine S.val hA (R.ff (R.eql rfl rfl) (by first | decide | simp | omega)) rfl ?_; clear hA a; intro a hA
  refine S.val hA (R.assign rfl) rfl ?_; clear hA a; intro a hA
  refine S.done ?_
  replace hA : St 77 [(0, _), (2, _), (3, _), (4, _), (10, _), (11, _), (12, _), (13, _), (34, _), (35, _)] a := hA.sub ((.cons rfl (.cons rfl (.cons rfl (.cons rfl (.cons rfl (.cons rfl (.cons rfl (.cons rfl (.cons rfl (.cons rfl .nil)))))))))))
  refine Ends.condF hA rfl ?_
  refine Ends.seq ?_
  refine Ends.region ?_
  refine S.val hA (R.tt (R.eql rfl rfl) (by first | decide | simp | omega)) rfl ?_; clear hA a; intro a hA
  refine S.val hA (R.assign rfl) rfl ?_; clear hA a; intro a hA
  refine S.done ?_
  replace hA : St 77 [(0, _), (2, _), (3, _), (4, _), (10, _), (11, _), (12, _), (13, _), (34, _), (42, _)] a := hA.sub ((.cons rfl (.cons rfl (.cons rfl (.cons rfl (.cons rfl (.cons rfl (.cons rfl (.cons rfl (.cons rfl (.cons rfl .nil)))))))))))
  refine Ends.condT hA rfl ?_
  refine Ends.seq ?_
  refine Ends.region ?_
  refine S.val hA (R.move rfl) rfl ?_; clear hA a; intro a hA
  refine S.val hA (R.move rfl) rfl ?_; clear hA a; intro a hA
  refine S.val hA (R.move rfl) rfl ?_; clear hA a; intro a hA
  have hm2 : (refO b c l s o).holds _ := ⟨hM.block (k := 0) rfl, hM.block (k := 1) rfl⟩
  refine S.call hA (R.callF Try.func77 rfl rfl rfl) rfl (rstep_ok b c l s o hbc 2 i p true h0 h1 hs _ hm2) ?_; clear hA a
  rintro e w1 ⟨rfl, hn⟩
  replace hM : Mem _ _ [refO b c ((l.set i.toNat p)) (s + 1) ⟨2, i, l.getD i.toNat 0, p, true⟩] _ := (hM.join).callW (k := 0) rfl hn (fun _ h => h); clear hn
  refine ⟨.tuple #[], rfl, fun a hA => ?_⟩
  refine S.done ?_
  replace hA : St 77 [(0, _), (2, _), (3, _), (10, _), (11, _), (12, _), (13, _)] a := hA.sub ((.cons rfl (.cons rfl (.cons rfl (.cons rfl (.cons rfl (.cons rfl (.cons rfl .nil))))))))
  refine Ends.seq ?_
  refine Ends.region ?_
  refine S.val hA (R.assign rfl) rfl ?_; clear hA a; intro a hA
  refine S.val hA (R.assign rfl) rfl ?_; clear hA a; intro a hA
  refine S.val hA (R.assign rfl) rfl ?_; clear hA a; intro a hA
  refine S.done ?_
  replace hA : St 77 [(0, _), (2, _), (3, _), (10, _), (11, _), (12, _), (13, _)] a := hA.sub ((.cons rfl (.cons rfl (.cons rfl (.cons rfl (.cons rfl (.cons rfl (.cons rfl .nil))))))))
  refine Ends.ret3 Try.func56 Try.results56 hA rfl rfl rfl ?_
  exact ⟨rfl, hM.only (k := 0) rfl⟩
set_option maxRecDepth 100000 in
set_option maxHeartbeats 400000 in
theorem rdo3_hit (b c : Nat) (l : List Int) (s : Int) (o : CellOp) (hbc : b ≠ c) (i p q : Int) (h0 : 0 ≤ i) (h1 : i < l.length) (hs : 0 ≤ s ∧ s < 9223372036854775807) (hv : l.getD i.toNat 0 = p) (w : World) (hm : (refO b c l s o).holds w) :
    Calls Try.prog 56 #[.pointer (some ⟨b, 0, none⟩), .int .i64 3, .int .i64 i, .int .i64 p, .int .i64 q] w fun e w' => e = .returned (.tuple #[.int .i64 0, .bool true, .int .i64 0]) ∧ Mem w (two b c) [refO b c (l.set i.toNat q) (s + 1) ⟨3, i, l.getD i.toNat 0, q, true⟩] w' := by
  have hM := refO.open hm hbc
  replace hM : Mem w (two b c) [pt b #[.slice (some ⟨c, 0, none⟩) l.length l.length, .int .i64 s, .int .i64 o.kind, .int .i64 o.cell, .int .i64 o.old, .int .i64 o.new, .bool o.done] 85, pt c ((ints l)) 3] w := hM
  refine Calls.of_ends (vs := [.pointer (some ⟨b, 0, none⟩), .int .i64 3, .int .i64 i, .int .i64 p, .int .i64 q]) Try.func56 rfl Try.ntmps56 rfl ?_
  intro a hA
  replace hA : St 77 [(0, _), (1, _), (2, _), (3, _), (4, _)] a := hA
  refine Ends.seq ?_
  refine Ends.region ?_
  refine S.val hA (R.assign rfl) rfl ?_; clear hA a; intro a hA
  refine S.val hA (R.assign rfl) rfl ?_; clear hA a; intro a hA
  refine S.val hA (R.assign rfl) rfl ?_; clear hA a; intro a hA
  refine S.done ?_
  replace hA : St 77 [(0, _), (1, _), (2, _), (3, _), (4, _), (10, _), (11, _), (12, _)] a := hA.sub ((.cons rfl (.cons rfl (.cons rfl (.cons rfl (.cons rfl (.cons rfl (.cons rfl (.cons rfl .nil)))))))))
  refine Ends.seq ?_
  refine Ends.seq ?_
  refine Ends.region ?_
  refine S.val hA (R.move rfl) rfl ?_; clear hA a; intro a hA
  refine S.val hA (R.ff (R.lss rfl rfl) (by omega)) rfl ?_; clear hA a; intro a hA
  refine S.val hA (R.move rfl) rfl ?_; clear hA a; intro a hA
  refine S.valg (dj := 18) hA (by kernel_rfl) rfl (R.move rfl) rfl ?_; clear hA a; intro a hA
  refine S.valg (dj := 18) hA (by kernel_rfl) rfl (R.move rfl) rfl ?_; clear hA a; intro a hA
  refine S.valg (dj := 18) hA (by kernel_rfl) rfl (R.nilCheck rfl) rfl ?_; clear hA a; intro a hA
  refine S.valg (dj := 18) hA (by kernel_rfl) rfl (R.fieldAddr (q := 0) fi85_0 rfl rfl rfl) rfl ?_; clear hA a; intro a hA
  refine S.valg (dj := 18) hA (by kernel_rfl) rfl (R.load sz40 rfl (hM.cell (k := 0) rfl rfl)) rfl ?_; clear hA a; intro a hA
  refine S.valg (dj := 18) hA (by kernel_rfl) rfl (R.lenS Try.underlying40 rfl rfl) rfl ?_; clear hA a; intro a hA
  refine S.valg (dj := 18) hA (by kernel_rfl) rfl (R.ff (R.geq rfl rfl) (by omega)) rfl ?_; clear hA a; intro a hA
  refine S.val hA (R.pickF rfl rfl) rfl ?_; clear hA a; intro a hA
  refine S.done ?_
  replace hA : St 77 [(0, _), (1, _), (2, _), (3, _), (4, _), (10, _), (11, _), (12, _), (26, _)] a := hA.sub ((.cons rfl (.cons rfl (.cons rfl (.cons rfl (.cons rfl (.cons rfl (.cons rfl (.cons rfl (.cons rfl .nil))))))))))
  refine Ends.condF hA rfl ?_
  refine Ends.skip ?_
  refine Ends.seq ?_
  refine Ends.region ?_
  refine S.val hA (R.move rfl) rfl ?_; clear hA a; intro a hA
  refine S.val hA (R.nilCheck rfl) rfl ?_; clear hA a; intro a hA
  refine S.val hA (R.fieldAddr (q := 0) fi85_0 rfl rfl rfl) rfl ?_; clear hA a; intro a hA
  refine S.val hA (R.load sz40 rfl (hM.cell (k := 0) rfl rfl)) rfl ?_; clear hA a; intro a hA
  refine S.val hA (R.move rfl) rfl ?_; clear hA a; intro a hA
  refine S.val hA (R.indexAddr (q := i.toNat) sl40 rfl rfl (by omega) (by omega)) rfl ?_; clear hA a; intro a hA
  refine S.val hA (R.load sz3 rfl (hM.cell (k := 1) rfl (ints_getD l _ (by omega)))) rfl ?_; clear hA a; intro a hA
  refine S.val hA (R.assign rfl) rfl ?_; clear hA a; intro a hA
  refine S.done ?_
  replace hA : St 77 [(0, _), (1, _), (2, _), (3, _), (4, _), (10, _), (11, _), (12, _), (13, _)] a := hA.sub ((.cons rfl (.cons rfl (.cons rfl (.cons rfl (.cons rfl (.cons rfl (.cons rfl (.cons rfl (.cons rfl .nil))))))))))
  refine Ends.seq ?_
  refine Ends.seq ?_
  refine Ends.region ?_
  refine S.val hA (R.move rfl) rfl ?_; clear hA a; intro a hA
  refine S.done ?_
  replace hA : St 77 [(0, _), (2, _), (3, _), (4, _), (10, _), (11, _), (12, _), (13, _), (34, _)] a := hA.sub ((.cons rfl (.cons rfl (.cons rfl (.cons rfl (.cons rfl (.cons rfl (.cons rfl (.cons rfl (.cons rfl .nil))))))))))
  refine Ends.block ?_
  refine Ends.seq ?_
  refine Ends.region ?_
  refine S.val hA (R.ff (R.eql rfl rfl) (by first | decide | simp | omega)) rfl ?_; clear hA a; intro a hA
  refine S.val hA (R.assign rfl) rfl ?_; clear hA a; intro a hA
  refine S.done ?_
  replace hA : St 77 [(0, _), (2, _), (3, _), (4, _), (10, _), (11, _), (12, _), (13, _), (34, _), (35, _)] a := hA.sub ((.cons rfl (.cons rfl (.cons rfl (.cons rfl (.cons rfl (.cons rfl (.cons rfl (.cons rfl (.cons rfl (.cons rfl .nil)))))))))))
  refine Ends.condF hA rfl ?_
  refine Ends.seq ?_
  refine Ends.region ?_
  refine S.val hA (R.ff (R.eql rfl rfl) (by first | decide | simp | omega)) rfl ?_; clear hA a; intro a hA
  refine S.val hA (R.assign rfl) rfl ?_; clear hA a; intro a hA
  refine S.done ?_
  replace hA : St 77 [(0, _), (2, _), (3, _), (4, _), (10, _), (11, _), (12, _), (13, _), (34, _), (42, _)] a := hA.sub ((.cons rfl (.cons rfl (.cons rfl (.cons rfl (.cons rfl (.cons rfl (.cons rfl (.cons rfl (.cons rfl (.cons rfl .nil)))))))))))
  refine Ends.condF hA rfl ?_
  refine Ends.seq ?_
  refine Ends.region ?_
  refine S.val hA (R.tt (R.eql rfl rfl) (by first | decide | simp | omega)) rfl ?_; clear hA a; intro a hA
  refine S.val hA (R.assign rfl) rfl ?_; clear hA a; intro a hA
  refine S.done ?_
  replace hA : St 77 [(0, _), (2, _), (3, _), (4, _), (10, _), (11, _), (12, _), (13, _), (48, _)] a := hA.sub ((.cons rfl (.cons rfl (.cons rfl (.cons rfl (.cons rfl (.cons rfl (.cons rfl (.cons rfl (.cons rfl .nil))))))))))
  refine Ends.condT hA rfl ?_
  refine Ends.seq ?_
  refine Ends.seq ?_
  refine Ends.region ?_
  refine S.val hA (R.move rfl) rfl ?_; clear hA a; intro a hA
  refine S.val hA (R.move rfl) rfl ?_; clear hA a; intro a hA
  refine S.val hA (R.tt (R.eql rfl rfl) (by omega)) rfl ?_; clear hA a; intro a hA
  refine S.done ?_
  replace hA : St 77 [(0, _), (2, _), (3, _), (4, _), (10, _), (11, _), (12, _), (13, _), (52, _)] a := hA.sub ((.cons rfl (.cons rfl (.cons rfl (.cons rfl (.cons rfl (.cons rfl (.cons rfl (.cons rfl (.cons rfl .nil))))))))))
  refine Ends.condT hA rfl ?_
  refine Ends.seq ?_
  refine Ends.region ?_
  refine S.val hA (R.move rfl) rfl ?_; clear hA a; intro a hA
  refine S.val hA (R.move rfl) rfl ?_; clear hA a; intro a hA
  refine S.val hA (R.move rfl) rfl ?_; clear hA a; intro a hA
  have hm2 : (refO b c l s o).holds _ := ⟨hM.block (k := 0) rfl, hM.block (k := 1) rfl⟩
  refine S.call hA (R.callF Try.func77 rfl rfl rfl) rfl (rstep_ok b c l s o hbc 3 i q true h0 h1 hs _ hm2) ?_; clear hA a
  rintro e w1 ⟨rfl, hn⟩
  replace hM : Mem _ _ [refO b c ((l.set i.toNat q)) (s + 1) ⟨3, i, l.getD i.toNat 0, q, true⟩] _ := (hM.join).callW (k := 0) rfl hn (fun _ h => h); clear hn
  refine ⟨.tuple #[], rfl, fun a hA => ?_⟩
  refine S.done ?_
  replace hA : St 77 [(0, _), (2, _), (3, _), (10, _), (11, _), (12, _), (13, _)] a := hA.sub ((.cons rfl (.cons rfl (.cons rfl (.cons rfl (.cons rfl (.cons rfl (.cons rfl .nil))))))))
  refine Ends.seq ?_
  refine Ends.region ?_
  refine S.val hA (R.assign rfl) rfl ?_; clear hA a; intro a hA
  refine S.val hA (R.assign rfl) rfl ?_; clear hA a; intro a hA
  refine S.val hA (R.assign rfl) rfl ?_; clear hA a; intro a hA
  refine S.done ?_
  replace hA : St 77 [(0, _), (2, _), (3, _), (10, _), (11, _), (12, _), (13, _)] a := hA.sub ((.cons rfl (.cons rfl (.cons rfl (.cons rfl (.cons rfl (.cons rfl (.cons rfl .nil))))))))
  refine Ends.ret3 Try.func56 Try.results56 hA rfl rfl rfl ?_
  exact ⟨rfl, hM.only (k := 0) rfl⟩
set_option maxRecDepth 100000 in
set_option maxHeartbeats 400000 in
theorem rdo3_not (b c : Nat) (l : List Int) (s : Int) (o : CellOp) (hbc : b ≠ c) (i p q : Int) (h0 : 0 ≤ i) (h1 : i < l.length) (hs : 0 ≤ s ∧ s < 9223372036854775807) (hv : l.getD i.toNat 0 ≠ p) (w : World) (hm : (refO b c l s o).holds w) :
    Calls Try.prog 56 #[.pointer (some ⟨b, 0, none⟩), .int .i64 3, .int .i64 i, .int .i64 p, .int .i64 q] w fun e w' => e = .returned (.tuple #[.int .i64 0, .bool false, .int .i64 0]) ∧ Mem w (two b c) [refO b c (l.set i.toNat (l.getD i.toNat 0)) (s + 1) ⟨3, i, l.getD i.toNat 0, l.getD i.toNat 0, false⟩] w' := by
  have hM := refO.open hm hbc
  replace hM : Mem w (two b c) [pt b #[.slice (some ⟨c, 0, none⟩) l.length l.length, .int .i64 s, .int .i64 o.kind, .int .i64 o.cell, .int .i64 o.old, .int .i64 o.new, .bool o.done] 85, pt c ((ints l)) 3] w := hM
  refine Calls.of_ends (vs := [.pointer (some ⟨b, 0, none⟩), .int .i64 3, .int .i64 i, .int .i64 p, .int .i64 q]) Try.func56 rfl Try.ntmps56 rfl ?_
  intro a hA
  replace hA : St 77 [(0, _), (1, _), (2, _), (3, _), (4, _)] a := hA
  refine Ends.seq ?_
  refine Ends.region ?_
  refine S.val hA (R.assign rfl) rfl ?_; clear hA a; intro a hA
  refine S.val hA (R.assign rfl) rfl ?_; clear hA a; intro a hA
  refine S.val hA (R.assign rfl) rfl ?_; clear hA a; intro a hA
  refine S.done ?_
  replace hA : St 77 [(0, _), (1, _), (2, _), (3, _), (4, _), (10, _), (11, _), (12, _)] a := hA.sub ((.cons rfl (.cons rfl (.cons rfl (.cons rfl (.cons rfl (.cons rfl (.cons rfl (.cons rfl .nil)))))))))
  refine Ends.seq ?_
  refine Ends.seq ?_
  refine Ends.region ?_
  refine S.val hA (R.move rfl) rfl ?_; clear hA a; intro a hA
  refine S.val hA (R.ff (R.lss rfl rfl) (by omega)) rfl ?_; clear hA a; intro a hA
  refine S.val hA (R.move rfl) rfl ?_; clear hA a; intro a hA
  refine S.valg (dj := 18) hA (by kernel_rfl) rfl (R.move rfl) rfl ?_; clear hA a; intro a hA
  refine S.valg (dj := 18) hA (by kernel_rfl) rfl (R.move rfl) rfl ?_; clear hA a; intro a hA
  refine S.valg (dj := 18) hA (by kernel_rfl) rfl (R.nilCheck rfl) rfl ?_; clear hA a; intro a hA
  refine S.valg (dj := 18) hA (by kernel_rfl) rfl (R.fieldAddr (q := 0) fi85_0 rfl rfl rfl) rfl ?_; clear hA a; intro a hA
  refine S.valg (dj := 18) hA (by kernel_rfl) rfl (R.load sz40 rfl (hM.cell (k := 0) rfl rfl)) rfl ?_; clear hA a; intro a hA
  refine S.valg (dj := 18) hA (by kernel_rfl) rfl (R.lenS Try.underlying40 rfl rfl) rfl ?_; clear hA a; intro a hA
  refine S.valg (dj := 18) hA (by kernel_rfl) rfl (R.ff (R.geq rfl rfl) (by omega)) rfl ?_; clear hA a; intro a hA
  refine S.val hA (R.pickF rfl rfl) rfl ?_; clear hA a; intro a hA
  refine S.done ?_
  replace hA : St 77 [(0, _), (1, _), (2, _), (3, _), (4, _), (10, _), (11, _), (12, _), (26, _)] a := hA.sub ((.cons rfl (.cons rfl (.cons rfl (.cons rfl (.cons rfl (.cons rfl (.cons rfl (.cons rfl (.cons rfl .nil))))))))))
  refine Ends.condF hA rfl ?_
  refine Ends.skip ?_
  refine Ends.seq ?_
  refine Ends.region ?_
  refine S.val hA (R.move rfl) rfl ?_; clear hA a; intro a hA
  refine S.val hA (R.nilCheck rfl) rfl ?_; clear hA a; intro a hA
  refine S.val hA (R.fieldAddr (q := 0) fi85_0 rfl rfl rfl) rfl ?_; clear hA a; intro a hA
  refine S.val hA (R.load sz40 rfl (hM.cell (k := 0) rfl rfl)) rfl ?_; clear hA a; intro a hA
  refine S.val hA (R.move rfl) rfl ?_; clear hA a; intro a hA
  refine S.val hA (R.indexAddr (q := i.toNat) sl40 rfl rfl (by omega) (by omega)) rfl ?_; clear hA a; intro a hA
  refine S.val hA (R.load sz3 rfl (hM.cell (k := 1) rfl (ints_getD l _ (by omega)))) rfl ?_; clear hA a; intro a hA
  refine S.val hA (R.assign rfl) rfl ?_; clear hA a; intro a hA
  refine S.done ?_
  replace hA : St 77 [(0, _), (1, _), (2, _), (3, _), (4, _), (10, _), (11, _), (12, _), (13, _)] a := hA.sub ((.cons rfl (.cons rfl (.cons rfl (.cons rfl (.cons rfl (.cons rfl (.cons rfl (.cons rfl (.cons rfl .nil))))))))))
  refine Ends.seq ?_
  refine Ends.seq ?_
  refine Ends.region ?_
  refine S.val hA (R.move rfl) rfl ?_; clear hA a; intro a hA
  refine S.done ?_
  replace hA : St 77 [(0, _), (2, _), (3, _), (4, _), (10, _), (11, _), (12, _), (13, _), (34, _)] a := hA.sub ((.cons rfl (.cons rfl (.cons rfl (.cons rfl (.cons rfl (.cons rfl (.cons rfl (.cons rfl (.cons rfl .nil))))))))))
  refine Ends.block ?_
  refine Ends.seq ?_
  refine Ends.region ?_
  refine S.val hA (R.ff (R.eql rfl rfl) (by first | decide | simp | omega)) rfl ?_; clear hA a; intro a hA
  refine S.val hA (R.assign rfl) rfl ?_; clear hA a; intro a hA
  refine S.done ?_
  replace hA : St 77 [(0, _), (2, _), (3, _), (4, _), (10, _), (11, _), (12, _), (13, _), (34, _), (35, _)] a := hA.sub ((.cons rfl (.cons rfl (.cons rfl (.cons rfl (.cons rfl (.cons rfl (.cons rfl (.cons rfl (.cons rfl (.cons rfl .nil)))))))))))
  refine Ends.condF hA rfl ?_
  refine Ends.seq ?_
  refine Ends.region ?_
  refine S.val hA (R.ff (R.eql rfl rfl) (by first | decide | simp | omega)) rfl ?_; clear hA a; intro a hA
  refine S.val hA (R.assign rfl) rfl ?_; clear hA a; intro a hA
  refine S.done ?_
  replace hA : St 77 [(0, _), (2, _), (3, _), (4, _), (10, _), (11, _), (12, _), (13, _), (34, _), (42, _)] a := hA.sub ((.cons rfl (.cons rfl (.cons rfl (.cons rfl (.cons rfl (.cons rfl (.cons rfl (.cons rfl (.cons rfl (.cons rfl .nil)))))))))))
  refine Ends.condF hA rfl ?_
  refine Ends.seq ?_
  refine Ends.region ?_
  refine S.val hA (R.tt (R.eql rfl rfl) (by first | decide | simp | omega)) rfl ?_; clear hA a; intro a hA
  refine S.val hA (R.assign rfl) rfl ?_; clear hA a; intro a hA
  refine S.done ?_
  replace hA : St 77 [(0, _), (2, _), (3, _), (4, _), (10, _), (11, _), (12, _), (13, _), (48, _)] a := hA.sub ((.cons rfl (.cons rfl (.cons rfl (.cons rfl (.cons rfl (.cons rfl (.cons rfl (.cons rfl (.cons rfl .nil))))))))))
  refine Ends.condT hA rfl ?_
  refine Ends.seq ?_
  refine Ends.seq ?_
  refine Ends.region ?_
  refine S.val hA (R.move rfl) rfl ?_; clear hA a; intro a hA
  refine S.val hA (R.move rfl) rfl ?_; clear hA a; intro a hA
  refine S.val hA (R.ff (R.eql rfl rfl) (by omega)) rfl ?_; clear hA a; intro a hA
  refine S.done ?_
  replace hA : St 77 [(0, _), (2, _), (3, _), (4, _), (10, _), (11, _), (12, _), (13, _), (52, _)] a := hA.sub ((.cons rfl (.cons rfl (.cons rfl (.cons rfl (.cons rfl (.cons rfl (.cons rfl (.cons rfl (.cons rfl .nil))))))))))
  refine Ends.condF hA rfl ?_
  refine Ends.skip ?_
  refine Ends.seq ?_
  refine Ends.region ?_
  refine S.val hA (R.move rfl) rfl ?_; clear hA a; intro a hA
  refine S.val hA (R.move rfl) rfl ?_; clear hA a; intro a hA
  refine S.val hA (R.move rfl) rfl ?_; clear hA a; intro a hA
  have hm2 : (refO b c l s o).holds _ := ⟨hM.block (k := 0) rfl, hM.block (k := 1) rfl⟩
  refine S.call hA (R.callF Try.func77 rfl rfl rfl) rfl (rstep_ok b c l s o hbc 3 i (l.getD i.toNat 0) false h0 h1 hs _ hm2) ?_; clear hA a
  rintro e w1 ⟨rfl, hn⟩
  replace hM : Mem _ _ [refO b c ((l.set i.toNat (l.getD i.toNat 0))) (s + 1) ⟨3, i, l.getD i.toNat 0, l.getD i.toNat 0, false⟩] _ := (hM.join).callW (k := 0) rfl hn (fun _ h => h); clear hn
  refine ⟨.tuple #[], rfl, fun a hA => ?_⟩
  refine S.done ?_
  replace hA : St 77 [(0, _), (2, _), (3, _), (10, _), (11, _), (12, _), (13, _)] a := hA.sub ((.cons rfl (.cons rfl (.cons rfl (.cons rfl (.cons rfl (.cons rfl (.cons rfl .nil))))))))
  refine Ends.seq ?_
  refine Ends.region ?_
  refine S.val hA (R.assign rfl) rfl ?_; clear hA a; intro a hA
  refine S.val hA (R.assign rfl) rfl ?_; clear hA a; intro a hA
  refine S.val hA (R.assign rfl) rfl ?_; clear hA a; intro a hA
  refine S.done ?_
  replace hA : St 77 [(0, _), (2, _), (3, _), (10, _), (11, _), (12, _), (13, _)] a := hA.sub ((.cons rfl (.cons rfl (.cons rfl (.cons rfl (.cons rfl (.cons rfl (.cons rfl .nil))))))))
  refine Ends.ret3 Try.func56 Try.results56 hA rfl rfl rfl ?_
  exact ⟨rfl, hM.only (k := 0) rfl⟩
set_option maxRecDepth 100000 in
set_option maxHeartbeats 400000 in
theorem rdo4_ok (b c : Nat) (l : List Int) (s : Int) (o : CellOp) (hbc : b ≠ c) (i p q : Int) (h0 : 0 ≤ i) (h1 : i < l.length) (hs : 0 ≤ s ∧ s < 9223372036854775807) (hr : -9223372036854775808 ≤ l.getD i.toNat 0 ∧ l.getD i.toNat 0 ≤ 9223372036854775807) (hp : -9223372036854775808 ≤ p ∧ p ≤ 9223372036854775807) (hv : -9223372036854775808 ≤ l.getD i.toNat 0 + p ∧ l.getD i.toNat 0 + p ≤ 9223372036854775807) (w : World) (hm : (refO b c l s o).holds w) :
    Calls Try.prog 56 #[.pointer (some ⟨b, 0, none⟩), .int .i64 4, .int .i64 i, .int .i64 p, .int .i64 q] w fun e w' => e = .returned (.tuple #[.int .i64 (l.getD i.toNat 0), .bool false, .int .i64 0]) ∧ Mem w (two b c) [refO b c (l.set i.toNat (l.getD i.toNat 0 + p)) (s + 1) ⟨4, i, l.getD i.toNat 0, l.getD i.toNat 0 + p, true⟩] w' := by
  have hM := refO.open hm hbc
  replace hM : Mem w (two b c) [pt b #[.slice (some ⟨c, 0, none⟩) l.length l.length, .int .i64 s, .int .i64 o.kind, .int .i64 o.cell, .int .i64 o.old, .int .i64 o.new, .bool o.done] 85, pt c ((ints l)) 3] w := hM
  refine Calls.of_ends (vs := [.pointer (some ⟨b, 0, none⟩), .int .i64 4, .int .i64 i, .int .i64 p, .int .i64 q]) Try.func56 rfl Try.ntmps56 rfl ?_
  intro a hA
  replace hA : St 77 [(0, _), (1, _), (2, _), (3, _), (4, _)] a := hA
  refine Ends.seq ?_
  refine Ends.region ?_
  refine S.val hA (R.assign rfl) rfl ?_; clear hA a; intro a hA
  refine S.val hA (R.assign rfl) rfl ?_; clear hA a; intro a hA
  refine S.val hA (R.assign rfl) rfl ?_; clear hA a; intro a hA
  refine S.done ?_
  replace hA : St 77 [(0, _), (1, _), (2, _), (3, _), (4, _), (10, _), (11, _), (12, _)] a := hA.sub ((.cons rfl (.cons rfl (.cons rfl (.cons rfl (.cons rfl (.cons rfl (.cons rfl (.cons rfl .nil)))))))))
  refine Ends.seq ?_
  refine Ends.seq ?_
  refine Ends.region ?_
  refine S.val hA (R.move rfl) rfl ?_; clear hA a; intro a hA
  refine S.val hA (R.ff (R.lss rfl rfl) (by omega)) rfl ?_; clear hA a; intro a hA
  refine S.val hA (R.move rfl) rfl ?_; clear hA a; intro a hA
  refine S.valg (dj := 18) hA (by kernel_rfl) rfl (R.move rfl) rfl ?_; clear hA a; intro a hA
  refine S.valg (dj := 18) hA (by kernel_rfl) rfl (R.move rfl) rfl ?_; clear hA a; intro a hA
  refine S.valg (dj := 18) hA (by kernel_rfl) rfl (R.nilCheck rfl) rfl ?_; clear hA a; intro a hA
  refine S.valg (dj := 18) hA (by kernel_rfl) rfl (R.fieldAddr (q := 0) fi85_0 rfl rfl rfl) rfl ?_; clear hA a; intro a hA
  refine S.valg (dj := 18) hA (by kernel_rfl) rfl (R.load sz40 rfl (hM.cell (k := 0) rfl rfl)) rfl ?_; clear hA a; intro a hA
  refine S.valg (dj := 18) hA (by kernel_rfl) rfl (R.lenS Try.underlying40 rfl rfl) rfl ?_; clear hA a; intro a hA
  refine S.valg (dj := 18) hA (by kernel_rfl) rfl (R.ff (R.geq rfl rfl) (by omega)) rfl ?_; clear hA a; intro a hA
  refine S.val hA (R.pickF rfl rfl) rfl ?_; clear hA a; intro a hA
  refine S.done ?_
  replace hA : St 77 [(0, _), (1, _), (2, _), (3, _), (4, _), (10, _), (11, _), (12, _), (26, _)] a := hA.sub ((.cons rfl (.cons rfl (.cons rfl (.cons rfl (.cons rfl (.cons rfl (.cons rfl (.cons rfl (.cons rfl .nil))))))))))
  refine Ends.condF hA rfl ?_
  refine Ends.skip ?_
  refine Ends.seq ?_
  refine Ends.region ?_
  refine S.val hA (R.move rfl) rfl ?_; clear hA a; intro a hA
  refine S.val hA (R.nilCheck rfl) rfl ?_; clear hA a; intro a hA
  refine S.val hA (R.fieldAddr (q := 0) fi85_0 rfl rfl rfl) rfl ?_; clear hA a; intro a hA
  refine S.val hA (R.load sz40 rfl (hM.cell (k := 0) rfl rfl)) rfl ?_; clear hA a; intro a hA
  refine S.val hA (R.move rfl) rfl ?_; clear hA a; intro a hA
  refine S.val hA (R.indexAddr (q := i.toNat) sl40 rfl rfl (by omega) (by omega)) rfl ?_; clear hA a; intro a hA
  refine S.val hA (R.load sz3 rfl (hM.cell (k := 1) rfl (ints_getD l _ (by omega)))) rfl ?_; clear hA a; intro a hA
  refine S.val hA (R.assign rfl) rfl ?_; clear hA a; intro a hA
  refine S.done ?_
  replace hA : St 77 [(0, _), (1, _), (2, _), (3, _), (4, _), (10, _), (11, _), (12, _), (13, _)] a := hA.sub ((.cons rfl (.cons rfl (.cons rfl (.cons rfl (.cons rfl (.cons rfl (.cons rfl (.cons rfl (.cons rfl .nil))))))))))
  refine Ends.seq ?_
  refine Ends.seq ?_
  refine Ends.region ?_
  refine S.val hA (R.move rfl) rfl ?_; clear hA a; intro a hA
  refine S.done ?_
  replace hA : St 77 [(0, _), (2, _), (3, _), (4, _), (10, _), (11, _), (12, _), (13, _), (34, _)] a := hA.sub ((.cons rfl (.cons rfl (.cons rfl (.cons rfl (.cons rfl (.cons rfl (.cons rfl (.cons rfl (.cons rfl .nil))))))))))
  refine Ends.block ?_
  refine Ends.seq ?_
  refine Ends.region ?_
  refine S.val hA (R.ff (R.eql rfl rfl) (by first | decide | simp | omega)) rfl ?_; clear hA a; intro a hA
  refine S.val hA (R.assign rfl) rfl ?_; clear hA a; intro a hA
  refine S.done ?_
  replace hA : St 77 [(0, _), (2, _), (3, _), (4, _), (10, _), (11, _), (12, _), (13, _), (34, _), (35, _)] a := hA.sub ((.cons rfl (.cons rfl (.cons rfl (.cons rfl (.cons rfl (.cons rfl (.cons rfl (.cons rfl (.cons rfl (.cons rfl .nil)))))))))))
  refine Ends.condF hA rfl ?_
  refine Ends.seq ?_
  refine Ends.region ?_
  refine S.val hA (R.ff (R.eql rfl rfl) (by first | decide | simp | omega)) rfl ?_; clear hA a; intro a hA
  refine S.val hA (R.assign rfl) rfl ?_; clear hA a; intro a hA
  refine S.done ?_
  replace hA : St 77 [(0, _), (2, _), (3, _), (4, _), (10, _), (11, _), (12, _), (13, _), (34, _), (42, _)] a := hA.sub ((.cons rfl (.cons rfl (.cons rfl (.cons rfl (.cons rfl (.cons rfl (.cons rfl (.cons rfl (.cons rfl (.cons rfl .nil)))))))))))
  refine Ends.condF hA rfl ?_
  refine Ends.seq ?_
  refine Ends.region ?_
  refine S.val hA (R.ff (R.eql rfl rfl) (by first | decide | simp | omega)) rfl ?_; clear hA a; intro a hA
  refine S.val hA (R.assign rfl) rfl ?_; clear hA a; intro a hA
  refine S.done ?_
  replace hA : St 77 [(0, _), (2, _), (3, _), (4, _), (10, _), (11, _), (12, _), (13, _), (48, _)] a := hA.sub ((.cons rfl (.cons rfl (.cons rfl (.cons rfl (.cons rfl (.cons rfl (.cons rfl (.cons rfl (.cons rfl .nil))))))))))
  refine Ends.condF hA rfl ?_
  refine Ends.skip ?_
  refine Ends.inBlock ?_
  refine Ends.seq ?_
  refine Ends.region ?_
  refine S.val hA (R.move rfl) rfl ?_; clear hA a; intro a hA
  refine S.call hA (R.callF Try.func22 rfl rfl rfl) rfl (num_v (l.getD i.toNat 0) (by omega) (by omega) _) ?_; clear hA a
  rintro e w1 ⟨x1, rfl, sg2, hb⟩
  replace hM := hM.callB hb; clear hb
  refine ⟨.agg x1, rfl, fun a hA => ?_⟩
  refine S.val hA (R.move rfl) rfl ?_; clear hA a; intro a hA
  refine S.call hA (R.callF Try.func22 rfl rfl rfl) rfl (num_v p (by omega) (by omega) _) ?_; clear hA a
  rintro e w2 ⟨x3, rfl, sg4, hb⟩
  replace hM := hM.callB hb; clear hb
  refine ⟨.agg x3, rfl, fun a hA => ?_⟩
  refine S.call hA (R.callF Try.func20 rfl rfl rfl) rfl (add_v sg2 sg4 ((Lt.int hr.1 hr.2).up (by decide)) ((Lt.int hp.1 hp.2).up (by decide)) _) ?_; clear hA a
  rintro e w3 ⟨x5, rfl, sg6, hb⟩
  replace hM := hM.callB hb; clear hb
  refine ⟨.agg x5, rfl, fun a hA => ?_⟩
  refine S.call hA (R.callF Try.func26 rfl rfl rfl) rfl (int_ok sg6 ((Lt.add (Lt.int hr.1 hr.2) (Lt.int hp.1 hp.2)).up (by decide)) hv _) ?_; clear hA a
  rintro e w4 ⟨rfl, hb⟩
  replace hM := hM.callB hb; clear hb
  refine ⟨.tuple #[.int .i64 ((l.getD i.toNat 0) + p), .bool true], rfl, fun a hA => ?_⟩
  refine S.val hA (R.move rfl) rfl ?_; clear hA a; intro a hA
  refine S.val hA (R.extract (v := .int .i64 ((l.getD i.toNat 0) + p)) rfl rfl) rfl ?_; clear hA a; intro a hA
  refine S.val hA (R.extract (v := .bool true) rfl rfl) rfl ?_; clear hA a; intro a hA
  refine S.val hA (R.assign rfl) rfl ?_; clear hA a; intro a hA
  refine S.val hA (R.assign rfl) rfl ?_; clear hA a; intro a hA
  refine S.done ?_
  replace hA : St 77 [(0, _), (2, _), (10, _), (11, _), (12, _), (13, _), (14, _), (15, _)] a := hA.sub ((.cons rfl (.cons rfl (.cons rfl (.cons rfl (.cons rfl (.cons rfl (.cons rfl (.cons rfl .nil)))))))))
  refine Ends.seq ?_
  refine Ends.seq ?_
  refine Ends.region ?_
  refine S.val hA (R.move rfl) rfl ?_; clear hA a; intro a hA
  refine S.val hA (R.not rfl) rfl ?_; clear hA a; intro a hA
  refine S.done ?_
  replace hA : St 77 [(0, _), (2, _), (10, _), (11, _), (12, _), (13, _), (14, _), (71, _)] a := hA.sub ((.cons rfl (.cons rfl (.cons rfl (.cons rfl (.cons rfl (.cons rfl (.cons rfl (.cons rfl .nil)))))))))
  refine Ends.condF hA rfl ?_
  refine Ends.skip ?_
  refine Ends.seq ?_
  refine Ends.region ?_
  refine S.val hA (R.move rfl) rfl ?_; clear hA a; intro a hA
  refine S.val hA (R.move rfl) rfl ?_; clear hA a; intro a hA
  refine S.val hA (R.move rfl) rfl ?_; clear hA a; intro a hA
  have hm2 : (refO b c l s o).holds _ := ⟨hM.block (k := 0) rfl, hM.block (k := 1) rfl⟩
  refine S.call hA (R.callF Try.func77 rfl rfl rfl) rfl (rstep_ok b c l s o hbc 4 i ((l.getD i.toNat 0) + p) true h0 h1 hs _ hm2) ?_; clear hA a
  rintro e w5 ⟨rfl, hn⟩
  replace hM : Mem _ _ [refO b c ((l.set i.toNat ((l.getD i.toNat 0) + p))) (s + 1) ⟨4, i, l.getD i.toNat 0, (l.getD i.toNat 0) + p, true⟩] _ := (hM.join).callW (k := 0) rfl hn (fun _ h => h); clear hn
  refine ⟨.tuple #[], rfl, fun a hA => ?_⟩
  refine S.done ?_
  replace hA : St 77 [(10, _), (11, _), (12, _), (13, _)] a := hA.sub ((.cons rfl (.cons rfl (.cons rfl (.cons rfl .nil)))))
  refine Ends.seq ?_
  refine Ends.region ?_
  refine S.val hA (R.move rfl) rfl ?_; clear hA a; intro a hA
  refine S.val hA (R.assign rfl) rfl ?_; clear hA a; intro a hA
  refine S.val hA (R.assign rfl) rfl ?_; clear hA a; intro a hA
  refine S.val hA (R.assign rfl) rfl ?_; clear hA a; intro a hA
  refine S.done ?_
  replace hA : St 77 [(10, _), (11, _), (12, _)] a := hA.sub ((.cons rfl (.cons rfl (.cons rfl .nil))))
  refine Ends.ret3 Try.func56 Try.results56 hA rfl rfl rfl ?_
  exact ⟨rfl, hM.only (k := 0) rfl⟩
set_option maxRecDepth 100000 in
set_option maxHeartbeats 400000 in
theorem rdo4_over (b c : Nat) (l : List Int) (s : Int) (o : CellOp) (hbc : b ≠ c) (i p q : Int) (h0 : 0 ≤ i) (h1 : i < l.length) (hr : -9223372036854775808 ≤ l.getD i.toNat 0 ∧ l.getD i.toNat 0 ≤ 9223372036854775807) (hp : -9223372036854775808 ≤ p ∧ p ≤ 9223372036854775807) (hv : ¬ (-9223372036854775808 ≤ l.getD i.toNat 0 + p ∧ l.getD i.toNat 0 + p ≤ 9223372036854775807)) (w : World) (hm : (refO b c l s o).holds w) :
    Calls Try.prog 56 #[.pointer (some ⟨b, 0, none⟩), .int .i64 4, .int .i64 i, .int .i64 p, .int .i64 q] w fun e w' => e = .returned (.tuple #[.int .i64 0, .bool false, .int .i64 12]) ∧ Mem w (two b c) [refO b c l (s) o] w' := by
  have hM := refO.open hm hbc
  replace hM : Mem w (two b c) [pt b #[.slice (some ⟨c, 0, none⟩) l.length l.length, .int .i64 s, .int .i64 o.kind, .int .i64 o.cell, .int .i64 o.old, .int .i64 o.new, .bool o.done] 85, pt c ((ints l)) 3] w := hM
  refine Calls.of_ends (vs := [.pointer (some ⟨b, 0, none⟩), .int .i64 4, .int .i64 i, .int .i64 p, .int .i64 q]) Try.func56 rfl Try.ntmps56 rfl ?_
  intro a hA
  replace hA : St 77 [(0, _), (1, _), (2, _), (3, _), (4, _)] a := hA
  refine Ends.seq ?_
  refine Ends.region ?_
  refine S.val hA (R.assign rfl) rfl ?_; clear hA a; intro a hA
  refine S.val hA (R.assign rfl) rfl ?_; clear hA a; intro a hA
  refine S.val hA (R.assign rfl) rfl ?_; clear hA a; intro a hA
  refine S.done ?_
  replace hA : St 77 [(0, _), (1, _), (2, _), (3, _), (4, _), (10, _), (11, _), (12, _)] a := hA.sub ((.cons rfl (.cons rfl (.cons rfl (.cons rfl (.cons rfl (.cons rfl (.cons rfl (.cons rfl .nil)))))))))
  refine Ends.seq ?_
  refine Ends.seq ?_
  refine Ends.region ?_
  refine S.val hA (R.move rfl) rfl ?_; clear hA a; intro a hA
  refine S.val hA (R.ff (R.lss rfl rfl) (by omega)) rfl ?_; clear hA a; intro a hA
  refine S.val hA (R.move rfl) rfl ?_; clear hA a; intro a hA
  refine S.valg (dj := 18) hA (by kernel_rfl) rfl (R.move rfl) rfl ?_; clear hA a; intro a hA
  refine S.valg (dj := 18) hA (by kernel_rfl) rfl (R.move rfl) rfl ?_; clear hA a; intro a hA
  refine S.valg (dj := 18) hA (by kernel_rfl) rfl (R.nilCheck rfl) rfl ?_; clear hA a; intro a hA
  refine S.valg (dj := 18) hA (by kernel_rfl) rfl (R.fieldAddr (q := 0) fi85_0 rfl rfl rfl) rfl ?_; clear hA a; intro a hA
  refine S.valg (dj := 18) hA (by kernel_rfl) rfl (R.load sz40 rfl (hM.cell (k := 0) rfl rfl)) rfl ?_; clear hA a; intro a hA
  refine S.valg (dj := 18) hA (by kernel_rfl) rfl (R.lenS Try.underlying40 rfl rfl) rfl ?_; clear hA a; intro a hA
  refine S.valg (dj := 18) hA (by kernel_rfl) rfl (R.ff (R.geq rfl rfl) (by omega)) rfl ?_; clear hA a; intro a hA
  refine S.val hA (R.pickF rfl rfl) rfl ?_; clear hA a; intro a hA
  refine S.done ?_
  replace hA : St 77 [(0, _), (1, _), (2, _), (3, _), (4, _), (10, _), (11, _), (12, _), (26, _)] a := hA.sub ((.cons rfl (.cons rfl (.cons rfl (.cons rfl (.cons rfl (.cons rfl (.cons rfl (.cons rfl (.cons rfl .nil))))))))))
  refine Ends.condF hA rfl ?_
  refine Ends.skip ?_
  refine Ends.seq ?_
  refine Ends.region ?_
  refine S.val hA (R.move rfl) rfl ?_; clear hA a; intro a hA
  refine S.val hA (R.nilCheck rfl) rfl ?_; clear hA a; intro a hA
  refine S.val hA (R.fieldAddr (q := 0) fi85_0 rfl rfl rfl) rfl ?_; clear hA a; intro a hA
  refine S.val hA (R.load sz40 rfl (hM.cell (k := 0) rfl rfl)) rfl ?_; clear hA a; intro a hA
  refine S.val hA (R.move rfl) rfl ?_; clear hA a; intro a hA
  refine S.val hA (R.indexAddr (q := i.toNat) sl40 rfl rfl (by omega) (by omega)) rfl ?_; clear hA a; intro a hA
  refine S.val hA (R.load sz3 rfl (hM.cell (k := 1) rfl (ints_getD l _ (by omega)))) rfl ?_; clear hA a; intro a hA
  refine S.val hA (R.assign rfl) rfl ?_; clear hA a; intro a hA
  refine S.done ?_
  replace hA : St 77 [(0, _), (1, _), (2, _), (3, _), (4, _), (10, _), (11, _), (12, _), (13, _)] a := hA.sub ((.cons rfl (.cons rfl (.cons rfl (.cons rfl (.cons rfl (.cons rfl (.cons rfl (.cons rfl (.cons rfl .nil))))))))))
  refine Ends.seq ?_
  refine Ends.seq ?_
  refine Ends.region ?_
  refine S.val hA (R.move rfl) rfl ?_; clear hA a; intro a hA
  refine S.done ?_
  replace hA : St 77 [(0, _), (2, _), (3, _), (4, _), (10, _), (11, _), (12, _), (13, _), (34, _)] a := hA.sub ((.cons rfl (.cons rfl (.cons rfl (.cons rfl (.cons rfl (.cons rfl (.cons rfl (.cons rfl (.cons rfl .nil))))))))))
  refine Ends.block ?_
  refine Ends.seq ?_
  refine Ends.region ?_
  refine S.val hA (R.ff (R.eql rfl rfl) (by first | decide | simp | omega)) rfl ?_; clear hA a; intro a hA
  refine S.val hA (R.assign rfl) rfl ?_; clear hA a; intro a hA
  refine S.done ?_
  replace hA : St 77 [(0, _), (2, _), (3, _), (4, _), (10, _), (11, _), (12, _), (13, _), (34, _), (35, _)] a := hA.sub ((.cons rfl (.cons rfl (.cons rfl (.cons rfl (.cons rfl (.cons rfl (.cons rfl (.cons rfl (.cons rfl (.cons rfl .nil)))))))))))
  refine Ends.condF hA rfl ?_
  refine Ends.seq ?_
  refine Ends.region ?_
  refine S.val hA (R.ff (R.eql rfl rfl) (by first | decide | simp | omega)) rfl ?_; clear hA a; intro a hA
  refine S.val hA (R.assign rfl) rfl ?_; clear hA a; intro a hA
  refine S.done ?_
  replace hA : St 77 [(0, _), (2, _), (3, _), (4, _), (10, _), (11, _), (12, _), (13, _), (34, _), (42, _)] a := hA.sub ((.cons rfl (.cons rfl (.cons rfl (.cons rfl (.cons rfl (.cons rfl (.cons rfl (.cons rfl (.cons rfl (.cons rfl .nil)))))))))))
  refine Ends.condF hA rfl ?_
  refine Ends.seq ?_
  refine Ends.region ?_
  refine S.val hA (R.ff (R.eql rfl rfl) (by first | decide | simp | omega)) rfl ?_; clear hA a; intro a hA
  refine S.val hA (R.assign rfl) rfl ?_; clear hA a; intro a hA
  refine S.done ?_
  replace hA : St 77 [(0, _), (2, _), (3, _), (4, _), (10, _), (11, _), (12, _), (13, _), (48, _)] a := hA.sub ((.cons rfl (.cons rfl (.cons rfl (.cons rfl (.cons rfl (.cons rfl (.cons rfl (.cons rfl (.cons rfl .nil))))))))))
  refine Ends.condF hA rfl ?_
  refine Ends.skip ?_
  refine Ends.inBlock ?_
  refine Ends.seq ?_
  refine Ends.region ?_
  refine S.val hA (R.move rfl) rfl ?_; clear hA a; intro a hA
  refine S.call hA (R.callF Try.func22 rfl rfl rfl) rfl (num_v (l.getD i.toNat 0) (by omega) (by omega) _) ?_; clear hA a
  rintro e w1 ⟨x1, rfl, sg2, hb⟩
  replace hM := hM.callB hb; clear hb
  refine ⟨.agg x1, rfl, fun a hA => ?_⟩
  refine S.val hA (R.move rfl) rfl ?_; clear hA a; intro a hA
  refine S.call hA (R.callF Try.func22 rfl rfl rfl) rfl (num_v p (by omega) (by omega) _) ?_; clear hA a
  rintro e w2 ⟨x3, rfl, sg4, hb⟩
  replace hM := hM.callB hb; clear hb
  refine ⟨.agg x3, rfl, fun a hA => ?_⟩
  refine S.call hA (R.callF Try.func20 rfl rfl rfl) rfl (add_v sg2 sg4 ((Lt.int hr.1 hr.2).up (by decide)) ((Lt.int hp.1 hp.2).up (by decide)) _) ?_; clear hA a
  rintro e w3 ⟨x5, rfl, sg6, hb⟩
  replace hM := hM.callB hb; clear hb
  refine ⟨.agg x5, rfl, fun a hA => ?_⟩
  refine S.call hA (R.callF Try.func26 rfl rfl rfl) rfl (int_out sg6 ((Lt.add (Lt.int hr.1 hr.2) (Lt.int hp.1 hp.2)).up (by decide)) hv _) ?_; clear hA a
  rintro e w4 ⟨rfl, hb⟩
  replace hM := hM.callB hb; clear hb
  refine ⟨.tuple #[.int .i64 0, .bool false], rfl, fun a hA => ?_⟩
  refine S.val hA (R.move rfl) rfl ?_; clear hA a; intro a hA
  refine S.val hA (R.extract (v := .int .i64 0) rfl rfl) rfl ?_; clear hA a; intro a hA
  refine S.val hA (R.extract (v := .bool false) rfl rfl) rfl ?_; clear hA a; intro a hA
  refine S.val hA (R.assign rfl) rfl ?_; clear hA a; intro a hA
  refine S.val hA (R.assign rfl) rfl ?_; clear hA a; intro a hA
  refine S.done ?_
  replace hA : St 77 [(0, _), (2, _), (10, _), (11, _), (12, _), (13, _), (14, _), (15, _)] a := hA.sub ((.cons rfl (.cons rfl (.cons rfl (.cons rfl (.cons rfl (.cons rfl (.cons rfl (.cons rfl .nil)))))))))
  refine Ends.seq ?_
  refine Ends.seq ?_
  refine Ends.region ?_
  refine S.val hA (R.move rfl) rfl ?_; clear hA a; intro a hA
  refine S.val hA (R.not rfl) rfl ?_; clear hA a; intro a hA
  refine S.done ?_
  replace hA : St 77 [(0, _), (2, _), (10, _), (11, _), (12, _), (13, _), (14, _), (71, _)] a := hA.sub ((.cons rfl (.cons rfl (.cons rfl (.cons rfl (.cons rfl (.cons rfl (.cons rfl (.cons rfl .nil)))))))))
  refine Ends.condT hA rfl ?_
  refine Ends.seq ?_
  refine Ends.region ?_
  refine S.val hA (R.assign rfl) rfl ?_; clear hA a; intro a hA
  refine S.val hA (R.assign rfl) rfl ?_; clear hA a; intro a hA
  refine S.val hA (R.assign rfl) rfl ?_; clear hA a; intro a hA
  refine S.done ?_
  replace hA : St 77 [(0, _), (2, _), (10, _), (11, _), (12, _), (13, _), (14, _)] a := hA.sub ((.cons rfl (.cons rfl (.cons rfl (.cons rfl (.cons rfl (.cons rfl (.cons rfl .nil))))))))
  refine Ends.ret3 Try.func56 Try.results56 hA rfl rfl rfl ?_
  exact ⟨rfl, (show Mem w (two b c) _ _ from hM).join⟩
set_option maxRecDepth 100000 in
set_option maxHeartbeats 400000 in
theorem rdo1_low (b c : Nat) (l : List Int) (s : Int) (o : CellOp) (hbc : b ≠ c) (i p q : Int) (h0 : i < 0) (w : World) (hm : (refO b c l s o).holds w) :
    Calls Try.prog 56 #[.pointer (some ⟨b, 0, none⟩), .int .i64 1, .int .i64 i, .int .i64 p, .int .i64 q] w fun e w' => e = .returned (.tuple #[.int .i64 0, .bool false, .int .i64 11]) ∧ Mem w (two b c) [refO b c l (s) o] w' := by
  have hM := refO.open hm hbc
  replace hM : Mem w (two b c) [pt b #[.slice (some ⟨c, 0, none⟩) l.length l.length, .int .i64 s, .int .i64 o.kind, .int .i64 o.cell, .int .i64 o.old, .int .i64 o.new, .bool o.done] 85, pt c ((ints l)) 3] w := hM
  refine Calls.of_ends (vs := [.pointer (some ⟨b, 0, none⟩), .int .i64 1, .int .i64 i, .int .i64 p, .int .i64 q]) Try.func56 rfl Try.ntmps56 rfl ?_
  intro a hA
  replace hA : St 77 [(0, _), (1, _), (2, _), (3, _), (4, _)] a := hA
  refine Ends.seq ?_
  refine Ends.region ?_
  refine S.val hA (R.assign rfl) rfl ?_; clear hA a; intro a hA
  refine S.val hA (R.assign rfl) rfl ?_; clear hA a; intro a hA
  refine S.val hA (R.assign rfl) rfl ?_; clear hA a; intro a hA
  refine S.done ?_
  replace hA : St 77 [(0, _), (1, _), (2, _), (3, _), (4, _), (10, _), (11, _), (12, _)] a := hA.sub ((.cons rfl (.cons rfl (.cons rfl (.cons rfl (.cons rfl (.cons rfl (.cons rfl (.cons rfl .nil)))))))))
  refine Ends.seq ?_
  refine Ends.seq ?_
  refine Ends.region ?_
  refine S.val hA (R.move rfl) rfl ?_; clear hA a; intro a hA
  refine S.val hA (R.tt (R.lss rfl rfl) (by omega)) rfl ?_; clear hA a; intro a hA
  refine S.val hA (R.move rfl) rfl ?_; clear hA a; intro a hA
  refine S.no (dj := 18) hA (by kernel_rfl) rfl rfl rfl ?_; clear hA a; intro a hA
  refine S.no (dj := 18) hA (by kernel_rfl) rfl rfl rfl ?_; clear hA a; intro a hA
  refine S.no (dj := 18) hA (by kernel_rfl) rfl rfl rfl ?_; clear hA a; intro a hA
  refine S.no (dj := 18) hA (by kernel_rfl) rfl rfl rfl ?_; clear hA a; intro a hA
  refine S.no (dj := 18) hA (by kernel_rfl) rfl rfl rfl ?_; clear hA a; intro a hA
  refine S.no (dj := 18) hA (by kernel_rfl) rfl rfl rfl ?_; clear hA a; intro a hA
  refine S.no (dj := 18) hA (by kernel_rfl) rfl rfl rfl ?_; clear hA a; intro a hA
  refine S.val hA (R.pickT rfl rfl) rfl ?_; clear hA a; intro a hA
  refine S.done ?_
  replace hA : St 77 [(0, _), (1, _), (2, _), (3, _), (4, _), (10, _), (11, _), (12, _), (26, _)] a := hA.sub ((.cons rfl (.cons rfl (.cons rfl (.cons rfl (.cons rfl (.cons rfl (.cons rfl (.cons rfl (.cons rfl .nil))))))))))
  refine Ends.condT hA rfl ?_
  refine Ends.seq ?_
  refine Ends.region ?_
  refine S.val hA (R.assign rfl) rfl ?_; clear hA a; intro a hA
  refine S.val hA (R.assign rfl) rfl ?_; clear hA a; intro a hA
  refine S.val hA (R.assign rfl) rfl ?_; clear hA a; intro a hA
  refine S.done ?_
  replace hA : St 77 [(0, _), (1, _), (2, _), (3, _), (4, _), (10, _), (11, _), (12, _)] a := hA.sub ((.cons rfl (.cons rfl (.cons rfl (.cons rfl (.cons rfl (.cons rfl (.cons rfl (.cons rfl .nil)))))))))
  refine Ends.ret3 Try.func56 Try.results56 hA rfl rfl rfl ?_
  exact ⟨rfl, (show Mem w (two b c) _ _ from hM).join⟩
set_option maxRecDepth 100000 in
set_option maxHeartbeats 400000 in
theorem rdo1_high (b c : Nat) (l : List Int) (s : Int) (o : CellOp) (hbc : b ≠ c) (i p q : Int) (h0 : 0 ≤ i) (h1 : l.length ≤ i) (w : World) (hm : (refO b c l s o).holds w) :
    Calls Try.prog 56 #[.pointer (some ⟨b, 0, none⟩), .int .i64 1, .int .i64 i, .int .i64 p, .int .i64 q] w fun e w' => e = .returned (.tuple #[.int .i64 0, .bool false, .int .i64 11]) ∧ Mem w (two b c) [refO b c l (s) o] w' := by
  have hM := refO.open hm hbc
  replace hM : Mem w (two b c) [pt b #[.slice (some ⟨c, 0, none⟩) l.length l.length, .int .i64 s, .int .i64 o.kind, .int .i64 o.cell, .int .i64 o.old, .int .i64 o.new, .bool o.done] 85, pt c ((ints l)) 3] w := hM
  refine Calls.of_ends (vs := [.pointer (some ⟨b, 0, none⟩), .int .i64 1, .int .i64 i, .int .i64 p, .int .i64 q]) Try.func56 rfl Try.ntmps56 rfl ?_
  intro a hA
  replace hA : St 77 [(0, _), (1, _), (2, _), (3, _), (4, _)] a := hA
  refine Ends.seq ?_
  refine Ends.region ?_
  refine S.val hA (R.assign rfl) rfl ?_; clear hA a; intro a hA
  refine S.val hA (R.assign rfl) rfl ?_; clear hA a; intro a hA
  refine S.val hA (R.assign rfl) rfl ?_; clear hA a; intro a hA
  refine S.done ?_
  replace hA : St 77 [(0, _), (1, _), (2, _), (3, _), (4, _), (10, _), (11, _), (12, _)] a := hA.sub ((.cons rfl (.cons rfl (.cons rfl (.cons rfl (.cons rfl (.cons rfl (.cons rfl (.cons rfl .nil)))))))))
  refine Ends.seq ?_
  refine Ends.seq ?_
  refine Ends.region ?_
  refine S.val hA (R.move rfl) rfl ?_; clear hA a; intro a hA
  refine S.val hA (R.ff (R.lss rfl rfl) (by omega)) rfl ?_; clear hA a; intro a hA
  refine S.val hA (R.move rfl) rfl ?_; clear hA a; intro a hA
  refine S.valg (dj := 18) hA (by kernel_rfl) rfl (R.move rfl) rfl ?_; clear hA a; intro a hA
  refine S.valg (dj := 18) hA (by kernel_rfl) rfl (R.move rfl) rfl ?_; clear hA a; intro a hA
  refine S.valg (dj := 18) hA (by kernel_rfl) rfl (R.nilCheck rfl) rfl ?_; clear hA a; intro a hA
  refine S.valg (dj := 18) hA (by kernel_rfl) rfl (R.fieldAddr (q := 0) fi85_0 rfl rfl rfl) rfl ?_; clear hA a; intro a hA
  refine S.valg (dj := 18) hA (by kernel_rfl) rfl (R.load sz40 rfl (hM.cell (k := 0) rfl rfl)) rfl ?_; clear hA a; intro a hA
  refine S.valg (dj := 18) hA (by kernel_rfl) rfl (R.lenS Try.underlying40 rfl rfl) rfl ?_; clear hA a; intro a hA
  refine S.valg (dj := 18) hA (by kernel_rfl) rfl (R.tt (R.geq rfl rfl) (by omega)) rfl ?_; clear hA a; intro a hA
  refine S.val hA (R.pickF rfl rfl) rfl ?_; clear hA a; intro a hA
  refine S.done ?_
  replace hA : St 77 [(0, _), (1, _), (2, _), (3, _), (4, _), (10, _), (11, _), (12, _), (26, _)] a := hA.sub ((.cons rfl (.cons rfl (.cons rfl (.cons rfl (.cons rfl (.cons rfl (.cons rfl (.cons rfl (.cons rfl .nil))))))))))
  refine Ends.condT hA rfl ?_
  refine Ends.seq ?_
  refine Ends.region ?_
  refine S.val hA (R.assign rfl) rfl ?_; clear hA a; intro a hA
  refine S.val hA (R.assign rfl) rfl ?_; clear hA a; intro a hA
  refine S.val hA (R.assign rfl) rfl ?_; clear hA a; intro a hA
  refine S.done ?_
  replace hA : St 77 [(0, _), (1, _), (2, _), (3, _), (4, _), (10, _), (11, _), (12, _)] a := hA.sub ((.cons rfl (.cons rfl (.cons rfl (.cons rfl (.cons rfl (.cons rfl (.cons rfl (.cons rfl .nil)))))))))
  refine Ends.ret3 Try.func56 Try.results56 hA rfl rfl rfl ?_
  exact ⟨rfl, (show Mem w (two b c) _ _ from hM).join⟩
set_option maxRecDepth 100000 in
set_option maxHeartbeats 400000 in
theorem rdo2_low (b c : Nat) (l : List Int) (s : Int) (o : CellOp) (hbc : b ≠ c) (i p q : Int) (h0 : i < 0) (w : World) (hm : (refO b c l s o).holds w) :
    Calls Try.prog 56 #[.pointer (some ⟨b, 0, none⟩), .int .i64 2, .int .i64 i, .int .i64 p, .int .i64 q] w fun e w' => e = .returned (.tuple #[.int .i64 0, .bool false, .int .i64 11]) ∧ Mem w (two b c) [refO b c l (s) o] w' := by
  have hM := refO.open hm hbc
  replace hM : Mem w (two b c) [pt b #[.slice (some ⟨c, 0, none⟩) l.length l.length, .int .i64 s, .int .i64 o.kind, .int .i64 o.cell, .int .i64 o.old, .int .i64 o.new, .bool o.done] 85, pt c ((ints l)) 3] w := hM
  refine Calls.of_ends (vs := [.pointer (some ⟨b, 0, none⟩), .int .i64 2, .int .i64 i, .int .i64 p, .int .i64 q]) Try.func56 rfl Try.ntmps56 rfl ?_
  intro a hA
  replace hA : St 77 [(0, _), (1, _), (2, _), (3, _), (4, _)] a := hA
  refine Ends.seq ?_
  refine Ends.region ?_
  refine S.val hA (R.assign rfl) rfl ?_; clear hA a; intro a hA
  refine S.val hA (R.assign rfl) rfl ?_; clear hA a; intro a hA
  refine S.val hA (R.assign rfl) rfl ?_; clear hA a; intro a hA
  refine S.done ?_
  replace hA : St 77 [(0, _), (1, _), (2, _), (3, _), (4, _), (10, _), (11, _), (12, _)] a := hA.sub ((.cons rfl (.cons rfl (.cons rfl (.cons rfl (.cons rfl (.cons rfl (.cons rfl (.cons rfl .nil)))))))))
  refine Ends.seq ?_
  refine Ends.seq ?_
  refine Ends.region ?_
  refine S.val hA (R.move rfl) rfl ?_; clear hA a; intro a hA
  refine S.val hA (R.tt (R.lss rfl rfl) (by omega)) rfl ?_; clear hA a; intro a hA
  refine S.val hA (R.move rfl) rfl ?_; clear hA a; intro a hA
  refine S.no (dj := 18) hA (by kernel_rfl) rfl rfl rfl ?_; clear hA a; intro a hA
  refine S.no (dj := 18) hA (by kernel_rfl) rfl rfl rfl ?_; clear hA a; intro a hA
  refine S.no (dj := 18) hA (by kernel_rfl) rfl rfl rfl ?_; clear hA a; intro a hA
  refine S.no (dj := 18) hA (by kernel_rfl) rfl rfl rfl ?_; clear hA a; intro a hA
  refine S.no (dj := 18) hA (by kernel_rfl) rfl rfl rfl ?_; clear hA a; intro a hA
  refine S.no (dj := 18) hA (by kernel_rfl) rfl rfl rfl ?_; clear hA a; intro a hA
  refine S.no (dj := 18) hA (by kernel_rfl) rfl rfl rfl ?_; clear hA a; intro a hA
  refine S.val hA (R.pickT rfl rfl) rfl ?_; clear hA a; intro a hA
  refine S.done ?_
  replace hA : St 77 [(0, _), (1, _), (2, _), (3, _), (4, _), (10, _), (11, _), (12, _), (26, _)] a := hA.sub ((.cons rfl (.cons rfl (.cons rfl (.cons rfl (.cons rfl (.cons rfl (.cons rfl (.cons rfl (.cons rfl .nil))))))))))
  refine Ends.condT hA rfl ?_
  refine Ends.seq ?_
  refine Ends.region ?_
  refine S.val hA (R.assign rfl) rfl ?_; clear hA a; intro a hA
  refine S.val hA (R.assign rfl) rfl ?_; clear hA a; intro a hA
  refine S.val hA (R.assign rfl) rfl ?_; clear hA a; intro a hA
  refine S.done ?_
  replace hA : St 77 [(0, _), (1, _), (2, _), (3, _), (4, _), (10, _), (11, _), (12, _)] a := hA.sub ((.cons rfl (.cons rfl (.cons rfl (.cons rfl (.cons rfl (.cons rfl (.cons rfl (.cons rfl .nil)))))))))
  refine Ends.ret3 Try.func56 Try.results56 hA rfl rfl rfl ?_
  exact ⟨rfl, (show Mem w (two b c) _ _ from hM).join⟩
set_option maxRecDepth 100000 in
set_option maxHeartbeats 400000 in
theorem rdo2_high (b c : Nat) (l : List Int) (s : Int) (o : CellOp) (hbc : b ≠ c) (i p q : Int) (h0 : 0 ≤ i) (h1 : l.length ≤ i) (w : World) (hm : (refO b c l s o).holds w) :
    Calls Try.prog 56 #[.pointer (some ⟨b, 0, none⟩), .int .i64 2, .int .i64 i, .int .i64 p, .int .i64 q] w fun e w' => e = .returned (.tuple #[.int .i64 0, .bool false, .int .i64 11]) ∧ Mem w (two b c) [refO b c l (s) o] w' := by
  have hM := refO.open hm hbc
  replace hM : Mem w (two b c) [pt b #[.slice (some ⟨c, 0, none⟩) l.length l.length, .int .i64 s, .int .i64 o.kind, .int .i64 o.cell, .int .i64 o.old, .int .i64 o.new, .bool o.done] 85, pt c ((ints l)) 3] w := hM
  refine Calls.of_ends (vs := [.pointer (some ⟨b, 0, none⟩), .int .i64 2, .int .i64 i, .int .i64 p, .int .i64 q]) Try.func56 rfl Try.ntmps56 rfl ?_
  intro a hA
  replace hA : St 77 [(0, _), (1, _), (2, _), (3, _), (4, _)] a := hA
  refine Ends.seq ?_
  refine Ends.region ?_
  refine S.val hA (R.assign rfl) rfl ?_; clear hA a; intro a hA
  refine S.val hA (R.assign rfl) rfl ?_; clear hA a; intro a hA
  refine S.val hA (R.assign rfl) rfl ?_; clear hA a; intro a hA
  refine S.done ?_
  replace hA : St 77 [(0, _), (1, _), (2, _), (3, _), (4, _), (10, _), (11, _), (12, _)] a := hA.sub ((.cons rfl (.cons rfl (.cons rfl (.cons rfl (.cons rfl (.cons rfl (.cons rfl (.cons rfl .nil)))))))))
  refine Ends.seq ?_
  refine Ends.seq ?_
  refine Ends.region ?_
  refine S.val hA (R.move rfl) rfl ?_; clear hA a; intro a hA
  refine S.val hA (R.ff (R.lss rfl rfl) (by omega)) rfl ?_; clear hA a; intro a hA
  refine S.val hA (R.move rfl) rfl ?_; clear hA a; intro a hA
  refine S.valg (dj := 18) hA (by kernel_rfl) rfl (R.move rfl) rfl ?_; clear hA a; intro a hA
  refine S.valg (dj := 18) hA (by kernel_rfl) rfl (R.move rfl) rfl ?_; clear hA a; intro a hA
  refine S.valg (dj := 18) hA (by kernel_rfl) rfl (R.nilCheck rfl) rfl ?_; clear hA a; intro a hA
  refine S.valg (dj := 18) hA (by kernel_rfl) rfl (R.fieldAddr (q := 0) fi85_0 rfl rfl rfl) rfl ?_; clear hA a; intro a hA
  refine S.valg (dj := 18) hA (by kernel_rfl) rfl (R.load sz40 rfl (hM.cell (k := 0) rfl rfl)) rfl ?_; clear hA a; intro a hA
  refine S.valg (dj := 18) hA (by kernel_rfl) rfl (R.lenS Try.underlying40 rfl rfl) rfl ?_; clear hA a; intro a hA
  refine S.valg (dj := 18) hA (by kernel_rfl) rfl (R.tt (R.geq rfl rfl) (by omega)) rfl ?_; clear hA a; intro a hA
  refine S.val hA (R.pickF rfl rfl) rfl ?_; clear hA a; intro a hA
  refine S.done ?_
  replace hA : St 77 [(0, _), (1, _), (2, _), (3, _), (4, _), (10, _), (11, _), (12, _), (26, _)] a := hA.sub ((.cons rfl (.cons rfl (.cons rfl (.cons rfl (.cons rfl (.cons rfl (.cons rfl (.cons rfl (.cons rfl .nil))))))))))
  refine Ends.condT hA rfl ?_
  refine Ends.seq ?_
  refine Ends.region ?_
  refine S.val hA (R.assign rfl) rfl ?_; clear hA a; intro a hA
  refine S.val hA (R.assign rfl) rfl ?_; clear hA a; intro a hA
  refine S.val hA (R.assign rfl) rfl ?_; clear hA a; intro a hA
  refine S.done ?_
  replace hA : St 77 [(0, _), (1, _), (2, _), (3, _), (4, _), (10, _), (11, _), (12, _)] a := hA.sub ((.cons rfl (.cons rfl (.cons rfl (.cons rfl (.cons rfl (.cons rfl (.cons rfl (.cons rfl .nil)))))))))
  refine Ends.ret3 Try.func56 Try.results56 hA rfl rfl rfl ?_
  exact ⟨rfl, (show Mem w (two b c) _ _ from hM).join⟩
set_option maxRecDepth 100000 in
set_option maxHeartbeats 400000 in
theorem rdo3_low (b c : Nat) (l : List Int) (s : Int) (o : CellOp) (hbc : b ≠ c) (i p q : Int) (h0 : i < 0) (w : World) (hm : (refO b c l s o).holds w) :
    Calls Try.prog 56 #[.pointer (some ⟨b, 0, none⟩), .int .i64 3, .int .i64 i, .int .i64 p, .int .i64 q] w fun e w' => e = .returned (.tuple #[.int .i64 0, .bool false, .int .i64 11]) ∧ Mem w (two b c) [refO b c l (s) o] w' := by
  have hM := refO.open hm hbc
  replace hM : Mem w (two b c) [pt b #[.slice (some ⟨c, 0, none⟩) l.length l.length, .int .i64 s, .int .i64 o.kind, .int .i64 o.cell, .int .i64 o.old, .int .i64 o.new, .bool o.done] 85, pt c ((ints l)) 3] w := hM
  refine Calls.of_ends (vs := [.pointer (some ⟨b, 0, none⟩), .int .i64 3, .int .i64 i, .int .i64 p, .int .i64 q]) Try.func56 rfl Try.ntmps56 rfl ?_
  intro a hA
  replace hA : St 77 [(0, _), (1, _), (2, _), (3, _), (4, _)] a := hA
  refine Ends.seq ?_
  refine Ends.region ?_
  refine S.val hA (R.assign rfl) rfl ?_; clear hA a; intro a hA
  refine S.val hA (R.assign rfl) rfl ?_; clear hA a; intro a hA
  refine S.val hA (R.assign rfl) rfl ?_; clear hA a; intro a hA
  refine S.done ?_
  replace hA : St 77 [(0, _), (1, _), (2, _), (3, _), (4, _), (10, _), (11, _), (12, _)] a := hA.sub ((.cons rfl (.cons rfl (.cons rfl (.cons rfl (.cons rfl (.cons rfl (.cons rfl (.cons rfl .nil)))))))))
  refine Ends.seq ?_
  refine Ends.seq ?_
  refine Ends.region ?_
  refine S.val hA (R.move rfl) rfl ?_; clear hA a; intro a hA
  refine S.val hA (R.tt (R.lss rfl rfl) (by omega)) rfl ?_; clear hA a; intro a hA
  refine S.val hA (R.move rfl) rfl ?_; clear hA a; intro a hA
  refine S.no (dj := 18) hA (by kernel_rfl) rfl rfl rfl ?_; clear hA a; intro a hA
  refine S.no (dj := 18) hA (by kernel_rfl) rfl rfl rfl ?_; clear hA a; intro a hA
  refine S.no (dj := 18) hA (by kernel_rfl) rfl rfl rfl ?_; clear hA a; intro a hA
  refine S.no (dj := 18) hA (by kernel_rfl) rfl rfl rfl ?_; clear hA a; intro a hA
  refine S.no (dj := 18) hA (by kernel_rfl) rfl rfl rfl ?_; clear hA a; intro a hA
  refine S.no (dj := 18) hA (by kernel_rfl) rfl rfl rfl ?_; clear hA a; intro a hA
  refine S.no (dj := 18) hA (by kernel_rfl) rfl rfl rfl ?_; clear hA a; intro a hA
  refine S.val hA (R.pickT rfl rfl) rfl ?_; clear hA a; intro a hA
  refine S.done ?_
  replace hA : St 77 [(0, _), (1, _), (2, _), (3, _), (4, _), (10, _), (11, _), (12, _), (26, _)] a := hA.sub ((.cons rfl (.cons rfl (.cons rfl (.cons rfl (.cons rfl (.cons rfl (.cons rfl (.cons rfl (.cons rfl .nil))))))))))
  refine Ends.condT hA rfl ?_
  refine Ends.seq ?_
  refine Ends.region ?_
  refine S.val hA (R.assign rfl) rfl ?_; clear hA a; intro a hA
  refine S.val hA (R.assign rfl) rfl ?_; clear hA a; intro a hA
  refine S.val hA (R.assign rfl) rfl ?_; clear hA a; intro a hA
  refine S.done ?_
  replace hA : St 77 [(0, _), (1, _), (2, _), (3, _), (4, _), (10, _), (11, _), (12, _)] a := hA.sub ((.cons rfl (.cons rfl (.cons rfl (.cons rfl (.cons rfl (.cons rfl (.cons rfl (.cons rfl .nil)))))))))
  refine Ends.ret3 Try.func56 Try.results56 hA rfl rfl rfl ?_
  exact ⟨rfl, (show Mem w (two b c) _ _ from hM).join⟩
set_option maxRecDepth 100000 in
set_option maxHeartbeats 400000 in
theorem rdo3_high (b c : Nat) (l : List Int) (s : Int) (o : CellOp) (hbc : b ≠ c) (i p q : Int) (h0 : 0 ≤ i) (h1 : l.length ≤ i) (w : World) (hm : (refO b c l s o).holds w) :
    Calls Try.prog 56 #[.pointer (some ⟨b, 0, none⟩), .int .i64 3, .int .i64 i, .int .i64 p, .int .i64 q] w fun e w' => e = .returned (.tuple #[.int .i64 0, .bool false, .int .i64 11]) ∧ Mem w (two b c) [refO b c l (s) o] w' := by
  have hM := refO.open hm hbc
  replace hM : Mem w (two b c) [pt b #[.slice (some ⟨c, 0, none⟩) l.length l.length, .int .i64 s, .int .i64 o.kind, .int .i64 o.cell, .int .i64 o.old, .int .i64 o.new, .bool o.done] 85, pt c ((ints l)) 3] w := hM
  refine Calls.of_ends (vs := [.pointer (some ⟨b, 0, none⟩), .int .i64 3, .int .i64 i, .int .i64 p, .int .i64 q]) Try.func56 rfl Try.ntmps56 rfl ?_
  intro a hA
  replace hA : St 77 [(0, _), (1, _), (2, _), (3, _), (4, _)] a := hA
  refine Ends.seq ?_
  refine Ends.region ?_
  refine S.val hA (R.assign rfl) rfl ?_; clear hA a; intro a hA
  refine S.val hA (R.assign rfl) rfl ?_; clear hA a; intro a hA
  refine S.val hA (R.assign rfl) rfl ?_; clear hA a; intro a hA
  refine S.done ?_
  replace hA : St 77 [(0, _), (1, _), (2, _), (3, _), (4, _), (10, _), (11, _), (12, _)] a := hA.sub ((.cons rfl (.cons rfl (.cons rfl (.cons rfl (.cons rfl (.cons rfl (.cons rfl (.cons rfl .nil)))))))))
  refine Ends.seq ?_
  refine Ends.seq ?_
  refine Ends.region ?_
  refine S.val hA (R.move rfl) rfl ?_; clear hA a; intro a hA
  refine S.val hA (R.ff (R.lss rfl rfl) (by omega)) rfl ?_; clear hA a; intro a hA
  refine S.val hA (R.move rfl) rfl ?_; clear hA a; intro a hA
  refine S.valg (dj := 18) hA (by kernel_rfl) rfl (R.move rfl) rfl ?_; clear hA a; intro a hA
  refine S.valg (dj := 18) hA (by kernel_rfl) rfl (R.move rfl) rfl ?_; clear hA a; intro a hA
  refine S.valg (dj := 18) hA (by kernel_rfl) rfl (R.nilCheck rfl) rfl ?_; clear hA a; intro a hA
  refine S.valg (dj := 18) hA (by kernel_rfl) rfl (R.fieldAddr (q := 0) fi85_0 rfl rfl rfl) rfl ?_; clear hA a; intro a hA
  refine S.valg (dj := 18) hA (by kernel_rfl) rfl (R.load sz40 rfl (hM.cell (k := 0) rfl rfl)) rfl ?_; clear hA a; intro a hA
  refine S.valg (dj := 18) hA (by kernel_rfl) rfl (R.lenS Try.underlying40 rfl rfl) rfl ?_; clear hA a; intro a hA
  refine S.valg (dj := 18) hA (by kernel_rfl) rfl (R.tt (R.geq rfl rfl) (by omega)) rfl ?_; clear hA a; intro a hA
  refine S.val hA (R.pickF rfl rfl) rfl ?_; clear hA a; intro a hA
  refine S.done ?_
  replace hA : St 77 [(0, _), (1, _), (2, _), (3, _), (4, _), (10, _), (11, _), (12, _), (26, _)] a := hA.sub ((.cons rfl (.cons rfl (.cons rfl (.cons rfl (.cons rfl (.cons rfl (.cons rfl (.cons rfl (.cons rfl .nil))))))))))
  refine Ends.condT hA rfl ?_
  refine Ends.seq ?_
  refine Ends.region ?_
  refine S.val hA (R.assign rfl) rfl ?_; clear hA a; intro a hA
  refine S.val hA (R.assign rfl) rfl ?_; clear hA a; intro a hA
  refine S.val hA (R.assign rfl) rfl ?_; clear hA a; intro a hA
  refine S.done ?_
  replace hA : St 77 [(0, _), (1, _), (2, _), (3, _), (4, _), (10, _), (11, _), (12, _)] a := hA.sub ((.cons rfl (.cons rfl (.cons rfl (.cons rfl (.cons rfl (.cons rfl (.cons rfl (.cons rfl .nil)))))))))
  refine Ends.ret3 Try.func56 Try.results56 hA rfl rfl rfl ?_
  exact ⟨rfl, (show Mem w (two b c) _ _ from hM).join⟩
set_option maxRecDepth 100000 in
set_option maxHeartbeats 400000 in
theorem rdo4_low (b c : Nat) (l : List Int) (s : Int) (o : CellOp) (hbc : b ≠ c) (i p q : Int) (h0 : i < 0) (w : World) (hm : (refO b c l s o).holds w) :
    Calls Try.prog 56 #[.pointer (some ⟨b, 0, none⟩), .int .i64 4, .int .i64 i, .int .i64 p, .int .i64 q] w fun e w' => e = .returned (.tuple #[.int .i64 0, .bool false, .int .i64 11]) ∧ Mem w (two b c) [refO b c l (s) o] w' := by
  have hM := refO.open hm hbc
  replace hM : Mem w (two b c) [pt b #[.slice (some ⟨c, 0, none⟩) l.length l.length, .int .i64 s, .int .i64 o.kind, .int .i64 o.cell, .int .i64 o.old, .int .i64 o.new, .bool o.done] 85, pt c ((ints l)) 3] w := hM
  refine Calls.of_ends (vs := [.pointer (some ⟨b, 0, none⟩), .int .i64 4, .int .i64 i, .int .i64 p, .int .i64 q]) Try.func56 rfl Try.ntmps56 rfl ?_
  intro a hA
  replace hA : St 77 [(0, _), (1, _), (2, _), (3, _), (4, _)] a := hA
  refine Ends.seq ?_
  refine Ends.region ?_
  refine S.val hA (R.assign rfl) rfl ?_; clear hA a; intro a hA
  refine S.val hA (R.assign rfl) rfl ?_; clear hA a; intro a hA
  refine S.val hA (R.assign rfl) rfl ?_; clear hA a; intro a hA
  refine S.done ?_
  replace hA : St 77 [(0, _), (1, _), (2, _), (3, _), (4, _), (10, _), (11, _), (12, _)] a := hA.sub ((.cons rfl (.cons rfl (.cons rfl (.cons rfl (.cons rfl (.cons rfl (.cons rfl (.cons rfl .nil)))))))))
  refine Ends.seq ?_
  refine Ends.seq ?_
  refine Ends.region ?_
  refine S.val hA (R.move rfl) rfl ?_; clear hA a; intro a hA
  refine S.val hA (R.tt (R.lss rfl rfl) (by omega)) rfl ?_; clear hA a; intro a hA
  refine S.val hA (R.move rfl) rfl ?_; clear hA a; intro a hA
  refine S.no (dj := 18) hA (by kernel_rfl) rfl rfl rfl ?_; clear hA a; intro a hA
  refine S.no (dj := 18) hA (by kernel_rfl) rfl rfl rfl ?_; clear hA a; intro a hA
  refine S.no (dj := 18) hA (by kernel_rfl) rfl rfl rfl ?_; clear hA a; intro a hA
  refine S.no (dj := 18) hA (by kernel_rfl) rfl rfl rfl ?_; clear hA a; intro a hA
  refine S.no (dj := 18) hA (by kernel_rfl) rfl rfl rfl ?_; clear hA a; intro a hA
  refine S.no (dj := 18) hA (by kernel_rfl) rfl rfl rfl ?_; clear hA a; intro a hA
  refine S.no (dj := 18) hA (by kernel_rfl) rfl rfl rfl ?_; clear hA a; intro a hA
  refine S.val hA (R.pickT rfl rfl) rfl ?_; clear hA a; intro a hA
  refine S.done ?_
  replace hA : St 77 [(0, _), (1, _), (2, _), (3, _), (4, _), (10, _), (11, _), (12, _), (26, _)] a := hA.sub ((.cons rfl (.cons rfl (.cons rfl (.cons rfl (.cons rfl (.cons rfl (.cons rfl (.cons rfl (.cons rfl .nil))))))))))
  refine Ends.condT hA rfl ?_
  refine Ends.seq ?_
  refine Ends.region ?_
  refine S.val hA (R.assign rfl) rfl ?_; clear hA a; intro a hA
  refine S.val hA (R.assign rfl) rfl ?_; clear hA a; intro a hA
  refine S.val hA (R.assign rfl) rfl ?_; clear hA a; intro a hA
  refine S.done ?_
  replace hA : St 77 [(0, _), (1, _), (2, _), (3, _), (4, _), (10, _), (11, _), (12, _)] a := hA.sub ((.cons rfl (.cons rfl (.cons rfl (.cons rfl (.cons rfl (.cons rfl (.cons rfl (.cons rfl .nil)))))))))
  refine Ends.ret3 Try.func56 Try.results56 hA rfl rfl rfl ?_
  exact ⟨rfl, (show Mem w (two b c) _ _ from hM).join⟩
set_option maxRecDepth 100000 in
set_option maxHeartbeats 400000 in
theorem rdo4_high (b c : Nat) (l : List Int) (s : Int) (o : CellOp) (hbc : b ≠ c) (i p q : Int) (h0 : 0 ≤ i) (h1 : l.length ≤ i) (w : World) (hm : (refO b c l s o).holds w) :
    Calls Try.prog 56 #[.pointer (some ⟨b, 0, none⟩), .int .i64 4, .int .i64 i, .int .i64 p, .int .i64 q] w fun e w' => e = .returned (.tuple #[.int .i64 0, .bool false, .int .i64 11]) ∧ Mem w (two b c) [refO b c l (s) o] w' := by
  have hM := refO.open hm hbc
  replace hM : Mem w (two b c) [pt b #[.slice (some ⟨c, 0, none⟩) l.length l.length, .int .i64 s, .int .i64 o.kind, .int .i64 o.cell, .int .i64 o.old, .int .i64 o.new, .bool o.done] 85, pt c ((ints l)) 3] w := hM
  refine Calls.of_ends (vs := [.pointer (some ⟨b, 0, none⟩), .int .i64 4, .int .i64 i, .int .i64 p, .int .i64 q]) Try.func56 rfl Try.ntmps56 rfl ?_
  intro a hA
  replace hA : St 77 [(0, _), (1, _), (2, _), (3, _), (4, _)] a := hA
  refine Ends.seq ?_
  refine Ends.region ?_
  refine S.val hA (R.assign rfl) rfl ?_; clear hA a; intro a hA
  refine S.val hA (R.assign rfl) rfl ?_; clear hA a; intro a hA
  refine S.val hA (R.assign rfl) rfl ?_; clear hA a; intro a hA
  refine S.done ?_
  replace hA : St 77 [(0, _), (1, _), (2, _), (3, _), (4, _), (10, _), (11, _), (12, _)] a := hA.sub ((.cons rfl (.cons rfl (.cons rfl (.cons rfl (.cons rfl (.cons rfl (.cons rfl (.cons rfl .nil)))))))))
  refine Ends.seq ?_
  refine Ends.seq ?_
  refine Ends.region ?_
  refine S.val hA (R.move rfl) rfl ?_; clear hA a; intro a hA
  refine S.val hA (R.ff (R.lss rfl rfl) (by omega)) rfl ?_; clear hA a; intro a hA
  refine S.val hA (R.move rfl) rfl ?_; clear hA a; intro a hA
  refine S.valg (dj := 18) hA (by kernel_rfl) rfl (R.move rfl) rfl ?_; clear hA a; intro a hA
  refine S.valg (dj := 18) hA (by kernel_rfl) rfl (R.move rfl) rfl ?_; clear hA a; intro a hA
  refine S.valg (dj := 18) hA (by kernel_rfl) rfl (R.nilCheck rfl) rfl ?_; clear hA a; intro a hA
  refine S.valg (dj := 18) hA (by kernel_rfl) rfl (R.fieldAddr (q := 0) fi85_0 rfl rfl rfl) rfl ?_; clear hA a; intro a hA
  refine S.valg (dj := 18) hA (by kernel_rfl) rfl (R.load sz40 rfl (hM.cell (k := 0) rfl rfl)) rfl ?_; clear hA a; intro a hA
  refine S.valg (dj := 18) hA (by kernel_rfl) rfl (R.lenS Try.underlying40 rfl rfl) rfl ?_; clear hA a; intro a hA
  refine S.valg (dj := 18) hA (by kernel_rfl) rfl (R.tt (R.geq rfl rfl) (by omega)) rfl ?_; clear hA a; intro a hA
  refine S.val hA (R.pickF rfl rfl) rfl ?_; clear hA a; intro a hA
  refine S.done ?_
  replace hA : St 77 [(0, _), (1, _), (2, _), (3, _), (4, _), (10, _), (11, _), (12, _), (26, _)] a := hA.sub ((.cons rfl (.cons rfl (.cons rfl (.cons rfl (.cons rfl (.cons rfl (.cons rfl (.cons rfl (.cons rfl .nil))))))))))
  refine Ends.condT hA rfl ?_
  refine Ends.seq ?_
  refine Ends.region ?_
  refine S.val hA (R.assign rfl) rfl ?_; clear hA a; intro a hA
  refine S.val hA (R.assign rfl) rfl ?_; clear hA a; intro a hA
  refine S.val hA (R.assign rfl) rfl ?_; clear hA a; intro a hA
  refine S.done ?_
  replace hA : St 77 [(0, _), (1, _), (2, _), (3, _), (4, _), (10, _), (11, _), (12, _)] a := hA.sub ((.cons rfl (.cons rfl (.cons rfl (.cons rfl (.cons rfl (.cons rfl (.cons rfl (.cons rfl .nil)))))))))
  refine Ends.ret3 Try.func56 Try.results56 hA rfl rfl rfl ?_
  exact ⟨rfl, (show Mem w (two b c) _ _ from hM).join⟩
theorem do_any (b c : Nat) (l : List Int) (s : Int) (o : CellOp) (hbc : b ≠ c) (hall : AllI l) (k_ x i p q : Int) (hk : k_ = 1 ∨ k_ = 2 ∨ k_ = 3 ∨ k_ = 4) (hp : -9223372036854775808 ≤ p ∧ p ≤ 9223372036854775807) (hs : 0 ≤ s ∧ s < 9223372036854775807) (w : World) (hm : (memO b c l s o).holds w) :
    Calls Try.prog 55 #[.pointer (some ⟨b, 0, none⟩), .agg #[.int .i64 x, .int .i64 i, .int .i64 p, .int .i64 q], .int .i64 k_] w fun e w' => e = .returned (.tuple #[.int .i64 (jobV l k_ i p).1, .bool (jobV l k_ i p).2.1, .int .i64 (jobV l k_ i p).2.2]) ∧ Mem w (two b c) [memO b c (jobL l k_ i p q) (jobN l s k_ i p) (jobO l o k_ i p q)] w' := by
  by_cases h0 : i < 0
  · have hi : i < 0 ∨ (l.length : Int) ≤ i := .inl h0
    rcases hk with rfl | rfl | rfl | rfl
    · simpa only [jobV, jobL, jobN, jobO, if_pos hi] using do1_low b c l s o hbc x i p q h0 w hm
    · simpa only [jobV, jobL, jobN, jobO, if_pos hi] using do2_low b c l s o hbc x i p q h0 w hm
    · simpa only [jobV, jobL, jobN, jobO, if_pos hi] using do3_low b c l s o hbc x i p q h0 w hm
    · simpa only [jobV, jobL, jobN, jobO, if_pos hi] using do4_low b c l s o hbc x i p q h0 w hm
  · have h0 : 0 ≤ i := by omega
    by_cases h1 : (l.length : Int) ≤ i
    · have hi : i < 0 ∨ (l.length : Int) ≤ i := .inr h1
      rcases hk with rfl | rfl | rfl | rfl
      · simpa only [jobV, jobL, jobN, jobO, if_pos hi] using do1_high b c l s o hbc x i p q h0 h1 w hm
      · simpa only [jobV, jobL, jobN, jobO, if_pos hi] using do2_high b c l s o hbc x i p q h0 h1 w hm
      · simpa only [jobV, jobL, jobN, jobO, if_pos hi] using do3_high b c l s o hbc x i p q h0 h1 w hm
      · simpa only [jobV, jobL, jobN, jobO, if_pos hi] using do4_high b c l s o hbc x i p q h0 h1 w hm
    · have h1 : i < l.length := by omega
      have hi : ¬ (i < 0 ∨ (l.length : Int) ≤ i) := by omega
      have hr := hall.at (i := i.toNat) (by omega)
      rcases hk with rfl | rfl | rfl | rfl
      · simpa only [jobV, jobL, jobN, jobO, if_neg hi, if_true, true_or] using do1_ok b c l s o hbc x i p q h0 h1 hs w hm
      · simpa [jobV, jobL, jobN, jobO, hi] using do2_ok b c l s o hbc x i p q h0 h1 hs w hm
      · by_cases hv : l.getD i.toNat 0 = p
        · have := do3_hit b c l s o hbc x i p q h0 h1 hs hv w hm
          simpa only [jobV, jobL, jobN, jobO, if_neg hi, show ¬ (3 : Int) = 1 by decide, show ¬ (3 : Int) = 2 by decide, if_false, if_true, or_true, hv, decide_true] using this
        · have := do3_not b c l s o hbc x i p q h0 h1 hs hv w hm
          simpa only [jobV, jobL, jobN, jobO, if_neg hi, show ¬ (3 : Int) = 1 by decide, show ¬ (3 : Int) = 2 by decide, if_false, if_true, or_true, if_neg hv, decide_eq_false hv] using this
      · by_cases hv : -9223372036854775808 ≤ l.getD i.toNat 0 + p ∧ l.getD i.toNat 0 + p ≤ 9223372036854775807
        · have := do4_ok b c l s o hbc x i p q h0 h1 hs hr hp hv w hm
          simpa only [jobV, jobL, jobN, jobO, if_neg hi, show ¬ (4 : Int) = 1 by decide, show ¬ (4 : Int) = 2 by decide, show ¬ (4 : Int) = 3 by decide, if_false, or_self, if_pos hv] using this
        · have := do4_over b c l s o hbc x i p q h0 h1 hr hp hv w hm
          simpa only [jobV, jobL, jobN, jobO, if_neg hi, show ¬ (4 : Int) = 1 by decide, show ¬ (4 : Int) = 2 by decide, show ¬ (4 : Int) = 3 by decide, if_false, or_self, if_neg hv] using this
theorem rdo_any (b c : Nat) (l : List Int) (s : Int) (o : CellOp) (hbc : b ≠ c) (hall : AllI l) (k_ i p q : Int) (hk : k_ = 1 ∨ k_ = 2 ∨ k_ = 3 ∨ k_ = 4) (hp : -9223372036854775808 ≤ p ∧ p ≤ 9223372036854775807) (hs : 0 ≤ s ∧ s < 9223372036854775807) (w : World) (hm : (refO b c l s o).holds w) :
    Calls Try.prog 56 #[.pointer (some ⟨b, 0, none⟩), .int .i64 k_, .int .i64 i, .int .i64 p, .int .i64 q] w fun e w' => e = .returned (.tuple #[.int .i64 (jobV l k_ i p).1, .bool (jobV l k_ i p).2.1, .int .i64 (jobV l k_ i p).2.2]) ∧ Mem w (two b c) [refO b c (jobL l k_ i p q) (jobN l s k_ i p) (jobO l o k_ i p q)] w' := by
  by_cases h0 : i < 0
  · have hi : i < 0 ∨ (l.length : Int) ≤ i := .inl h0
    rcases hk with rfl | rfl | rfl | rfl
    · simpa only [jobV, jobL, jobN, jobO, if_pos hi] using rdo1_low b c l s o hbc i p q h0 w hm
    · simpa only [jobV, jobL, jobN, jobO, if_pos hi] using rdo2_low b c l s o hbc i p q h0 w hm
    · simpa only [jobV, jobL, jobN, jobO, if_pos hi] using rdo3_low b c l s o hbc i p q h0 w hm
    · simpa only [jobV, jobL, jobN, jobO, if_pos hi] using rdo4_low b c l s o hbc i p q h0 w hm
  · have h0 : 0 ≤ i := by omega
    by_cases h1 : (l.length : Int) ≤ i
    · have hi : i < 0 ∨ (l.length : Int) ≤ i := .inr h1
      rcases hk with rfl | rfl | rfl | rfl
      · simpa only [jobV, jobL, jobN, jobO, if_pos hi] using rdo1_high b c l s o hbc i p q h0 h1 w hm
      · simpa only [jobV, jobL, jobN, jobO, if_pos hi] using rdo2_high b c l s o hbc i p q h0 h1 w hm
      · simpa only [jobV, jobL, jobN, jobO, if_pos hi] using rdo3_high b c l s o hbc i p q h0 h1 w hm
      · simpa only [jobV, jobL, jobN, jobO, if_pos hi] using rdo4_high b c l s o hbc i p q h0 h1 w hm
    · have h1 : i < l.length := by omega
      have hi : ¬ (i < 0 ∨ (l.length : Int) ≤ i) := by omega
      have hr := hall.at (i := i.toNat) (by omega)
      rcases hk with rfl | rfl | rfl | rfl
      · simpa only [jobV, jobL, jobN, jobO, if_neg hi, if_true, true_or] using rdo1_ok b c l s o hbc i p q h0 h1 hs w hm
      · simpa [jobV, jobL, jobN, jobO, hi] using rdo2_ok b c l s o hbc i p q h0 h1 hs w hm
      · by_cases hv : l.getD i.toNat 0 = p
        · have := rdo3_hit b c l s o hbc i p q h0 h1 hs hv w hm
          simpa only [jobV, jobL, jobN, jobO, if_neg hi, show ¬ (3 : Int) = 1 by decide, show ¬ (3 : Int) = 2 by decide, if_false, if_true, or_true, hv, decide_true] using this
        · have := rdo3_not b c l s o hbc i p q h0 h1 hs hv w hm
          simpa only [jobV, jobL, jobN, jobO, if_neg hi, show ¬ (3 : Int) = 1 by decide, show ¬ (3 : Int) = 2 by decide, if_false, if_true, or_true, if_neg hv, decide_eq_false hv] using this
      · by_cases hv : -9223372036854775808 ≤ l.getD i.toNat 0 + p ∧ l.getD i.toNat 0 + p ≤ 9223372036854775807
        · have := rdo4_ok b c l s o hbc i p q h0 h1 hs hr hp hv w hm
          simpa only [jobV, jobL, jobN, jobO, if_neg hi, show ¬ (4 : Int) = 1 by decide, show ¬ (4 : Int) = 2 by decide, show ¬ (4 : Int) = 3 by decide, if_false, or_self, if_pos hv] using this
        · have := rdo4_over b c l s o hbc i p q h0 h1 hr hp hv w hm
          simpa only [jobV, jobL, jobN, jobO, if_neg hi, show ¬ (4 : Int) = 1 by decide, show ¬ (4 : Int) = 2 by decide, show ¬ (4 : Int) = 3 by decide, if_false, or_self, if_neg hv] using this
end Go.Proofs.Ytlkemphhbamcfaa
