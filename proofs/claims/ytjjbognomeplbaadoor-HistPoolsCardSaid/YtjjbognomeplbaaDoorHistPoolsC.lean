/-
  HistPools, part 3 of 5: what the code computes, and plain laws; no condition beside those that each theorem tells.
-/
import Derived.Test.YtjjbognomeplbaaDoorHistPoolsB
namespace Go.Proofs.YtjjbognomeplbaaDoor
open Go.RowKit
set_option maxRecDepth 100000 in
set_option maxHeartbeats 400000 in
theorem find_ok (b c : Nat) (l : List Int) (s : Int) (o : CellOp) (hne : b ≠ c) (i : Int) (h0 : 0 ≤ i) (h1 : i < l.length) (w : World) (hm : (memO b c l s o).holds w) :
  Calls Tryd.prog 35 #[.pointer (some ⟨b, 0, none⟩), .int .i64 i] w fun e w' => e = .returned (.int .i64 0) ∧ w = w' := by
 have hM := memO.open hm hne
 replace hM : Mem w (two b c) [pt b #[.slice (some ⟨c, 0, none⟩) l.length l.length, .int .i64 s, .int .i64 o.kind, .int .i64 o.cell, .int .i64 o.old, .int .i64 o.new, .bool o.done] 69, pt c ((ints l)) 3] w := hM
 refine Calls.of_ends (vs := [.pointer (some ⟨b, 0, none⟩), .int .i64 i]) Tryd.func35 rfl Tryd.ntmps35 rfl ?_
 intro a hA
 replace hA : St 20 [(0, _), (1, _)] a := hA
 refine Ends.seq (Ends.region ?_)
 refine S.val hA (R.assign rfl) rfl ?_; clear hA a; intro a hA
 refine S.done ?_
 replace hA : St 20 [(0, _), (1, _), (4, _)] a := hA.sub ((.cons rfl (.cons rfl (.cons rfl .nil))))
 refine Ends.seq (Ends.block (Ends.seq (Ends.region ?_)))
 refine S.val hA (R.move rfl) rfl ?_; clear hA a; intro a hA
 refine S.val hA (R.eqlNil Tryd.underlying42 rfl rfl) rfl ?_; clear hA a; intro a hA
 refine S.val hA (R.assign rfl) rfl ?_; clear hA a; intro a hA
 refine S.done ?_
 replace hA : St 20 [(0, _), (1, _), (4, _), (5, _)] a := hA.sub ((.cons rfl (.cons rfl (.cons rfl (.cons rfl .nil)))))
 refine Ends.condF hA rfl ?_
 refine Ends.seq (Ends.region ?_)
 refine S.val hA (R.move rfl) rfl ?_; clear hA a; intro a hA
 refine S.val hA (R.ff (R.lss rfl rfl) (by omega)) rfl ?_; clear hA a; intro a hA
 refine S.val hA (R.move rfl) rfl ?_; clear hA a; intro a hA
 refine S.valg (dj := 11) hA (by kernel_rfl) rfl (R.move rfl) rfl ?_; clear hA a; intro a hA
 refine S.valg (dj := 11) hA (by kernel_rfl) rfl (R.move rfl) rfl ?_; clear hA a; intro a hA
 refine S.valg (dj := 11) hA (by kernel_rfl) rfl (R.nilCheck rfl) rfl ?_; clear hA a; intro a hA
 refine S.valg (dj := 11) hA (by kernel_rfl) rfl (R.fieldAddr (q := 0) fi69_0 rfl rfl rfl) rfl ?_; clear hA a; intro a hA
 refine S.valg (dj := 11) hA (by kernel_rfl) rfl (R.load sz22 rfl (hM.cell (k := 0) rfl rfl)) rfl ?_; clear hA a; intro a hA
 refine S.valg (dj := 11) hA (by kernel_rfl) rfl (R.lenS Tryd.underlying22 rfl rfl) rfl ?_; clear hA a; intro a hA
 refine S.valg (dj := 11) hA (by kernel_rfl) rfl (R.ff (R.geq rfl rfl) (by omega)) rfl ?_; clear hA a; intro a hA
 refine S.val hA (R.pickF rfl rfl) rfl ?_; clear hA a; intro a hA
 refine S.val hA (R.assign rfl) rfl ?_; clear hA a; intro a hA
 refine S.done ?_
 replace hA : St 20 [(4, _), (8, _)] a := hA.sub ((.cons rfl (.cons rfl .nil)))
 refine Ends.condF hA rfl ?_
 refine Ends.skip (Ends.inBlock (Ends.seq (Ends.region ?_)))
 refine S.val hA (R.assign rfl) rfl ?_; clear hA a; intro a hA
 refine S.done ?_
 replace hA : St 20 [(4, _)] a := hA.sub ((.cons rfl .nil))
 refine Ends.ret1 Tryd.func35 Tryd.results35 hA rfl ?_
 exact ⟨rfl, rfl⟩
set_option maxRecDepth 100000 in
set_option maxHeartbeats 400000 in
theorem step_ok (b c : Nat) (l : List Int) (s : Int) (o : CellOp) (hne : b ≠ c) (kind i n : Int) (done : Bool) (h0 : 0 ≤ i) (h1 : i < l.length) (hs : 0 ≤ s ∧ s < 9223372036854775807) (w : World) (hm : (memO b c l s o).holds w) :
  Calls Tryd.prog 36 #[.pointer (some ⟨b, 0, none⟩), .int .i64 kind, .int .i64 i, .int .i64 n, .bool done] w fun e w' => e = .returned (.int .i64 (l.getD i.toNat 0)) ∧ Mem w (two b c) [memO b c (l.set i.toNat n) (s + 1) ⟨kind, i, (l.getD i.toNat 0), n, done⟩] w' := by
 have hM := memO.open hm hne
 replace hM : Mem w (two b c) [pt b #[.slice (some ⟨c, 0, none⟩) l.length l.length, .int .i64 s, .int .i64 o.kind, .int .i64 o.cell, .int .i64 o.old, .int .i64 o.new, .bool o.done] 69, pt c ((ints l)) 3] w := hM
 refine Calls.of_ends (vs := [.pointer (some ⟨b, 0, none⟩), .int .i64 kind, .int .i64 i, .int .i64 n, .bool done]) Tryd.func36 rfl Tryd.ntmps36 rfl ?_
 intro a hA
 replace hA : St 43 [(0, _), (1, _), (2, _), (3, _), (4, _)] a := hA
 refine Ends.seq (Ends.region ?_)
 refine S.val hA (R.assign rfl) rfl ?_; clear hA a; intro a hA
 refine S.done ?_
 replace hA : St 43 [(0, _), (1, _), (2, _), (3, _), (4, _), (10, _)] a := hA.sub ((.cons rfl (.cons rfl (.cons rfl (.cons rfl (.cons rfl (.cons rfl .nil)))))))
 refine Ends.seq (Ends.region ?_)
 refine S.val hA (R.move rfl) rfl ?_; clear hA a; intro a hA
 refine S.val hA (R.nilCheck rfl) rfl ?_; clear hA a; intro a hA
 refine S.val hA (R.fieldAddr (q := 0) fi69_0 rfl rfl rfl) rfl ?_; clear hA a; intro a hA
 refine S.val hA (R.load sz22 rfl (hM.cell (k := 0) rfl rfl)) rfl ?_; clear hA a; intro a hA
 refine S.val hA (R.move rfl) rfl ?_; clear hA a; intro a hA
 refine S.val hA (R.indexAddr (q := i.toNat) sl22 rfl rfl (by omega) (by omega)) rfl ?_; clear hA a; intro a hA
 refine S.val hA (R.load sz3 rfl (hM.cell (k := 1) rfl (ints_getD l _ (by omega)))) rfl ?_; clear hA a; intro a hA
 refine S.val hA (R.assign rfl) rfl ?_; clear hA a; intro a hA
 refine S.done ?_
 replace hA : St 43 [(0, _), (1, _), (2, _), (3, _), (4, _), (10, _), (11, _)] a := hA.sub ((.cons rfl (.cons rfl (.cons rfl (.cons rfl (.cons rfl (.cons rfl (.cons rfl .nil))))))))
 refine Ends.seq (Ends.region ?_)
 refine S.val hA (R.move rfl) rfl ?_; clear hA a; intro a hA
 refine S.val hA (R.move rfl) rfl ?_; clear hA a; intro a hA
 refine S.val hA (R.move rfl) rfl ?_; clear hA a; intro a hA
 refine S.val hA (R.move rfl) rfl ?_; clear hA a; intro a hA
 refine S.val hA (R.move rfl) rfl ?_; clear hA a; intro a hA
 refine S.val hA (R.move rfl) rfl ?_; clear hA a; intro a hA
 refine S.val hA (R.build (cells := #[.int .i64 kind, .int .i64 i, .int .i64 (l.getD i.toNat 0), .int .i64 n, .bool done]) rfl (by kernel_rfl)) rfl ?_; clear hA a; intro a hA
 refine S.val hA (R.nilCheck rfl) rfl ?_; clear hA a; intro a hA
 refine S.val hA (R.fieldAddr (q := 2) fi69_2 rfl rfl rfl) rfl ?_; clear hA a; intro a hA
 refine S.storeA (k := 0) hA hM sz67 rfl rfl rfl rfl rfl rfl ?_; clear hM
 intro w1 hM
 replace hM : Mem _ _ [pt b #[.slice (some ⟨c, 0, none⟩) l.length l.length, .int .i64 s, .int .i64 kind, .int .i64 i, .int .i64 (l.getD i.toNat 0), .int .i64 n, .bool done] 69, pt c ((ints l)) 3] _ := hM
 refine S.done ?_
 replace hA : St 43 [(0, _), (2, _), (3, _), (10, _), (11, _)] a := hA.sub ((.cons rfl (.cons rfl (.cons rfl (.cons rfl (.cons rfl .nil))))))
 refine Ends.seq (Ends.region ?_)
 refine S.val hA (R.move rfl) rfl ?_; clear hA a; intro a hA
 refine S.val hA (R.nilCheck rfl) rfl ?_; clear hA a; intro a hA
 refine S.val hA (R.fieldAddr (q := 0) fi69_0 rfl rfl rfl) rfl ?_; clear hA a; intro a hA
 refine S.val hA (R.load sz22 rfl (hM.cell (k := 0) rfl rfl)) rfl ?_; clear hA a; intro a hA
 refine S.val hA (R.move rfl) rfl ?_; clear hA a; intro a hA
 refine S.val hA (R.move rfl) rfl ?_; clear hA a; intro a hA
 refine S.val hA (R.indexAddr (q := i.toNat) sl22 rfl rfl (by omega) (by omega)) rfl ?_; clear hA a; intro a hA
 refine S.store (k := 1) hA hM sz3 rfl rfl rfl rfl (ints_getD l _ (by omega)) ?_; clear hM
 intro w2 hM
 rw [ints_set] at hM
 replace hM : Mem _ _ [pt b #[.slice (some ⟨c, 0, none⟩) l.length l.length, .int .i64 s, .int .i64 kind, .int .i64 i, .int .i64 (l.getD i.toNat 0), .int .i64 n, .bool done] 69, pt c ((ints (l.set i.toNat n))) 3] _ := hM
 refine S.done ?_
 replace hA : St 43 [(0, _), (10, _), (11, _)] a := hA.sub ((.cons rfl (.cons rfl (.cons rfl .nil))))
 refine Ends.seq (Ends.region ?_)
 refine S.val hA (R.move rfl) rfl ?_; clear hA a; intro a hA
 refine S.val hA (R.nilCheck rfl) rfl ?_; clear hA a; intro a hA
 refine S.val hA (R.fieldAddr (q := 1) fi69_1 rfl rfl rfl) rfl ?_; clear hA a; intro a hA
 refine S.val hA (R.load sz3 rfl (hM.cell (k := 0) rfl rfl)) rfl ?_; clear hA a; intro a hA
 refine S.val hA (R.addI rfl rfl (r := s + 1) rfl (by omega)) rfl ?_; clear hA a; intro a hA
 refine S.val hA (R.nilCheck rfl) rfl ?_; clear hA a; intro a hA
 refine S.val hA (R.fieldAddr (q := 1) fi69_1 rfl rfl rfl) rfl ?_; clear hA a; intro a hA
 refine S.store (k := 0) hA hM sz3 rfl rfl rfl rfl rfl ?_; clear hM
 intro w3 hM
 replace hM : Mem _ _ [pt b #[.slice (some ⟨c, 0, none⟩) l.length l.length, .int .i64 (s + 1), .int .i64 kind, .int .i64 i, .int .i64 (l.getD i.toNat 0), .int .i64 n, .bool done] 69, pt c ((ints (l.set i.toNat n))) 3] _ := hM
 refine S.done ?_
 replace hA : St 43 [(10, _), (11, _)] a := hA.sub ((.cons rfl (.cons rfl .nil)))
 refine Ends.seq (Ends.region ?_)
 refine S.val hA (R.move rfl) rfl ?_; clear hA a; intro a hA
 refine S.val hA (R.assign rfl) rfl ?_; clear hA a; intro a hA
 refine S.done ?_
 replace hA : St 43 [(10, _)] a := hA.sub ((.cons rfl .nil))
 refine Ends.ret1 Tryd.func36 Tryd.results36 hA rfl ?_
 exact ⟨rfl, hM.toO (by simp)⟩
set_option maxRecDepth 100000 in
set_option maxHeartbeats 400000 in
theorem get_ok (b c : Nat) (l : List Int) (s : Int) (o : CellOp) (hne : b ≠ c) (i : Int) (h0 : 0 ≤ i) (h1 : i < l.length) (hs : 0 ≤ s ∧ s < 9223372036854775807) (w : World) (hm : (memO b c l s o).holds w) :
  Calls Tryd.prog 38 #[.pointer (some ⟨b, 0, none⟩), .int .i64 i] w fun e w' => e = .returned (.tuple #[.int .i64 (l.getD i.toNat 0), .int .i64 0]) ∧ Mem w (two b c) [memO b c (l.set i.toNat (l.getD i.toNat 0)) (s + 1) ⟨1, i, (l.getD i.toNat 0), (l.getD i.toNat 0), true⟩] w' := by
 have hM := memO.open hm hne
 replace hM : Mem w (two b c) [pt b #[.slice (some ⟨c, 0, none⟩) l.length l.length, .int .i64 s, .int .i64 o.kind, .int .i64 o.cell, .int .i64 o.old, .int .i64 o.new, .bool o.done] 69, pt c ((ints l)) 3] w := hM
 refine Calls.of_ends (vs := [.pointer (some ⟨b, 0, none⟩), .int .i64 i]) Tryd.func38 rfl Tryd.ntmps38 rfl ?_
 intro a hA
 replace hA : St 23 [(0, _), (1, _)] a := hA
 refine Ends.seq (Ends.region ?_)
 refine S.val hA (R.assign rfl) rfl ?_; clear hA a; intro a hA
 refine S.val hA (R.assign rfl) rfl ?_; clear hA a; intro a hA
 refine S.done ?_
 replace hA : St 23 [(0, _), (1, _), (4, _), (5, _)] a := hA.sub ((.cons rfl (.cons rfl (.cons rfl (.cons rfl .nil)))))
 refine Ends.seq (Ends.seq (Ends.region ?_))
 refine S.val hA (R.move rfl) rfl ?_; clear hA a; intro a hA
 refine S.val hA (R.move rfl) rfl ?_; clear hA a; intro a hA
 refine S.call hA (R.callF Tryd.func35 rfl rfl rfl) rfl (find_ok b c l s o hne i h0 h1 _ hm) ?_; clear hA a
 rintro e w1 ⟨rfl, rfl⟩
 refine ⟨.int .i64 0, rfl, fun a hA => ?_⟩
 refine S.val hA (R.assign rfl) rfl ?_; clear hA a; intro a hA
 refine S.done ?_
 replace hA : St 23 [(0, _), (1, _), (4, _), (5, _), (6, _)] a := hA.sub ((.cons rfl (.cons rfl (.cons rfl (.cons rfl (.cons rfl .nil))))))
 refine Ends.seq (Ends.region ?_)
 refine S.val hA (R.move rfl) rfl ?_; clear hA a; intro a hA
 refine S.val hA (R.ff (R.neq rfl rfl) (by first | decide | simp | omega)) rfl ?_; clear hA a; intro a hA
 refine S.done ?_
 replace hA : St 23 [(0, _), (1, _), (4, _), (5, _), (6, _), (11, _)] a := hA.sub ((.cons rfl (.cons rfl (.cons rfl (.cons rfl (.cons rfl (.cons rfl .nil)))))))
 refine Ends.condF hA rfl ?_
 refine Ends.skip (Ends.seq (Ends.region ?_))
 refine S.val hA (R.move rfl) rfl ?_; clear hA a; intro a hA
 refine S.val hA (R.move rfl) rfl ?_; clear hA a; intro a hA
 refine S.val hA (R.move rfl) rfl ?_; clear hA a; intro a hA
 refine S.val hA (R.nilCheck rfl) rfl ?_; clear hA a; intro a hA
 refine S.val hA (R.fieldAddr (q := 0) fi69_0 rfl rfl rfl) rfl ?_; clear hA a; intro a hA
 refine S.val hA (R.load sz22 rfl (hM.cell (k := 0) rfl rfl)) rfl ?_; clear hA a; intro a hA
 refine S.val hA (R.move rfl) rfl ?_; clear hA a; intro a hA
 refine S.val hA (R.indexAddr (q := i.toNat) sl22 rfl rfl (by omega) (by omega)) rfl ?_; clear hA a; intro a hA
 refine S.val hA (R.load sz3 rfl (hM.cell (k := 1) rfl (ints_getD l _ (by omega)))) rfl ?_; clear hA a; intro a hA
 refine S.call hA (R.callF Tryd.func36 rfl rfl rfl) rfl (step_ok b c l s o hne 1 i (l.getD i.toNat 0) true h0 h1 hs _ hm) ?_; clear hA a
 rintro e w2 ⟨rfl, hn⟩
 refine ⟨.int .i64 ((l.getD i.toNat 0)), rfl, fun a hA => ?_⟩
 refine S.val hA (R.assign rfl) rfl ?_; clear hA a; intro a hA
 refine S.val hA (R.assign rfl) rfl ?_; clear hA a; intro a hA
 refine S.done ?_
 replace hA : St 23 [(4, _), (5, _)] a := hA.sub ((.cons rfl (.cons rfl .nil)))
 refine Ends.ret2 Tryd.func38 Tryd.results38 hA rfl rfl ?_
 exact ⟨rfl, hn⟩
set_option maxRecDepth 100000 in
set_option maxHeartbeats 400000 in
theorem set_ok (b c : Nat) (l : List Int) (s : Int) (o : CellOp) (hne : b ≠ c) (i n : Int) (h0 : 0 ≤ i) (h1 : i < l.length) (hs : 0 ≤ s ∧ s < 9223372036854775807) (w : World) (hm : (memO b c l s o).holds w) :
  Calls Tryd.prog 25 #[.pointer (some ⟨b, 0, none⟩), .int .i64 i, .int .i64 n] w fun e w' => e = .returned (.int .i64 0) ∧ Mem w (two b c) [memO b c (l.set i.toNat n) (s + 1) ⟨2, i, (l.getD i.toNat 0), n, true⟩] w' := by
 have hM := memO.open hm hne
 replace hM : Mem w (two b c) [pt b #[.slice (some ⟨c, 0, none⟩) l.length l.length, .int .i64 s, .int .i64 o.kind, .int .i64 o.cell, .int .i64 o.old, .int .i64 o.new, .bool o.done] 69, pt c ((ints l)) 3] w := hM
 refine Calls.of_ends (vs := [.pointer (some ⟨b, 0, none⟩), .int .i64 i, .int .i64 n]) Tryd.func25 rfl Tryd.ntmps25 rfl ?_
 intro a hA
 replace hA : St 18 [(0, _), (1, _), (2, _)] a := hA
 refine Ends.seq (Ends.region ?_)
 refine S.val hA (R.assign rfl) rfl ?_; clear hA a; intro a hA
 refine S.done ?_
 replace hA : St 18 [(0, _), (1, _), (2, _), (6, _)] a := hA.sub ((.cons rfl (.cons rfl (.cons rfl (.cons rfl .nil)))))
 refine Ends.seq (Ends.seq (Ends.region ?_))
 refine S.val hA (R.move rfl) rfl ?_; clear hA a; intro a hA
 refine S.val hA (R.move rfl) rfl ?_; clear hA a; intro a hA
 refine S.call hA (R.callF Tryd.func35 rfl rfl rfl) rfl (find_ok b c l s o hne i h0 h1 _ hm) ?_; clear hA a
 rintro e w1 ⟨rfl, rfl⟩
 refine ⟨.int .i64 0, rfl, fun a hA => ?_⟩
 refine S.val hA (R.assign rfl) rfl ?_; clear hA a; intro a hA
 refine S.done ?_
 replace hA : St 18 [(0, _), (1, _), (2, _), (6, _), (7, _)] a := hA.sub ((.cons rfl (.cons rfl (.cons rfl (.cons rfl (.cons rfl .nil))))))
 refine Ends.seq (Ends.region ?_)
 refine S.val hA (R.move rfl) rfl ?_; clear hA a; intro a hA
 refine S.val hA (R.ff (R.neq rfl rfl) (by first | decide | simp | omega)) rfl ?_; clear hA a; intro a hA
 refine S.done ?_
 replace hA : St 18 [(0, _), (1, _), (2, _), (6, _), (7, _), (12, _)] a := hA.sub ((.cons rfl (.cons rfl (.cons rfl (.cons rfl (.cons rfl (.cons rfl .nil)))))))
 refine Ends.condF hA rfl ?_
 refine Ends.skip (Ends.seq (Ends.region ?_))
 refine S.val hA (R.move rfl) rfl ?_; clear hA a; intro a hA
 refine S.val hA (R.move rfl) rfl ?_; clear hA a; intro a hA
 refine S.val hA (R.move rfl) rfl ?_; clear hA a; intro a hA
 refine S.call hA (R.callF Tryd.func36 rfl rfl rfl) rfl (step_ok b c l s o hne 2 i n true h0 h1 hs _ hm) ?_; clear hA a
 rintro e w2 ⟨rfl, hn⟩
 refine ⟨.int .i64 ((l.getD i.toNat 0)), rfl, fun a hA => ?_⟩
 refine S.done ?_
 replace hA : St 18 [(6, _)] a := hA.sub ((.cons rfl .nil))
 refine Ends.seq (Ends.region ?_)
 refine S.val hA (R.assign rfl) rfl ?_; clear hA a; intro a hA
 refine S.done ?_
 replace hA : St 18 [(6, _)] a := hA.sub ((.cons rfl .nil))
 refine Ends.ret1 Tryd.func25 Tryd.results25 hA rfl ?_
 exact ⟨rfl, hn⟩
set_option maxRecDepth 100000 in
set_option maxHeartbeats 400000 in
theorem cas_hit (b c : Nat) (l : List Int) (s : Int) (o : CellOp) (hne : b ≠ c) (i old n : Int) (h0 : 0 ≤ i) (h1 : i < l.length) (hs : 0 ≤ s ∧ s < 9223372036854775807) (hv : (l.getD i.toNat 0) = old) (w : World) (hm : (memO b c l s o).holds w) :
  Calls Tryd.prog 40 #[.pointer (some ⟨b, 0, none⟩), .int .i64 i, .int .i64 old, .int .i64 n] w fun e w' => e = .returned (.tuple #[.bool true, .int .i64 0]) ∧ Mem w (two b c) [memO b c (l.set i.toNat n) (s + 1) ⟨3, i, (l.getD i.toNat 0), n, true⟩] w' := by
 have hM := memO.open hm hne
 replace hM : Mem w (two b c) [pt b #[.slice (some ⟨c, 0, none⟩) l.length l.length, .int .i64 s, .int .i64 o.kind, .int .i64 o.cell, .int .i64 o.old, .int .i64 o.new, .bool o.done] 69, pt c ((ints l)) 3] w := hM
 refine Calls.of_ends (vs := [.pointer (some ⟨b, 0, none⟩), .int .i64 i, .int .i64 old, .int .i64 n]) Tryd.func40 rfl Tryd.ntmps40 rfl ?_
 intro a hA
 replace hA : St 39 [(0, _), (1, _), (2, _), (3, _)] a := hA
 refine Ends.seq (Ends.region ?_)
 refine S.val hA (R.assign rfl) rfl ?_; clear hA a; intro a hA
 refine S.val hA (R.assign rfl) rfl ?_; clear hA a; intro a hA
 refine S.done ?_
 replace hA : St 39 [(0, _), (1, _), (2, _), (3, _), (8, _), (9, _)] a := hA.sub ((.cons rfl (.cons rfl (.cons rfl (.cons rfl (.cons rfl (.cons rfl .nil)))))))
 refine Ends.seq (Ends.seq (Ends.region ?_))
 refine S.val hA (R.move rfl) rfl ?_; clear hA a; intro a hA
 refine S.val hA (R.move rfl) rfl ?_; clear hA a; intro a hA
 refine S.call hA (R.callF Tryd.func35 rfl rfl rfl) rfl (find_ok b c l s o hne i h0 h1 _ hm) ?_; clear hA a
 rintro e w1 ⟨rfl, rfl⟩
 refine ⟨.int .i64 0, rfl, fun a hA => ?_⟩
 refine S.val hA (R.assign rfl) rfl ?_; clear hA a; intro a hA
 refine S.done ?_
 replace hA : St 39 [(0, _), (1, _), (2, _), (3, _), (8, _), (9, _), (10, _)] a := hA.sub ((.cons rfl (.cons rfl (.cons rfl (.cons rfl (.cons rfl (.cons rfl (.cons rfl .nil))))))))
 refine Ends.seq (Ends.region ?_)
 refine S.val hA (R.move rfl) rfl ?_; clear hA a; intro a hA
 refine S.val hA (R.ff (R.neq rfl rfl) (by first | decide | simp | omega)) rfl ?_; clear hA a; intro a hA
 refine S.done ?_
 replace hA : St 39 [(0, _), (1, _), (2, _), (3, _), (8, _), (9, _), (10, _), (16, _)] a := hA.sub ((.cons rfl (.cons rfl (.cons rfl (.cons rfl (.cons rfl (.cons rfl (.cons rfl (.cons rfl .nil)))))))))
 refine Ends.condF hA rfl ?_
 refine Ends.skip (Ends.seq (Ends.region ?_))
 refine S.val hA (R.move rfl) rfl ?_; clear hA a; intro a hA
 refine S.val hA (R.nilCheck rfl) rfl ?_; clear hA a; intro a hA
 refine S.val hA (R.fieldAddr (q := 0) fi69_0 rfl rfl rfl) rfl ?_; clear hA a; intro a hA
 refine S.val hA (R.load sz22 rfl (hM.cell (k := 0) rfl rfl)) rfl ?_; clear hA a; intro a hA
 refine S.val hA (R.move rfl) rfl ?_; clear hA a; intro a hA
 refine S.val hA (R.indexAddr (q := i.toNat) sl22 rfl rfl (by omega) (by omega)) rfl ?_; clear hA a; intro a hA
 refine S.val hA (R.load sz3 rfl (hM.cell (k := 1) rfl (ints_getD l _ (by omega)))) rfl ?_; clear hA a; intro a hA
 refine S.val hA (R.assign rfl) rfl ?_; clear hA a; intro a hA
 refine S.done ?_
 replace hA : St 39 [(0, _), (1, _), (2, _), (3, _), (8, _), (9, _), (11, _)] a := hA.sub ((.cons rfl (.cons rfl (.cons rfl (.cons rfl (.cons rfl (.cons rfl (.cons rfl .nil))))))))
 refine Ends.seq (Ends.seq (Ends.region ?_))
 refine S.val hA (R.move rfl) rfl ?_; clear hA a; intro a hA
 refine S.val hA (R.move rfl) rfl ?_; clear hA a; intro a hA
 refine S.val hA (R.ff (R.neq rfl rfl) (by omega)) rfl ?_; clear hA a; intro a hA
 refine S.done ?_
 replace hA : St 39 [(0, _), (1, _), (2, _), (3, _), (8, _), (9, _), (11, _), (27, _)] a := hA.sub ((.cons rfl (.cons rfl (.cons rfl (.cons rfl (.cons rfl (.cons rfl (.cons rfl (.cons rfl .nil)))))))))
 refine Ends.condF hA rfl ?_
 refine Ends.skip (Ends.seq (Ends.region ?_))
 refine S.val hA (R.move rfl) rfl ?_; clear hA a; intro a hA
 refine S.val hA (R.move rfl) rfl ?_; clear hA a; intro a hA
 refine S.val hA (R.move rfl) rfl ?_; clear hA a; intro a hA
 refine S.val hA (R.move rfl) rfl ?_; clear hA a; intro a hA
 refine S.val hA (R.move rfl) rfl ?_; clear hA a; intro a hA
 refine S.val hA (R.tt (R.eql rfl rfl) (by omega)) rfl ?_; clear hA a; intro a hA
 refine S.call hA (R.callF Tryd.func36 rfl rfl rfl) rfl (step_ok b c l s o hne 3 i n true h0 h1 hs _ hm) ?_; clear hA a
 rintro e w2 ⟨rfl, hn⟩
 refine ⟨.int .i64 ((l.getD i.toNat 0)), rfl, fun a hA => ?_⟩
 refine S.done ?_
 replace hA : St 39 [(2, _), (8, _), (9, _), (11, _)] a := hA.sub ((.cons rfl (.cons rfl (.cons rfl (.cons rfl .nil)))))
 refine Ends.seq (Ends.region ?_)
 refine S.val hA (R.move rfl) rfl ?_; clear hA a; intro a hA
 refine S.val hA (R.move rfl) rfl ?_; clear hA a; intro a hA
 refine S.val hA (R.tt (R.eql rfl rfl) (by omega)) rfl ?_; clear hA a; intro a hA
 refine S.val hA (R.assign rfl) rfl ?_; clear hA a; intro a hA
 refine S.val hA (R.assign rfl) rfl ?_; clear hA a; intro a hA
 refine S.done ?_
 replace hA : St 39 [(8, _), (9, _)] a := hA.sub ((.cons rfl (.cons rfl .nil)))
 refine Ends.ret2 Tryd.func40 Tryd.results40 hA rfl rfl ?_
 exact ⟨rfl, hn⟩
set_option maxRecDepth 100000 in
set_option maxHeartbeats 400000 in
theorem cas_not (b c : Nat) (l : List Int) (s : Int) (o : CellOp) (hne : b ≠ c) (i old n : Int) (h0 : 0 ≤ i) (h1 : i < l.length) (hs : 0 ≤ s ∧ s < 9223372036854775807) (hv : (l.getD i.toNat 0) ≠ old) (w : World) (hm : (memO b c l s o).holds w) :
  Calls Tryd.prog 40 #[.pointer (some ⟨b, 0, none⟩), .int .i64 i, .int .i64 old, .int .i64 n] w fun e w' => e = .returned (.tuple #[.bool false, .int .i64 0]) ∧ Mem w (two b c) [memO b c (l.set i.toNat (l.getD i.toNat 0)) (s + 1) ⟨3, i, (l.getD i.toNat 0), (l.getD i.toNat 0), false⟩] w' := by
 have hM := memO.open hm hne
 replace hM : Mem w (two b c) [pt b #[.slice (some ⟨c, 0, none⟩) l.length l.length, .int .i64 s, .int .i64 o.kind, .int .i64 o.cell, .int .i64 o.old, .int .i64 o.new, .bool o.done] 69, pt c ((ints l)) 3] w := hM
 refine Calls.of_ends (vs := [.pointer (some ⟨b, 0, none⟩), .int .i64 i, .int .i64 old, .int .i64 n]) Tryd.func40 rfl Tryd.ntmps40 rfl ?_
 intro a hA
 replace hA : St 39 [(0, _), (1, _), (2, _), (3, _)] a := hA
 refine Ends.seq (Ends.region ?_)
 refine S.val hA (R.assign rfl) rfl ?_; clear hA a; intro a hA
 refine S.val hA (R.assign rfl) rfl ?_; clear hA a; intro a hA
 refine S.done ?_
 replace hA : St 39 [(0, _), (1, _), (2, _), (3, _), (8, _), (9, _)] a := hA.sub ((.cons rfl (.cons rfl (.cons rfl (.cons rfl (.cons rfl (.cons rfl .nil)))))))
 refine Ends.seq (Ends.seq (Ends.region ?_))
 refine S.val hA (R.move rfl) rfl ?_; clear hA a; intro a hA
 refine S.val hA (R.move rfl) rfl ?_; clear hA a; intro a hA
 refine S.call hA (R.callF Tryd.func35 rfl rfl rfl) rfl (find_ok b c l s o hne i h0 h1 _ hm) ?_; clear hA a
 rintro e w1 ⟨rfl, rfl⟩
 refine ⟨.int .i64 0, rfl, fun a hA => ?_⟩
 refine S.val hA (R.assign rfl) rfl ?_; clear hA a; intro a hA
 refine S.done ?_
 replace hA : St 39 [(0, _), (1, _), (2, _), (3, _), (8, _), (9, _), (10, _)] a := hA.sub ((.cons rfl (.cons rfl (.cons rfl (.cons rfl (.cons rfl (.cons rfl (.cons rfl .nil))))))))
 refine Ends.seq (Ends.region ?_)
 refine S.val hA (R.move rfl) rfl ?_; clear hA a; intro a hA
 refine S.val hA (R.ff (R.neq rfl rfl) (by first | decide | simp | omega)) rfl ?_; clear hA a; intro a hA
 refine S.done ?_
 replace hA : St 39 [(0, _), (1, _), (2, _), (3, _), (8, _), (9, _), (10, _), (16, _)] a := hA.sub ((.cons rfl (.cons rfl (.cons rfl (.cons rfl (.cons rfl (.cons rfl (.cons rfl (.cons rfl .nil)))))))))
 refine Ends.condF hA rfl ?_
 refine Ends.skip (Ends.seq (Ends.region ?_))
 refine S.val hA (R.move rfl) rfl ?_; clear hA a; intro a hA
 refine S.val hA (R.nilCheck rfl) rfl ?_; clear hA a; intro a hA
 refine S.val hA (R.fieldAddr (q := 0) fi69_0 rfl rfl rfl) rfl ?_; clear hA a; intro a hA
 refine S.val hA (R.load sz22 rfl (hM.cell (k := 0) rfl rfl)) rfl ?_; clear hA a; intro a hA
 refine S.val hA (R.move rfl) rfl ?_; clear hA a; intro a hA
 refine S.val hA (R.indexAddr (q := i.toNat) sl22 rfl rfl (by omega) (by omega)) rfl ?_; clear hA a; intro a hA
 refine S.val hA (R.load sz3 rfl (hM.cell (k := 1) rfl (ints_getD l _ (by omega)))) rfl ?_; clear hA a; intro a hA
 refine S.val hA (R.assign rfl) rfl ?_; clear hA a; intro a hA
 refine S.done ?_
 replace hA : St 39 [(0, _), (1, _), (2, _), (3, _), (8, _), (9, _), (11, _)] a := hA.sub ((.cons rfl (.cons rfl (.cons rfl (.cons rfl (.cons rfl (.cons rfl (.cons rfl .nil))))))))
 refine Ends.seq (Ends.seq (Ends.region ?_))
 refine S.val hA (R.move rfl) rfl ?_; clear hA a; intro a hA
 refine S.val hA (R.move rfl) rfl ?_; clear hA a; intro a hA
 refine S.val hA (R.tt (R.neq rfl rfl) (by omega)) rfl ?_; clear hA a; intro a hA
 refine S.done ?_
 replace hA : St 39 [(0, _), (1, _), (2, _), (3, _), (8, _), (9, _), (11, _), (27, _)] a := hA.sub ((.cons rfl (.cons rfl (.cons rfl (.cons rfl (.cons rfl (.cons rfl (.cons rfl (.cons rfl .nil)))))))))
 refine Ends.condT hA rfl ?_
 refine Ends.region ?_
 refine S.val hA (R.move rfl) rfl ?_; clear hA a; intro a hA
 refine S.val hA (R.assign rfl) rfl ?_; clear hA a; intro a hA
 refine S.done ?_
 replace hA : St 39 [(0, _), (1, _), (2, _), (3, _), (8, _), (9, _), (11, _)] a := hA.sub ((.cons rfl (.cons rfl (.cons rfl (.cons rfl (.cons rfl (.cons rfl (.cons rfl .nil))))))))
 refine Ends.seq (Ends.region ?_)
 refine S.val hA (R.move rfl) rfl ?_; clear hA a; intro a hA
 refine S.val hA (R.move rfl) rfl ?_; clear hA a; intro a hA
 refine S.val hA (R.move rfl) rfl ?_; clear hA a; intro a hA
 refine S.val hA (R.move rfl) rfl ?_; clear hA a; intro a hA
 refine S.val hA (R.move rfl) rfl ?_; clear hA a; intro a hA
 refine S.val hA (R.ff (R.eql rfl rfl) (by omega)) rfl ?_; clear hA a; intro a hA
 refine S.call hA (R.callF Tryd.func36 rfl rfl rfl) rfl (step_ok b c l s o hne 3 i (l.getD i.toNat 0) false h0 h1 hs _ hm) ?_; clear hA a
 rintro e w2 ⟨rfl, hn⟩
 refine ⟨.int .i64 ((l.getD i.toNat 0)), rfl, fun a hA => ?_⟩
 refine S.done ?_
 replace hA : St 39 [(2, _), (8, _), (9, _), (11, _)] a := hA.sub ((.cons rfl (.cons rfl (.cons rfl (.cons rfl .nil)))))
 refine Ends.seq (Ends.region ?_)
 refine S.val hA (R.move rfl) rfl ?_; clear hA a; intro a hA
 refine S.val hA (R.move rfl) rfl ?_; clear hA a; intro a hA
 refine S.val hA (R.ff (R.eql rfl rfl) (by omega)) rfl ?_; clear hA a; intro a hA
 refine S.val hA (R.assign rfl) rfl ?_; clear hA a; intro a hA
 refine S.val hA (R.assign rfl) rfl ?_; clear hA a; intro a hA
 refine S.done ?_
 replace hA : St 39 [(8, _), (9, _)] a := hA.sub ((.cons rfl (.cons rfl .nil)))
 refine Ends.ret2 Tryd.func40 Tryd.results40 hA rfl rfl ?_
 exact ⟨rfl, hn⟩
set_option maxRecDepth 100000 in
set_option maxHeartbeats 400000 in
theorem size_ok (b c : Nat) (l : List Int) (s : Int) (o : CellOp) (hne : b ≠ c)  (w : World) (hm : (memO b c l s o).holds w) :
    Calls Tryd.prog 24 #[.pointer (some ⟨b, 0, none⟩)] w fun e w' => e = .returned (.int .i64 (l.length : Int)) ∧ w = w' := by
  have hM := memO.open hm hne
  replace hM : Mem w (two b c) [pt b #[.slice (some ⟨c, 0, none⟩) l.length l.length, .int .i64 s, .int .i64 o.kind, .int .i64 o.cell, .int .i64 o.old, .int .i64 o.new, .bool o.done] 69, pt c ((ints l)) 3] w := hM
  refine Calls.of_ends (vs := [.pointer (some ⟨b, 0, none⟩)]) Tryd.func24 rfl Tryd.ntmps24 rfl ?_
  intro a hA
  replace hA : St 10 [(0, _)] a := hA
  refine Ends.seq (Ends.region ?_)
  refine S.val hA (R.assign rfl) rfl ?_; clear hA a; intro a hA
  refine S.done ?_
  replace hA : St 10 [(0, _), (2, _)] a := hA.sub ((.cons rfl (.cons rfl .nil)))
  refine Ends.seq (Ends.seq (Ends.region ?_))
  refine S.val hA (R.move rfl) rfl ?_; clear hA a; intro a hA
  refine S.val hA (R.eqlNil Tryd.underlying42 rfl rfl) rfl ?_; clear hA a; intro a hA
  refine S.done ?_
  replace hA : St 10 [(0, _), (2, _), (4, _)] a := hA.sub ((.cons rfl (.cons rfl (.cons rfl .nil))))
  refine Ends.condF hA rfl ?_
  refine Ends.skip (Ends.seq (Ends.region ?_))
  refine S.val hA (R.move rfl) rfl ?_; clear hA a; intro a hA
  refine S.val hA (R.nilCheck rfl) rfl ?_; clear hA a; intro a hA
  refine S.val hA (R.fieldAddr (q := 0) fi69_0 rfl rfl rfl) rfl ?_; clear hA a; intro a hA
  refine S.val hA (R.load sz22 rfl (hM.cell (k := 0) rfl rfl)) rfl ?_; clear hA a; intro a hA
  refine S.val hA (R.lenS Tryd.underlying22 rfl rfl) rfl ?_; clear hA a; intro a hA
  refine S.val hA (R.assign rfl) rfl ?_; clear hA a; intro a hA
  refine S.done ?_
  replace hA : St 10 [(2, _)] a := hA.sub ((.cons rfl .nil))
  refine Ends.ret1 Tryd.func24 Tryd.results24 hA rfl ?_
  exact ⟨rfl, rfl⟩
set_option maxRecDepth 100000 in
set_option maxHeartbeats 400000 in
theorem new_ok (n : Int) (h0 : 0 ≤ n) (h1 : n ≤ 1048576) (w : World) :
  Calls Tryd.prog 13 #[.int .i64 n] w fun e w' => ∃ b c, e = .returned (.tuple #[.pointer (some ⟨b, 0, none⟩), .int .i64 0]) ∧ b ≠ c ∧ Mem w nof [memO b c (List.replicate n.toNat 0) 0 ⟨0, 0, 0, 0, false⟩] w' := by
 have hM := Mem.start w
 refine Calls.of_ends (vs := [.int .i64 n]) Tryd.func13 rfl Tryd.ntmps13 rfl ?_
 intro a hA
 replace hA : St 14 [(0, _)] a := hA
 refine Ends.seq (Ends.region ?_)
 refine S.val hA (R.assign rfl) rfl ?_; clear hA a; intro a hA
 refine S.val hA (R.assign rfl) rfl ?_; clear hA a; intro a hA
 refine S.done ?_
 replace hA : St 14 [(0, _), (2, _), (3, _)] a := hA.sub ((.cons rfl (.cons rfl (.cons rfl .nil))))
 refine Ends.seq (Ends.seq (Ends.region ?_))
 refine S.val hA (R.move rfl) rfl ?_; clear hA a; intro a hA
 refine S.val hA (R.ff (R.lss rfl rfl) (by omega)) rfl ?_; clear hA a; intro a hA
 refine S.val hA (R.move rfl) rfl ?_; clear hA a; intro a hA
 refine S.valg (dj := 6) hA (by kernel_rfl) rfl (R.move rfl) rfl ?_; clear hA a; intro a hA
 refine S.valg (dj := 6) hA (by kernel_rfl) rfl (R.ff (R.gtr rfl rfl) (by omega)) rfl ?_; clear hA a; intro a hA
 refine S.val hA (R.pickF rfl rfl) rfl ?_; clear hA a; intro a hA
 refine S.done ?_
 replace hA : St 14 [(0, _), (2, _), (3, _), (9, _)] a := hA.sub ((.cons rfl (.cons rfl (.cons rfl (.cons rfl .nil)))))
 refine Ends.condF hA rfl ?_
 refine Ends.skip (Ends.seq (Ends.region ?_))
 refine S.val hA (R.move rfl) rfl ?_; clear hA a; intro a hA
 refine S.make hA hM Tryd.underlying22 info3 rfl rfl rfl (by omega) (by show (8 : Int) * _ ≤ _; omega) (by omega) rfl ?_; clear hA hM a; intro b1 w1 hb2 hM a hA
 replace hM : Mem _ _ [pt b1 (madeCells #[.int .i64 0] (n.toNat * 1)) 3] _ := hM
 rw [Nat.mul_one, made_ints] at hM
 replace hM : Mem _ _ [pt b1 ((ints (List.replicate n.toNat 0))) 3] _ := hM
 refine S.val hA (R.build (cells := #[.slice (some ⟨b1, 0, none⟩) n.toNat n.toNat, .int .i64 0, .int .i64 0, .int .i64 0, .int .i64 0, .int .i64 0, .bool false]) rfl (by kernel_rfl)) rfl ?_; clear hA a; intro a hA
 refine S.box hA hM rfl rfl ?_; clear hA hM a; intro b3 w2 hb4 hM a hA
 replace hM : Mem _ _ [pt b3 #[.slice (some ⟨b1, 0, none⟩) n.toNat n.toNat, .int .i64 0, .int .i64 0, .int .i64 0, .int .i64 0, .int .i64 0, .bool false] 69, pt b1 ((ints (List.replicate n.toNat 0))) 3] _ := hM
 refine S.val hA (R.assign rfl) rfl ?_; clear hA a; intro a hA
 refine S.val hA (R.assign rfl) rfl ?_; clear hA a; intro a hA
 refine S.done ?_
 replace hA : St 14 [(2, _), (3, _)] a := hA.sub ((.cons rfl (.cons rfl .nil)))
 refine Ends.ret2 Tryd.func13 Tryd.results13 hA rfl rfl ?_
 exact ⟨_, _, rfl, (fun e => by subst e; exact (List.pairwise_cons.1 hM.apart).1 _ (List.mem_cons_self ..) _ rfl rfl), hM.toO (by simp)⟩
end Go.Proofs.YtjjbognomeplbaaDoor
namespace Go.Proofs.YtjjbognomeplbaaDoor
open Go.RowKit
def plc (p : Int) : Int := if 0 ≤ p ∧ p ≤ 2147483646 then p else -1
theorem plc_bd (p : Int) : -1 ≤ plc p ∧ plc p ≤ 2147483646 := by unfold plc; split <;> omega
theorem plc_in {p : Int} (h : 0 ≤ p ∧ p ≤ 2147483646) : plc p = p := if_pos h
theorem plc_out {p : Int} (h : ¬ (0 ≤ p ∧ p ≤ 2147483646)) : plc p = -1 := if_neg h
def packI (v p : Int) : Int := v % 1073741824 * 4294967296 + plc p + 1
theorem packI_bd (v p : Int) : 0 ≤ packI v p ∧ packI v p < 4611686018427387904 := by
  have := plc_bd p
  have h1 := Int.emod_nonneg v (show (1073741824 : Int) ≠ 0 by omega)
  have h2 := Int.emod_lt_of_pos v (show (0 : Int) < 1073741824 by omega)
  unfold packI; omega
theorem packI_v (v p : Int) : packI v p / 4294967296 = v % 1073741824 := by
  have := plc_bd p
  unfold packI; omega
theorem packI_p (v p : Int) : packI v p % 4294967296 - 1 = plc p := by
  have := plc_bd p
  unfold packI; omega
theorem band30 (x : Int) (h0 : -9223372036854775808 ≤ x) (h1 : x ≤ 9223372036854775807) : bits BinOp.and IntKind.i64 x 1073741823 = x % 1073741824 := by
  unfold bits
  simp only
  have hk : IntKind.bits .i64 = 64 := rfl
  rw [hk]
  have e : (BitVec.ofInt 64 x &&& BitVec.ofInt 64 1073741823).toNat = (x % 1073741824).toNat := by
    rw [BitVec.toNat_and, BitVec.toNat_ofInt, BitVec.toNat_ofInt]
    rw [show (1073741823 % ((2 ^ 64 : Nat) : Int)).toNat = 2 ^ 30 - 1 by decide, Nat.and_two_pow_sub_one_eq_mod]
    omega
  rw [e, IntKind.wrap_i64]; omega
theorem band32 (x : Int) (h0 : -9223372036854775808 ≤ x) (h1 : x ≤ 9223372036854775807) : bits BinOp.and IntKind.i64 x 4294967295 = x % 4294967296 := by
  unfold bits
  simp only
  have hk : IntKind.bits .i64 = 64 := rfl
  rw [hk]
  have e : (BitVec.ofInt 64 x &&& BitVec.ofInt 64 4294967295).toNat = (x % 4294967296).toNat := by
    rw [BitVec.toNat_and, BitVec.toNat_ofInt, BitVec.toNat_ofInt]
    rw [show (4294967295 % ((2 ^ 64 : Nat) : Int)).toNat = 2 ^ 32 - 1 by decide, Nat.and_two_pow_sub_one_eq_mod]
    omega
  rw [e, IntKind.wrap_i64]; omega
theorem shl32 (x : Int) (h0 : 0 ≤ x) (h1 : x < 1073741824) : IntKind.i64.wrap (x * 2 ^ min (32 : Int).toNat IntKind.i64.bits) = x * 4294967296 := by
  rw [show min (32 : Int).toNat IntKind.i64.bits = 32 by decide, show (2 : Int) ^ 32 = 4294967296 by decide, IntKind.wrap_i64]; omega
theorem shr32 (x : Int) : x.fdiv (2 ^ min (32 : Int).toNat IntKind.i64.bits) = x / 4294967296 := by
  rw [show min (32 : Int).toNat IntKind.i64.bits = 32 by decide, show (2 : Int) ^ 32 = 4294967296 by decide, Int.fdiv_eq_ediv_of_nonneg _ (by omega)]
set_option maxRecDepth 100000 in
set_option maxHeartbeats 400000 in
theorem pack_in0 (v p : Int) (hv0 : -9223372036854775808 ≤ v) (hv1 : v ≤ 9223372036854775807) (h0 : 0 ≤ p) (h1 : p ≤ 2147483646) (w : World) :
  Calls Tryd.prog 26 #[.int .i64 v, .int .i64 p] w fun e w' => e = .returned (.int .i64 (packI v p)) ∧ w = w' := by
 have hv2 := Int.emod_nonneg v (show (1073741824 : Int) ≠ 0 by omega)
 have hv3 := Int.emod_lt_of_pos v (show (0 : Int) < 1073741824 by omega)
 have hM := Mem.start w
 refine Calls.of_ends (vs := [.int .i64 v, .int .i64 p]) Tryd.func26 rfl Tryd.ntmps26 rfl ?_
 intro a hA
 replace hA : St 17 [(0, _), (1, _)] a := hA
 refine Ends.seq (Ends.region ?_)
 refine S.val hA (R.assign rfl) rfl ?_; clear hA a; intro a hA
 refine S.done ?_
 replace hA : St 17 [(0, _), (1, _), (4, _)] a := hA.sub ((.cons rfl (.cons rfl (.cons rfl .nil))))
 refine Ends.seq (Ends.seq (Ends.region ?_))
 refine S.val hA (R.move rfl) rfl ?_; clear hA a; intro a hA
 refine S.val hA (R.ff (R.lss rfl rfl) (by omega)) rfl ?_; clear hA a; intro a hA
 refine S.val hA (R.move rfl) rfl ?_; clear hA a; intro a hA
 refine S.valg (dj := 7) hA (by kernel_rfl) rfl (R.move rfl) rfl ?_; clear hA a; intro a hA
 refine S.valg (dj := 7) hA (by kernel_rfl) rfl (R.ff (R.gtr rfl rfl) (by omega)) rfl ?_; clear hA a; intro a hA
 refine S.val hA (R.pickF rfl rfl) rfl ?_; clear hA a; intro a hA
 refine S.done ?_
 replace hA : St 17 [(0, _), (1, _), (4, _), (10, _)] a := hA.sub ((.cons rfl (.cons rfl (.cons rfl (.cons rfl .nil)))))
 refine Ends.condF hA rfl ?_
 refine Ends.skip (Ends.seq (Ends.region ?_))
 refine S.val hA (R.move rfl) rfl ?_; clear hA a; intro a hA
 refine S.val hA (R.to (R.bits (by simp) rfl rfl) (congrArg (Value.int .i64) (band30 v hv0 hv1))) rfl ?_; clear hA a; intro a hA
 refine S.val hA (R.to (R.shl rfl rfl (by omega)) (congrArg (Value.int .i64) (shl32 _ hv2 hv3))) rfl ?_; clear hA a; intro a hA
 refine S.val hA (R.move rfl) rfl ?_; clear hA a; intro a hA
 refine S.val hA (R.addI rfl rfl (r := ((v % 1073741824) * 4294967296) + p) rfl (by omega)) rfl ?_; clear hA a; intro a hA
 refine S.val hA (R.addI rfl rfl (r := (((v % 1073741824) * 4294967296) + p) + 1) rfl (by omega)) rfl ?_; clear hA a; intro a hA
 refine S.val hA (R.assign rfl) rfl ?_; clear hA a; intro a hA
 refine S.done ?_
 replace hA : St 17 [(4, _)] a := hA.sub ((.cons rfl .nil))
 refine Ends.ret1 Tryd.func26 Tryd.results26 hA rfl ?_
 exact ⟨by rw [show packI v p = (v % 1073741824) * 4294967296 + (p) + 1 by unfold packI; rw [plc_in ⟨h0, h1⟩]], rfl⟩
set_option maxRecDepth 100000 in
set_option maxHeartbeats 400000 in
theorem pack_low0 (v p : Int) (hv0 : -9223372036854775808 ≤ v) (hv1 : v ≤ 9223372036854775807) (h0 : p < 0) (w : World) :
  Calls Tryd.prog 26 #[.int .i64 v, .int .i64 p] w fun e w' => e = .returned (.int .i64 (packI v p)) ∧ w = w' := by
 have hv2 := Int.emod_nonneg v (show (1073741824 : Int) ≠ 0 by omega)
 have hv3 := Int.emod_lt_of_pos v (show (0 : Int) < 1073741824 by omega)
 have hM := Mem.start w
 refine Calls.of_ends (vs := [.int .i64 v, .int .i64 p]) Tryd.func26 rfl Tryd.ntmps26 rfl ?_
 intro a hA
 replace hA : St 17 [(0, _), (1, _)] a := hA
 refine Ends.seq (Ends.region ?_)
 refine S.val hA (R.assign rfl) rfl ?_; clear hA a; intro a hA
 refine S.done ?_
 replace hA : St 17 [(0, _), (1, _), (4, _)] a := hA.sub ((.cons rfl (.cons rfl (.cons rfl .nil))))
 refine Ends.seq (Ends.seq (Ends.region ?_))
 refine S.val hA (R.move rfl) rfl ?_; clear hA a; intro a hA
 refine S.val hA (R.tt (R.lss rfl rfl) (by omega)) rfl ?_; clear hA a; intro a hA
 refine S.val hA (R.move rfl) rfl ?_; clear hA a; intro a hA
 refine S.no (dj := 7) hA (by kernel_rfl) rfl rfl rfl ?_; clear hA a; intro a hA
 refine S.no (dj := 7) hA (by kernel_rfl) rfl rfl rfl ?_; clear hA a; intro a hA
 refine S.val hA (R.pickT rfl rfl) rfl ?_; clear hA a; intro a hA
 refine S.done ?_
 replace hA : St 17 [(0, _), (1, _), (4, _), (10, _)] a := hA.sub ((.cons rfl (.cons rfl (.cons rfl (.cons rfl .nil)))))
 refine Ends.condT hA rfl ?_
 refine Ends.region ?_
 refine S.val hA (R.assign rfl) rfl ?_; clear hA a; intro a hA
 refine S.done ?_
 replace hA : St 17 [(0, _), (1, _), (4, _)] a := hA.sub ((.cons rfl (.cons rfl (.cons rfl .nil))))
 refine Ends.seq (Ends.region ?_)
 refine S.val hA (R.move rfl) rfl ?_; clear hA a; intro a hA
 refine S.val hA (R.to (R.bits (by simp) rfl rfl) (congrArg (Value.int .i64) (band30 v hv0 hv1))) rfl ?_; clear hA a; intro a hA
 refine S.val hA (R.to (R.shl rfl rfl (by omega)) (congrArg (Value.int .i64) (shl32 _ hv2 hv3))) rfl ?_; clear hA a; intro a hA
 refine S.val hA (R.move rfl) rfl ?_; clear hA a; intro a hA
 refine S.val hA (R.addI rfl rfl (r := ((v % 1073741824) * 4294967296) + (-1)) rfl (by omega)) rfl ?_; clear hA a; intro a hA
 refine S.val hA (R.addI rfl rfl (r := (((v % 1073741824) * 4294967296) + (-1)) + 1) rfl (by omega)) rfl ?_; clear hA a; intro a hA
 refine S.val hA (R.assign rfl) rfl ?_; clear hA a; intro a hA
 refine S.done ?_
 replace hA : St 17 [(4, _)] a := hA.sub ((.cons rfl .nil))
 refine Ends.ret1 Tryd.func26 Tryd.results26 hA rfl ?_
 exact ⟨by rw [show packI v p = (v % 1073741824) * 4294967296 + (-1) + 1 by unfold packI; rw [plc_out (by omega)]], rfl⟩
set_option maxRecDepth 100000 in
set_option maxHeartbeats 400000 in
theorem pack_high0 (v p : Int) (hv0 : -9223372036854775808 ≤ v) (hv1 : v ≤ 9223372036854775807) (h0 : 2147483646 < p) (w : World) :
  Calls Tryd.prog 26 #[.int .i64 v, .int .i64 p] w fun e w' => e = .returned (.int .i64 (packI v p)) ∧ w = w' := by
 have hv2 := Int.emod_nonneg v (show (1073741824 : Int) ≠ 0 by omega)
 have hv3 := Int.emod_lt_of_pos v (show (0 : Int) < 1073741824 by omega)
 have hM := Mem.start w
 refine Calls.of_ends (vs := [.int .i64 v, .int .i64 p]) Tryd.func26 rfl Tryd.ntmps26 rfl ?_
 intro a hA
 replace hA : St 17 [(0, _), (1, _)] a := hA
 refine Ends.seq (Ends.region ?_)
 refine S.val hA (R.assign rfl) rfl ?_; clear hA a; intro a hA
 refine S.done ?_
 replace hA : St 17 [(0, _), (1, _), (4, _)] a := hA.sub ((.cons rfl (.cons rfl (.cons rfl .nil))))
 refine Ends.seq (Ends.seq (Ends.region ?_))
 refine S.val hA (R.move rfl) rfl ?_; clear hA a; intro a hA
 refine S.val hA (R.ff (R.lss rfl rfl) (by omega)) rfl ?_; clear hA a; intro a hA
 refine S.val hA (R.move rfl) rfl ?_; clear hA a; intro a hA
 refine S.valg (dj := 7) hA (by kernel_rfl) rfl (R.move rfl) rfl ?_; clear hA a; intro a hA
 refine S.valg (dj := 7) hA (by kernel_rfl) rfl (R.tt (R.gtr rfl rfl) (by omega)) rfl ?_; clear hA a; intro a hA
 refine S.val hA (R.pickF rfl rfl) rfl ?_; clear hA a; intro a hA
 refine S.done ?_
 replace hA : St 17 [(0, _), (1, _), (4, _), (10, _)] a := hA.sub ((.cons rfl (.cons rfl (.cons rfl (.cons rfl .nil)))))
 refine Ends.condT hA rfl ?_
 refine Ends.region ?_
 refine S.val hA (R.assign rfl) rfl ?_; clear hA a; intro a hA
 refine S.done ?_
 replace hA : St 17 [(0, _), (1, _), (4, _)] a := hA.sub ((.cons rfl (.cons rfl (.cons rfl .nil))))
 refine Ends.seq (Ends.region ?_)
 refine S.val hA (R.move rfl) rfl ?_; clear hA a; intro a hA
 refine S.val hA (R.to (R.bits (by simp) rfl rfl) (congrArg (Value.int .i64) (band30 v hv0 hv1))) rfl ?_; clear hA a; intro a hA
 refine S.val hA (R.to (R.shl rfl rfl (by omega)) (congrArg (Value.int .i64) (shl32 _ hv2 hv3))) rfl ?_; clear hA a; intro a hA
 refine S.val hA (R.move rfl) rfl ?_; clear hA a; intro a hA
 refine S.val hA (R.addI rfl rfl (r := ((v % 1073741824) * 4294967296) + (-1)) rfl (by omega)) rfl ?_; clear hA a; intro a hA
 refine S.val hA (R.addI rfl rfl (r := (((v % 1073741824) * 4294967296) + (-1)) + 1) rfl (by omega)) rfl ?_; clear hA a; intro a hA
 refine S.val hA (R.assign rfl) rfl ?_; clear hA a; intro a hA
 refine S.done ?_
 replace hA : St 17 [(4, _)] a := hA.sub ((.cons rfl .nil))
 refine Ends.ret1 Tryd.func26 Tryd.results26 hA rfl ?_
 exact ⟨by rw [show packI v p = (v % 1073741824) * 4294967296 + (-1) + 1 by unfold packI; rw [plc_out (by omega)]], rfl⟩
theorem pack_any (v p : Int) (hv0 : -9223372036854775808 ≤ v) (hv1 : v ≤ 9223372036854775807) (w : World) : Calls Tryd.prog 26 #[.int .i64 v, .int .i64 p] w fun e w' => e = .returned (.int .i64 (packI v p)) ∧ w = w' := by
  rcases Int.lt_or_le p 0 with h | h
  · exact pack_low0 v p hv0 hv1 h w
  · rcases Int.lt_or_le 2147483646 p with g | g
    · exact pack_high0 v p hv0 hv1 g w
    · exact pack_in0 v p hv0 hv1 h g w
theorem pack_in (v p : Int) (h0 : -9223372036854775808 ≤ v ∧ v ≤ 9223372036854775807) (_h1 : 0 ≤ p ∧ p ≤ 2147483646) (w : World) : Calls Tryd.prog 26 #[.int .i64 v, .int .i64 p] w fun e w' => e = .returned (.int .i64 (packI v p)) ∧ w = w' := pack_any v p h0.1 h0.2 w
set_option maxRecDepth 100000 in
set_option maxHeartbeats 400000 in
theorem unpack_any (n : Int) (hn0 : -9223372036854775808 ≤ n) (hn1 : n ≤ 9223372036854775807) (w : World) :
    Calls Tryd.prog 39 #[.int .i64 n] w fun e w' => e = .returned (.tuple #[.int .i64 (n / 4294967296 % 1073741824), .int .i64 (n % 4294967296 - 1)]) ∧ w = w' := by
  have hM := Mem.start w
  refine Calls.of_ends (vs := [.int .i64 n]) Tryd.func39 rfl Tryd.ntmps39 rfl ?_
  intro a hA
  replace hA : St 10 [(0, _)] a := hA
  refine Ends.seq (Ends.region ?_)
  refine S.val hA (R.assign rfl) rfl ?_; clear hA a; intro a hA
  refine S.val hA (R.assign rfl) rfl ?_; clear hA a; intro a hA
  refine S.done ?_
  replace hA : St 10 [(0, _), (2, _), (3, _)] a := hA.sub ((.cons rfl (.cons rfl (.cons rfl .nil))))
  refine Ends.seq (Ends.region ?_)
  refine S.val hA (R.move rfl) rfl ?_; clear hA a; intro a hA
  refine S.val hA (R.to (R.shr rfl rfl (by omega)) (congrArg (Value.int .i64) (shr32 n))) rfl ?_; clear hA a; intro a hA
  refine S.val hA (R.to (R.bits (by simp) rfl rfl) (congrArg (Value.int .i64) (band30 _ (by omega) (by omega)))) rfl ?_; clear hA a; intro a hA
  refine S.val hA (R.move rfl) rfl ?_; clear hA a; intro a hA
  refine S.val hA (R.to (R.bits (by simp) rfl rfl) (congrArg (Value.int .i64) (band32 n hn0 hn1))) rfl ?_; clear hA a; intro a hA
  refine S.val hA (R.subI rfl rfl (r := (n % 4294967296) - 1) rfl (by omega)) rfl ?_; clear hA a; intro a hA
  refine S.val hA (R.assign rfl) rfl ?_; clear hA a; intro a hA
  refine S.val hA (R.assign rfl) rfl ?_; clear hA a; intro a hA
  refine S.done ?_
  replace hA : St 10 [(2, _), (3, _)] a := hA.sub ((.cons rfl (.cons rfl .nil)))
  refine Ends.ret2 Tryd.func39 Tryd.results39 hA rfl rfl ?_
  exact ⟨rfl, rfl⟩
set_option maxRecDepth 100000 in
set_option maxHeartbeats 400000 in
theorem up_any (n p : Int) (hn0 : -9223372036854775808 ≤ n) (hn1 : n ≤ 9223372036854775807) (w : World) :
    Calls Tryd.prog 41 #[.int .i64 n, .int .i64 p] w fun e w' => e = .returned (.int .i64 (packI (n / 4294967296 % 1073741824 + 1) p)) ∧ w = w' := by
  have hM := Mem.start w
  refine Calls.of_ends (vs := [.int .i64 n, .int .i64 p]) Tryd.func41 rfl Tryd.ntmps41 rfl ?_
  intro a hA
  replace hA : St 16 [(0, _), (1, _)] a := hA
  refine Ends.seq (Ends.region ?_)
  refine S.val hA (R.assign rfl) rfl ?_; clear hA a; intro a hA
  refine S.done ?_
  replace hA : St 16 [(0, _), (1, _), (4, _)] a := hA.sub ((.cons rfl (.cons rfl (.cons rfl .nil))))
  refine Ends.seq (Ends.region ?_)
  refine S.val hA (R.move rfl) rfl ?_; clear hA a; intro a hA
  refine S.call hA (R.callF Tryd.func39 rfl rfl rfl) rfl (unpack_any n (by omega) (by omega) _) ?_; clear hA a
  rintro e w1 ⟨rfl, rfl⟩
  refine ⟨.tuple #[.int .i64 (n / 4294967296 % 1073741824), .int .i64 (n % 4294967296 - 1)], rfl, fun a hA => ?_⟩
  refine S.val hA (R.move rfl) rfl ?_; clear hA a; intro a hA
  refine S.val hA (R.extract (v := .int .i64 (n / 4294967296 % 1073741824)) rfl rfl) rfl ?_; clear hA a; intro a hA
  refine S.val hA (R.extract (v := .int .i64 (n % 4294967296 - 1)) rfl rfl) rfl ?_; clear hA a; intro a hA
  refine S.val hA (R.assign rfl) rfl ?_; clear hA a; intro a hA
  refine S.val hA (R.assign rfl) rfl ?_; clear hA a; intro a hA
  refine S.done ?_
  replace hA : St 16 [(1, _), (4, _), (5, _)] a := hA.sub ((.cons rfl (.cons rfl (.cons rfl .nil))))
  refine Ends.seq (Ends.region ?_)
  refine S.val hA (R.move rfl) rfl ?_; clear hA a; intro a hA
  refine S.val hA (R.addI rfl rfl (r := (n / 4294967296 % 1073741824) + 1) rfl (by omega)) rfl ?_; clear hA a; intro a hA
  refine S.val hA (R.move rfl) rfl ?_; clear hA a; intro a hA
  refine S.call hA (R.callF Tryd.func26 rfl rfl rfl) rfl (pack_any ((n / 4294967296 % 1073741824) + 1) p (by omega) (by omega) _) ?_; clear hA a
  rintro e w2 ⟨rfl, rfl⟩
  refine ⟨.int .i64 (packI ((n / 4294967296 % 1073741824) + 1) p), rfl, fun a hA => ?_⟩
  refine S.val hA (R.assign rfl) rfl ?_; clear hA a; intro a hA
  refine S.done ?_
  replace hA : St 16 [(4, _)] a := hA.sub ((.cons rfl .nil))
  refine Ends.ret1 Tryd.func41 Tryd.results41 hA rfl ?_
  exact ⟨rfl, rfl⟩
end Go.Proofs.YtjjbognomeplbaaDoor
namespace Go.Proofs.YtjjbognomeplbaaDoor
open Go.RowKit
def linkL (l : List Int) (bs n : Int) : Nat → List Int
  | 0 => l.set bs.toNat 1
  | k + 1 => (linkL l bs n k).set (bs + 1 + k).toNat (if (k : Int) + 1 = n then -1 else (k : Int) + 1)
theorem linkL_succ (l : List Int) (bs n : Int) (k : Nat) : linkL l bs n (k + 1) = (linkL l bs n k).set (bs + 1 + k).toNat (if (k : Int) + 1 = n then -1 else (k : Int) + 1) := rfl
theorem linkL_len (l : List Int) (bs n : Int) : ∀ k, (linkL l bs n k).length = l.length
  | 0 => by simp [linkL]
  | k + 1 => by simp [linkL, linkL_len l bs n k]
theorem linkL_top (l : List Int) (bs n : Int) (h0 : 0 ≤ bs) : ∀ k : Nat, bs + 1 + k ≤ l.length → (linkL l bs n k).getD bs.toNat 0 = 1
  | 0, h => by
    show (l.set bs.toNat 1).getD bs.toNat 0 = 1
    rw [List.getD_eq_getElem?_getD, List.getElem?_set_self (by omega)]; rfl
  | k + 1, h => by
    rw [linkL_succ, List.getD_eq_getElem?_getD, List.getElem?_set_ne (by omega), ← List.getD_eq_getElem?_getD]
    exact linkL_top l bs n h0 k (by omega)
theorem linkL_at (l : List Int) (bs n : Int) (h0 : 0 ≤ bs) : ∀ k : Nat, bs + 1 + k ≤ l.length → ∀ j : Nat, j < k → (linkL l bs n k).getD (bs + 1 + j).toNat 0 = if (j : Int) + 1 = n then -1 else (j : Int) + 1
  | 0, h, j, hj => by omega
  | k + 1, h, j, hj => by
    rw [linkL_succ, List.getD_eq_getElem?_getD]
    by_cases e : j = k
    · subst e
      rw [List.getElem?_set_self (by rw [linkL_len]; omega)]; rfl
    · rw [List.getElem?_set_ne (by omega), ← List.getD_eq_getElem?_getD]
      exact linkL_at l bs n h0 k (by omega) j (by omega)
set_option maxRecDepth 100000 in
set_option maxHeartbeats 400000 in
theorem pcells_ok (n : Int) (h : 1 ≤ n ∧ n ≤ 4096) (w : World) :
    Calls Tryd.prog 14 #[.int .i64 n] w fun e w' => e = .returned (.int .i64 (n + 1)) ∧ w = w' := by
  have hM := Mem.start w
  refine Calls.of_ends (vs := [.int .i64 n]) Tryd.func14 rfl Tryd.ntmps14 rfl ?_
  intro a hA
  replace hA : St 11 [(0, _)] a := hA
  refine Ends.seq (Ends.region ?_)
  refine S.val hA (R.assign rfl) rfl ?_; clear hA a; intro a hA
  refine S.done ?_
  refine Ends.seq (Ends.seq (Ends.region ?_))
  refine S.val hA (R.move rfl) rfl ?_; clear hA a; intro a hA
  refine S.val hA (R.ff (R.lss rfl rfl) (by omega)) rfl ?_; clear hA a; intro a hA
  refine S.val hA (R.move rfl) rfl ?_; clear hA a; intro a hA
  refine S.valg (dj := 5) hA (by kernel_rfl) rfl (R.move rfl) rfl ?_; clear hA a; intro a hA
  refine S.valg (dj := 5) hA (by kernel_rfl) rfl (R.ff (R.gtr rfl rfl) (by omega)) rfl ?_; clear hA a; intro a hA
  refine S.val hA (R.pickF rfl rfl) rfl ?_; clear hA a; intro a hA
  refine S.done ?_
  replace hA : St 11 [(0, _), (8, _)] a := hA.sub ((.cons rfl (.cons rfl .nil)))
  refine Ends.condF hA rfl ?_
  refine Ends.skip (Ends.seq (Ends.region ?_))
  refine S.val hA (R.move rfl) rfl ?_; clear hA a; intro a hA
  refine S.val hA (R.addI rfl rfl (r := n + 1) rfl (by omega)) rfl ?_; clear hA a; intro a hA
  refine S.val hA (R.assign rfl) rfl ?_; clear hA a; intro a hA
  refine S.done ?_
  replace hA : St 11 [(2, _)] a := hA.sub ((.cons rfl .nil))
  refine Ends.ret1 Tryd.func14 Tryd.results14 hA rfl ?_
  exact ⟨rfl, rfl⟩
set_option maxRecDepth 100000 in
set_option maxHeartbeats 400000 in
theorem plink (p m nb ob ns ws : Nat) (bs : Int) (i : Int) (hbs : 0 ≤ bs ∧ bs ≤ 1000000) (hi : -1000000 ≤ i ∧ i ≤ 1000000) (w : World) (hp : w.heap[p]? = some (.cells #[.pointer (some ⟨m, 0, none⟩), .int .i64 bs, .slice (some ⟨nb, 0, none⟩) ns ns, .slice (some ⟨ob, 0, none⟩) ws ws] 73 (0, 0))) :
    Calls Tryd.prog 27 #[.pointer (some ⟨p, 0, none⟩), .int .i64 i] w fun e w' => e = .returned (.int .i64 (bs + 1 + i)) ∧ w = w' := by
  have hM := Mem.start w
  refine Calls.of_ends (vs := [.pointer (some ⟨p, 0, none⟩), .int .i64 i]) Tryd.func27 rfl Tryd.ntmps27 rfl ?_
  intro a hA
  replace hA : St 12 [(0, _), (1, _)] a := hA
  refine Ends.seq (Ends.region ?_)
  refine S.val hA (R.assign rfl) rfl ?_; clear hA a; intro a hA
  refine S.done ?_
  refine Ends.seq (Ends.region ?_)
  refine S.val hA (R.move rfl) rfl ?_; clear hA a; intro a hA
  refine S.val hA (R.nilCheck rfl) rfl ?_; clear hA a; intro a hA
  refine S.val hA (R.fieldAddr (q := 1) fi73_1 rfl rfl rfl) rfl ?_; clear hA a; intro a hA
  refine S.val hA (R.load sz3 rfl (hM.cellB hp rfl)) rfl ?_; clear hA a; intro a hA
  refine S.val hA (R.addI rfl rfl (r := bs + 1) rfl (by omega)) rfl ?_; clear hA a; intro a hA
  refine S.val hA (R.move rfl) rfl ?_; clear hA a; intro a hA
  refine S.val hA (R.addI rfl rfl (r := (bs + 1) + i) rfl (by omega)) rfl ?_; clear hA a; intro a hA
  refine S.val hA (R.assign rfl) rfl ?_; clear hA a; intro a hA
  refine S.done ?_
  replace hA : St 12 [(4, _)] a := hA.sub ((.cons rfl .nil))
  refine Ends.ret1 Tryd.func27 Tryd.results27 hA rfl ?_
  exact ⟨rfl, rfl⟩
set_option maxRecDepth 100000 in
set_option maxHeartbeats 400000 in
theorem ptake_ok (p m nb ob ns ws : Nat) (bs : Int) (i : Int) (h : 0 ≤ i ∧ i < ws) (w : World) (hp : w.heap[p]? = some (.cells #[.pointer (some ⟨m, 0, none⟩), .int .i64 bs, .slice (some ⟨nb, 0, none⟩) ns ns, .slice (some ⟨ob, 0, none⟩) ws ws] 73 (0, 0))) :
  Calls Tryd.prog 16 #[.pointer (some ⟨p, 0, none⟩), .int .i64 i] w fun e w' => ∃ r, e = .returned (.pointer (some ⟨r, 0, none⟩)) ∧ Mem w nof [pt r #[.pointer (some ⟨p, 0, none⟩), .int .i64 i, .bool false, .int .i64 (-1), .int .i64 0, .int .i64 0, .int .i64 0] 76] w' := by
 have hM := Mem.start w
 refine Calls.of_ends (vs := [.pointer (some ⟨p, 0, none⟩), .int .i64 i]) Tryd.func16 rfl Tryd.ntmps16 rfl ?_
 intro a hA
 replace hA : St 24 [(0, _), (1, _)] a := hA
 refine Ends.seq (Ends.region ?_)
 refine S.val hA (R.assign rfl) rfl ?_; clear hA a; intro a hA
 refine S.done ?_
 refine Ends.seq (Ends.seq (Ends.region ?_))
 refine S.val hA (R.move rfl) rfl ?_; clear hA a; intro a hA
 refine S.val hA (R.eqlNil Tryd.underlying46 rfl rfl) rfl ?_; clear hA a; intro a hA
 refine S.val hA (R.move rfl) rfl ?_; clear hA a; intro a hA
 refine S.valg (dj := 7) hA (by kernel_rfl) rfl (R.move rfl) rfl ?_; clear hA a; intro a hA
 refine S.valg (dj := 7) hA (by kernel_rfl) rfl (R.ff (R.lss rfl rfl) (by omega)) rfl ?_; clear hA a; intro a hA
 refine S.val hA (R.pickF rfl rfl) rfl ?_; clear hA a; intro a hA
 refine S.val hA (R.move rfl) rfl ?_; clear hA a; intro a hA
 refine S.valg (dj := 11) hA (by kernel_rfl) rfl (R.move rfl) rfl ?_; clear hA a; intro a hA
 refine S.valg (dj := 11) hA (by kernel_rfl) rfl (R.move rfl) rfl ?_; clear hA a; intro a hA
 refine S.valg (dj := 11) hA (by kernel_rfl) rfl (R.nilCheck rfl) rfl ?_; clear hA a; intro a hA
 refine S.valg (dj := 11) hA (by kernel_rfl) rfl (R.fieldAddr (q := 3) fi73_3 rfl rfl rfl) rfl ?_; clear hA a; intro a hA
 refine S.valg (dj := 11) hA (by kernel_rfl) rfl (R.load sz71 rfl (hM.cellB hp rfl)) rfl ?_; clear hA a; intro a hA
 refine S.valg (dj := 11) hA (by kernel_rfl) rfl (R.lenS Tryd.underlying71 rfl rfl) rfl ?_; clear hA a; intro a hA
 refine S.valg (dj := 11) hA (by kernel_rfl) rfl (R.ff (R.geq rfl rfl) (by omega)) rfl ?_; clear hA a; intro a hA
 refine S.val hA (R.pickF rfl rfl) rfl ?_; clear hA a; intro a hA
 refine S.done ?_
 replace hA : St 24 [(0, _), (1, _), (19, _)] a := hA.sub ((.cons rfl (.cons rfl (.cons rfl .nil))))
 refine Ends.condF hA rfl ?_
 refine Ends.skip (Ends.seq (Ends.region ?_))
 refine S.val hA (R.move rfl) rfl ?_; clear hA a; intro a hA
 refine S.val hA (R.move rfl) rfl ?_; clear hA a; intro a hA
 refine S.val hA (R.build (cells := #[.pointer (some ⟨p, 0, none⟩), .int .i64 i, .bool false, .int .i64 (-1), .int .i64 0, .int .i64 0, .int .i64 0]) rfl (by kernel_rfl)) rfl ?_; clear hA a; intro a hA
 refine S.box hA hM rfl rfl ?_; clear hA hM a; intro b1 w1 hb2 hM a hA
 replace hM : Mem _ _ [pt b1 #[.pointer (some ⟨p, 0, none⟩), .int .i64 i, .bool false, .int .i64 (-1), .int .i64 0, .int .i64 0, .int .i64 0] 76] _ := hM
 refine S.val hA (R.assign rfl) rfl ?_; clear hA a; intro a hA
 refine S.done ?_
 replace hA : St 24 [(4, _)] a := hA.sub ((.cons rfl .nil))
 refine Ends.ret1 Tryd.func16 Tryd.results16 hA rfl ?_
 exact ⟨_, rfl, hM⟩
set_option maxRecDepth 100000 in
set_option maxHeartbeats 400000 in
theorem pnew_ok (m c : Nat) (l : List Int) (s : Int) (o : CellOp) (hmc : m ≠ c) (bs n wk : Int) (hl : l.length ≤ 1000000) (hn : 1 ≤ n ∧ n ≤ 4096) (hwk : 1 ≤ wk ∧ wk ≤ 16) (hbs : 0 ≤ bs ∧ bs + n + 1 ≤ l.length) (hs : 0 ≤ s ∧ s ≤ 1000000) (w : World) (hM : Mem w (feet [memO m c l s o]) [memO m c l s o] w) :
  Calls Tryd.prog 15 #[.pointer (some ⟨m, 0, none⟩), .int .i64 bs, .int .i64 n, .int .i64 wk] w fun e w' => ∃ p nb ob op, e = .returned (.tuple #[.pointer (some ⟨p, 0, none⟩), .int .i64 0]) ∧ Mem w (feet [memO m c l s o]) [pt p #[.pointer (some ⟨m, 0, none⟩), .int .i64 bs, .slice (some ⟨nb, 0, none⟩) n.toNat n.toNat, .slice (some ⟨ob, 0, none⟩) wk.toNat wk.toNat] 73, pt nb (madeCells #[.slice none 0 0, .int .i64 0] (n.toNat * 2)) 115, pt ob (vals (nils wk.toNat)) 22, memO m c (linkL l bs n n.toNat) (s + 1 + n) op] w' := by
 refine Calls.of_ends (vs := [.pointer (some ⟨m, 0, none⟩), .int .i64 bs, .int .i64 n, .int .i64 wk]) Tryd.func15 rfl Tryd.ntmps15 rfl ?_
 intro a hA
 replace hA : St 71 [(0, _), (1, _), (2, _), (3, _)] a := hA
 refine Ends.seq (Ends.region ?_)
 refine S.val hA (R.assign rfl) rfl ?_; clear hA a; intro a hA
 refine S.val hA (R.assign rfl) rfl ?_; clear hA a; intro a hA
 refine S.done ?_
 refine Ends.seq (Ends.region ?_)
 refine S.val hA (R.move rfl) rfl ?_; clear hA a; intro a hA
 refine S.call hA (R.callF Tryd.func14 rfl rfl rfl) rfl (pcells_ok n hn _) ?_; clear hA a
 rintro e w1 ⟨rfl, rfl⟩
 refine ⟨.int .i64 (n + 1), rfl, fun a hA => ?_⟩
 refine S.val hA (R.assign rfl) rfl ?_; clear hA a; intro a hA
 refine S.done ?_
 replace hA : St 71 [(0, _), (1, _), (2, _), (3, _), (10, _)] a := hA.sub ((.cons rfl (.cons rfl (.cons rfl (.cons rfl (.cons rfl .nil))))))
 refine Ends.seq (Ends.seq (Ends.region ?_))
 refine S.val hA (R.move rfl) rfl ?_; clear hA a; intro a hA
 refine S.val hA (R.eqlNil Tryd.underlying42 rfl rfl) rfl ?_; clear hA a; intro a hA
 refine S.val hA (R.move rfl) rfl ?_; clear hA a; intro a hA
 refine S.valg (dj := 18) hA (by kernel_rfl) rfl (R.move rfl) rfl ?_; clear hA a; intro a hA
 refine S.valg (dj := 18) hA (by kernel_rfl) rfl (R.ff (R.eql rfl rfl) (by omega)) rfl ?_; clear hA a; intro a hA
 refine S.val hA (R.pickF rfl rfl) rfl ?_; clear hA a; intro a hA
 refine S.val hA (R.move rfl) rfl ?_; clear hA a; intro a hA
 refine S.valg (dj := 22) hA (by kernel_rfl) rfl (R.move rfl) rfl ?_; clear hA a; intro a hA
 refine S.valg (dj := 22) hA (by kernel_rfl) rfl (R.ff (R.lss rfl rfl) (by omega)) rfl ?_; clear hA a; intro a hA
 refine S.val hA (R.pickF rfl rfl) rfl ?_; clear hA a; intro a hA
 refine S.val hA (R.move rfl) rfl ?_; clear hA a; intro a hA
 refine S.valg (dj := 26) hA (by kernel_rfl) rfl (R.move rfl) rfl ?_; clear hA a; intro a hA
 refine S.valg (dj := 26) hA (by kernel_rfl) rfl (R.ff (R.gtr rfl rfl) (by omega)) rfl ?_; clear hA a; intro a hA
 refine S.val hA (R.pickF rfl rfl) rfl ?_; clear hA a; intro a hA
 refine S.val hA (R.move rfl) rfl ?_; clear hA a; intro a hA
 refine S.valg (dj := 30) hA (by kernel_rfl) rfl (R.move rfl) rfl ?_; clear hA a; intro a hA
 refine S.valg (dj := 30) hA (by kernel_rfl) rfl (R.ff (R.lss rfl rfl) (by omega)) rfl ?_; clear hA a; intro a hA
 refine S.val hA (R.pickF rfl rfl) rfl ?_; clear hA a; intro a hA
 refine S.val hA (R.move rfl) rfl ?_; clear hA a; intro a hA
 refine S.valg (dj := 34) hA (by kernel_rfl) rfl (R.move rfl) rfl ?_; clear hA a; intro a hA
 refine S.valg (dj := 34) hA (by kernel_rfl) rfl (R.move rfl) rfl ?_; clear hA a; intro a hA
 refine S.callg (dj := 34) hA (by kernel_rfl) rfl (R.callF Tryd.func24 rfl rfl rfl) rfl (size_ok m c l s o hmc _ (hM.mem (k := 0) rfl)) ?_; clear hA a
 rintro e w2 ⟨rfl, rfl⟩
 refine ⟨.int .i64 ((l.length : Int)), rfl, fun a hA => ?_⟩
 refine S.valg (dj := 34) hA (by kernel_rfl) rfl (R.move rfl) rfl ?_; clear hA a; intro a hA
 refine S.valg (dj := 34) hA (by kernel_rfl) rfl (R.subI rfl rfl (r := ((l.length : Int)) - (n + 1)) rfl (by omega)) rfl ?_; clear hA a; intro a hA
 refine S.valg (dj := 34) hA (by kernel_rfl) rfl (R.ff (R.gtr rfl rfl) (by omega)) rfl ?_; clear hA a; intro a hA
 refine S.val hA (R.pickF rfl rfl) rfl ?_; clear hA a; intro a hA
 refine S.done ?_
 replace hA : St 71 [(0, _), (1, _), (2, _), (3, _), (41, _)] a := hA.sub ((.cons rfl (.cons rfl (.cons rfl (.cons rfl (.cons rfl .nil))))))
 refine Ends.condF hA rfl ?_
 refine Ends.skip (Ends.seq ?_)
 refine Ends.drawn (Mem w (feet [memO m c l s o]) []) (.cons (0, true) (.cons (1, true) (.cons (2, true) (.cons (4, true) (.fork 3 5 (.cons (5, false) (.cons (6, true) (.cons (7, false) (.cons (8, true) .nil)))) (.cons (3, false) (.cons (6, true) (.cons (7, false) (.cons (8, true) .nil))))))))) 9 mixed (by kernel_rfl) (by kernel_rfl) (by kernel_rfl) (hM.drop 0).drew ?_
 replace hM := hM.drew
 refine D.valF hA rfl (fun _ => R.move rfl) rfl ?_; clear hA a; intro a hA
 refine D.valF hA rfl (fun _ => R.move rfl) rfl ?_; clear hA a; intro a hA
 refine D.valF hA rfl (fun _ => R.move rfl) rfl ?_; clear hA a; intro a hA
 refine D.valF hA rfl (fun _ => R.move rfl) rfl ?_; clear hA a; intro a hA
 refine D.fork rfl rfl ?_ ?_
 ·
  refine D.make hA hM rfl Tryd.underlying70 info115 rfl rfl rfl (by omega) (by show (32 : Int) * _ ≤ _; omega) (by omega) rfl ?_; clear hA hM a; intro b1 w3 hb2 hM; refine ⟨(fun hM => (hM.drop 0)) hM.tail, fun a hA => ?_⟩
  replace hM : Mem _ _ [pt b1 ((madeCells #[.slice none 0 0, .int .i64 0] (n.toNat * 2))) 115, memO m c l s o] _ := hM
  refine D.make hA hM rfl Tryd.underlying71 info22 rfl rfl rfl (by omega) (by show (24 : Int) * _ ≤ _; omega) (by omega) rfl ?_; clear hA hM a; intro b3 w4 hb4 hM; refine ⟨(fun hM => ((hM.drop 1).drop 0)) hM.tail, fun a hA => ?_⟩
  replace hM : Mem _ _ [pt b3 (madeCells #[.slice none 0 0] (wk.toNat * 1)) 22, pt b1 ((madeCells #[.slice none 0 0, .int .i64 0] (n.toNat * 2))) 115, memO m c l s o] _ := hM
  rw [Nat.mul_one, made_vals] at hM
  replace hM : Mem _ _ [pt b3 ((vals (nils wk.toNat))) 22, pt b1 ((madeCells #[.slice none 0 0, .int .i64 0] (n.toNat * 2))) 115, memO m c l s o] _ := hM
  refine D.valF hA rfl (fun _ => R.build (cells := #[.pointer (some ⟨m, 0, none⟩), .int .i64 bs, .slice (some ⟨b1, 0, none⟩) n.toNat n.toNat, .slice (some ⟨b3, 0, none⟩) wk.toNat wk.toNat]) rfl (by kernel_rfl)) rfl ?_; clear hA a; intro a hA
  refine D.box hA hM rfl rfl rfl ?_; clear hA hM a; intro b5 w5 hb6 hM; refine ⟨(fun hM => (((hM.drop 2).drop 1).drop 0)) hM.tail, fun a hA => ?_⟩
  replace hM : Mem _ _ [pt b5 #[.pointer (some ⟨m, 0, none⟩), .int .i64 bs, .slice (some ⟨b1, 0, none⟩) n.toNat n.toNat, .slice (some ⟨b3, 0, none⟩) wk.toNat wk.toNat] 73, pt b3 ((vals (nils wk.toNat))) 22, pt b1 ((madeCells #[.slice none 0 0, .int .i64 0] (n.toNat * 2))) 115, memO m c l s o] _ := hM
  refine D.valF hA rfl (fun _ => R.assign rfl) rfl ?_; clear hA a; intro a hA
  refine D.done ?_
  replace hA : St 71 [(0, _), (1, _), (2, _), (11, _)] a := hA.sub ((.cons rfl (.cons rfl (.cons rfl (.cons rfl .nil)))))
  refine Ends.seq (Ends.region ?_)
  refine S.val hA (R.move rfl) rfl ?_; clear hA a; intro a hA
  refine S.val hA (R.move rfl) rfl ?_; clear hA a; intro a hA
  refine S.call hA (R.callF Tryd.func26 rfl rfl rfl) rfl (pack_in 0 0 (by omega) (by omega) _) ?_; clear hA a
  rintro e w6 ⟨rfl, rfl⟩
  refine ⟨.int .i64 1, rfl, fun a hA => ?_⟩
  refine S.call hA (R.callF Tryd.func25 rfl rfl rfl) rfl (set_ok m c l s o hmc bs 1 (by omega) (by omega) (by omega) _ (hM.mem (k := 3) rfl)) ?_; clear hA a
  rintro e w7 ⟨rfl, hn⟩
  replace hM : Mem _ _ [memO m c ((linkL l bs n 0)) (s + 1) ⟨2, bs, l.getD bs.toNat 0, 1, true⟩, pt b5 #[.pointer (some ⟨m, 0, none⟩), .int .i64 bs, .slice (some ⟨b1, 0, none⟩) n.toNat n.toNat, .slice (some ⟨b3, 0, none⟩) wk.toNat wk.toNat] 73, pt b3 ((vals (nils wk.toNat))) 22, pt b1 ((madeCells #[.slice none 0 0, .int .i64 0] (n.toNat * 2))) 115] _ := hM.callW (k := 3) rfl hn (fun _ h => h); clear hn
  refine ⟨.int .i64 0, rfl, fun a hA => ?_⟩
  refine S.done ?_
  replace hA : St 71 [(0, _), (2, _), (11, _)] a := hA.sub ((.cons rfl (.cons rfl (.cons rfl .nil))))
  refine Ends.seq (Ends.seq (Ends.region ?_))
  refine S.val hA (R.move rfl) rfl ?_; clear hA a; intro a hA
  refine S.val hA (R.move rfl) rfl ?_; clear hA a; intro a hA
  refine S.done ?_
  refine Ends.block ?_
  replace hM : Mem _ _ [memO m c ((linkL l bs n 0)) (s + 1 + ((0 : Nat) : Int)) ⟨2, bs, l.getD bs.toNat 0, 1, true⟩, pt b5 #[.pointer (some ⟨m, 0, none⟩), .int .i64 bs, .slice (some ⟨b1, 0, none⟩) n.toNat n.toNat, .slice (some ⟨b3, 0, none⟩) wk.toNat wk.toNat] 73, pt b3 ((vals (nils wk.toNat))) 22, pt b1 ((madeCells #[.slice none 0 0, .int .i64 0] (n.toNat * 2))) 115] _ := (show s + 1 + ((0 : Nat) : Int) = s + 1 by omega) ▸ hM
  refine Ends.loop (σ := Nat × CellOp) (fun (k, op) (a : Act) (wv : World) => St 71 [(0, .pointer (some ⟨m, 0, none⟩)), (2, .int .i64 n), (11, .pointer (some ⟨b5, 0, none⟩)), (54, .int .i64 n), (55, .int .i64 ((k : Int)))] a ∧ Mem w (feet [memO m c l s o]) [memO m c ((linkL l bs n k)) (s + 1 + k) op, pt b5 #[.pointer (some ⟨m, 0, none⟩), .int .i64 bs, .slice (some ⟨b1, 0, none⟩) n.toNat n.toNat, .slice (some ⟨b3, 0, none⟩) wk.toNat wk.toNat] 73, pt b3 ((vals (nils wk.toNat))) 22, pt b1 ((madeCells #[.slice none 0 0, .int .i64 0] (n.toNat * 2))) 115] wv ∧ ((k : Int) ≤ n)) (fun (k, op) => n.toNat - k) ((0, ⟨2, bs, l.getD bs.toNat 0, 1, true⟩)) ⟨hA.sub ((.cons rfl (.cons rfl (.cons rfl (.cons rfl (.cons rfl .nil)))))), hM, (by omega)⟩ ?_
  clear hA hM a
  rintro ⟨k, op⟩ a w8 ⟨hA, hM, hk⟩ hNext
  refine Ends.seq (Ends.region ?_)
  refine S.val hA (R.lss rfl rfl) rfl ?_; clear hA a; intro a hA
  refine S.done ?_
  refine Ends.seq ?_
  refine Ends.ite hA rfl (fun hc7 => ?_) (fun hc7 => ?_)
  ·
   refine Ends.skip (Ends.seq (Ends.block (Ends.seq (Ends.region ?_))))
   refine S.val hA (R.move rfl) rfl ?_; clear hA a; intro a hA
   refine S.val hA (R.assign rfl) rfl ?_; clear hA a; intro a hA
   refine S.done ?_
   refine Ends.seq (Ends.region ?_)
   refine S.val hA (R.move rfl) rfl ?_; clear hA a; intro a hA
   refine S.val hA (R.addI rfl rfl (r := ((k : Int)) + 1) rfl (by omega)) rfl ?_; clear hA a; intro a hA
   refine S.val hA (R.assign rfl) rfl ?_; clear hA a; intro a hA
   refine S.done ?_
   replace hA : St 71 [(0, _), (2, _), (11, _), (12, _), (13, _), (54, _), (55, _)] a := hA.sub ((.cons rfl (.cons rfl (.cons rfl (.cons rfl (.cons rfl (.cons rfl (.cons rfl .nil))))))))
   refine Ends.seq (Ends.seq (Ends.region ?_))
   refine S.val hA (R.move rfl) rfl ?_; clear hA a; intro a hA
   refine S.val hA (R.move rfl) rfl ?_; clear hA a; intro a hA
   refine S.val hA (R.eql rfl rfl) rfl ?_; clear hA a; intro a hA
   refine S.done ?_
   refine Ends.ite hA rfl (fun hc8 => ?_) (fun hc8 => ?_)
   ·
    refine Ends.region ?_
    refine S.val hA (R.assign rfl) rfl ?_; clear hA a; intro a hA
    refine S.done ?_
    refine Ends.region ?_
    refine S.val hA (R.move rfl) rfl ?_; clear hA a; intro a hA
    refine S.val hA (R.move rfl) rfl ?_; clear hA a; intro a hA
    refine S.val hA (R.move rfl) rfl ?_; clear hA a; intro a hA
    refine S.call hA (R.callF Tryd.func27 rfl rfl rfl) rfl (plink b5 m b1 b3 n.toNat wk.toNat bs ((k : Int)) (by omega) (by omega) _ (hM.block (k := 1) rfl)) ?_; clear hA a
    rintro e w9 ⟨rfl, rfl⟩
    refine ⟨.int .i64 (bs + 1 + ((k : Int))), rfl, fun a hA => ?_⟩
    refine S.val hA (R.move rfl) rfl ?_; clear hA a; intro a hA
    refine S.call hA (R.callF Tryd.func25 rfl rfl rfl) rfl (set_ok m c ((linkL l bs n k)) (s + 1 + k) op hmc (bs + 1 + ((k : Int))) (-1) (by omega) (by rw [linkL_len]; omega) (by omega) _ (hM.mem (k := 0) rfl)) ?_; clear hA a
    rintro e w10 ⟨rfl, hn⟩
    replace hM : Mem _ _ [memO m c (((linkL l bs n k).set (bs + 1 + ((k : Int))).toNat (-1))) (s + 1 + k + 1) ⟨2, bs + 1 + ((k : Int)), (linkL l bs n k).getD (bs + 1 + ((k : Int))).toNat 0, -1, true⟩, pt b5 #[.pointer (some ⟨m, 0, none⟩), .int .i64 bs, .slice (some ⟨b1, 0, none⟩) n.toNat n.toNat, .slice (some ⟨b3, 0, none⟩) wk.toNat wk.toNat] 73, pt b3 ((vals (nils wk.toNat))) 22, pt b1 ((madeCells #[.slice none 0 0, .int .i64 0] (n.toNat * 2))) 115] _ := hM.callW (k := 0) rfl hn (fun _ h => h); clear hn
    refine ⟨.int .i64 0, rfl, fun a hA => ?_⟩
    refine S.done ?_
    replace hA : St 71 [(0, _), (2, _), (11, _), (54, _), (55, _)] a := hA.sub ((.cons rfl (.cons rfl (.cons rfl (.cons rfl (.cons rfl .nil))))))
    refine Ends.inBlock (Ends.region ?_)
    refine S.val hA (R.addI rfl rfl (r := ((k : Int)) + 1) rfl (by omega)) rfl ?_; clear hA a; intro a hA
    refine S.val hA (R.move rfl) rfl ?_; clear hA a; intro a hA
    refine S.done ?_
    rw [show ((linkL l bs n k).set (bs + 1 + ((k : Int))).toNat (-1)) = linkL l bs n (k + 1) by rw [linkL_succ, if_pos (by omega)], show s + 1 + (k : Int) + 1 = s + 1 + ((k + 1 : Nat) : Int) by omega] at hM
    exact hNext ((k + 1, ⟨2, bs + 1 + ((k : Int)), (linkL l bs n k).getD (bs + 1 + ((k : Int))).toNat 0, -1, true⟩)) _ _ ((by show n.toNat - (k + 1) < n.toNat - k; omega)) ⟨hA.sub ((.cons rfl (.cons rfl (.cons rfl (.cons rfl (.cons rfl .nil)))))), hM, (by omega)⟩
   ·
    refine Ends.skip (Ends.region ?_)
    refine S.val hA (R.move rfl) rfl ?_; clear hA a; intro a hA
    refine S.val hA (R.move rfl) rfl ?_; clear hA a; intro a hA
    refine S.val hA (R.move rfl) rfl ?_; clear hA a; intro a hA
    refine S.call hA (R.callF Tryd.func27 rfl rfl rfl) rfl (plink b5 m b1 b3 n.toNat wk.toNat bs ((k : Int)) (by omega) (by omega) _ (hM.block (k := 1) rfl)) ?_; clear hA a
    rintro e w11 ⟨rfl, rfl⟩
    refine ⟨.int .i64 (bs + 1 + ((k : Int))), rfl, fun a hA => ?_⟩
    refine S.val hA (R.move rfl) rfl ?_; clear hA a; intro a hA
    refine S.call hA (R.callF Tryd.func25 rfl rfl rfl) rfl (set_ok m c ((linkL l bs n k)) (s + 1 + k) op hmc (bs + 1 + ((k : Int))) (((k : Int)) + 1) (by omega) (by rw [linkL_len]; omega) (by omega) _ (hM.mem (k := 0) rfl)) ?_; clear hA a
    rintro e w12 ⟨rfl, hn⟩
    replace hM : Mem _ _ [memO m c (((linkL l bs n k).set (bs + 1 + ((k : Int))).toNat (((k : Int)) + 1))) (s + 1 + k + 1) ⟨2, bs + 1 + ((k : Int)), (linkL l bs n k).getD (bs + 1 + ((k : Int))).toNat 0, ((k : Int)) + 1, true⟩, pt b5 #[.pointer (some ⟨m, 0, none⟩), .int .i64 bs, .slice (some ⟨b1, 0, none⟩) n.toNat n.toNat, .slice (some ⟨b3, 0, none⟩) wk.toNat wk.toNat] 73, pt b3 ((vals (nils wk.toNat))) 22, pt b1 ((madeCells #[.slice none 0 0, .int .i64 0] (n.toNat * 2))) 115] _ := hM.callW (k := 0) rfl hn (fun _ h => h); clear hn
    refine ⟨.int .i64 0, rfl, fun a hA => ?_⟩
    refine S.done ?_
    replace hA : St 71 [(0, _), (2, _), (11, _), (54, _), (55, _)] a := hA.sub ((.cons rfl (.cons rfl (.cons rfl (.cons rfl (.cons rfl .nil))))))
    refine Ends.inBlock (Ends.region ?_)
    refine S.val hA (R.addI rfl rfl (r := ((k : Int)) + 1) rfl (by omega)) rfl ?_; clear hA a; intro a hA
    refine S.val hA (R.move rfl) rfl ?_; clear hA a; intro a hA
    refine S.done ?_
    rw [show ((linkL l bs n k).set (bs + 1 + ((k : Int))).toNat (((k : Int)) + 1)) = linkL l bs n (k + 1) by rw [linkL_succ, if_neg (by omega)], show s + 1 + (k : Int) + 1 = s + 1 + ((k + 1 : Nat) : Int) by omega] at hM
    exact hNext ((k + 1, ⟨2, bs + 1 + ((k : Int)), (linkL l bs n k).getD (bs + 1 + ((k : Int))).toNat 0, ((k : Int)) + 1, true⟩)) _ _ ((by show n.toNat - (k + 1) < n.toNat - k; omega)) ⟨hA.sub ((.cons rfl (.cons rfl (.cons rfl (.cons rfl (.cons rfl .nil)))))), hM, (by omega)⟩
  ·
   have hkn : k = n.toNat := by omega
   subst hkn
   refine Ends.exit rfl ?_
   refine Ends.seq (Ends.region ?_)
   refine S.val hA (R.move rfl) rfl ?_; clear hA a; intro a hA
   refine S.val hA (R.assign rfl) rfl ?_; clear hA a; intro a hA
   refine S.val hA (R.assign rfl) rfl ?_; clear hA a; intro a hA
   refine S.done ?_
   replace hA : St 71 [(8, _), (9, _)] a := hA.sub ((.cons rfl (.cons rfl .nil)))
   refine Ends.ret2 Tryd.func15 Tryd.results15 hA rfl rfl ?_
   replace hM := hM.front (k := 2) rfl
   replace hM := hM.front (k := 3) rfl
   replace hM := hM.front (k := 3) rfl
   replace hM : Mem _ _ [pt b5 #[.pointer (some ⟨m, 0, none⟩), .int .i64 bs, .slice (some ⟨b1, 0, none⟩) n.toNat n.toNat, .slice (some ⟨b3, 0, none⟩) wk.toNat wk.toNat] 73, pt b1 ((madeCells #[.slice none 0 0, .int .i64 0] (n.toNat * 2))) 115, pt b3 ((vals (nils wk.toNat))) 22, memO m c ((linkL l bs n n.toNat)) (s + 1 + ((n.toNat : Nat) : Int)) op] _ := hM
   rw [show s + 1 + ((n.toNat : Nat) : Int) = s + 1 + n by omega] at hM
   exact ⟨_, _, _, _, rfl, hM⟩
 ·
  refine D.make hA hM rfl Tryd.underlying71 info22 rfl rfl rfl (by omega) (by show (24 : Int) * _ ≤ _; omega) (by omega) rfl ?_; clear hA hM a; intro b9 w13 hb10 hM; refine ⟨(fun hM => (hM.drop 0)) hM.tail, fun a hA => ?_⟩
  replace hM : Mem _ _ [pt b9 (madeCells #[.slice none 0 0] (wk.toNat * 1)) 22, memO m c l s o] _ := hM
  rw [Nat.mul_one, made_vals] at hM
  replace hM : Mem _ _ [pt b9 ((vals (nils wk.toNat))) 22, memO m c l s o] _ := hM
  refine D.make hA hM rfl Tryd.underlying70 info115 rfl rfl rfl (by omega) (by show (32 : Int) * _ ≤ _; omega) (by omega) rfl ?_; clear hA hM a; intro b11 w14 hb12 hM; refine ⟨(fun hM => ((hM.drop 1).drop 0)) hM.tail, fun a hA => ?_⟩
  replace hM : Mem _ _ [pt b11 ((madeCells #[.slice none 0 0, .int .i64 0] (n.toNat * 2))) 115, pt b9 ((vals (nils wk.toNat))) 22, memO m c l s o] _ := hM
  refine D.valF hA rfl (fun _ => R.build (cells := #[.pointer (some ⟨m, 0, none⟩), .int .i64 bs, .slice (some ⟨b11, 0, none⟩) n.toNat n.toNat, .slice (some ⟨b9, 0, none⟩) wk.toNat wk.toNat]) rfl (by kernel_rfl)) rfl ?_; clear hA a; intro a hA
  refine D.box hA hM rfl rfl rfl ?_; clear hA hM a; intro b13 w15 hb14 hM; refine ⟨(fun hM => (((hM.drop 2).drop 1).drop 0)) hM.tail, fun a hA => ?_⟩
  replace hM : Mem _ _ [pt b13 #[.pointer (some ⟨m, 0, none⟩), .int .i64 bs, .slice (some ⟨b11, 0, none⟩) n.toNat n.toNat, .slice (some ⟨b9, 0, none⟩) wk.toNat wk.toNat] 73, pt b11 ((madeCells #[.slice none 0 0, .int .i64 0] (n.toNat * 2))) 115, pt b9 ((vals (nils wk.toNat))) 22, memO m c l s o] _ := hM
  refine D.valF hA rfl (fun _ => R.assign rfl) rfl ?_; clear hA a; intro a hA
  refine D.done ?_
  replace hA : St 71 [(0, _), (1, _), (2, _), (11, _)] a := hA.sub ((.cons rfl (.cons rfl (.cons rfl (.cons rfl .nil)))))
  refine Ends.seq (Ends.region ?_)
  refine S.val hA (R.move rfl) rfl ?_; clear hA a; intro a hA
  refine S.val hA (R.move rfl) rfl ?_; clear hA a; intro a hA
  refine S.call hA (R.callF Tryd.func26 rfl rfl rfl) rfl (pack_in 0 0 (by omega) (by omega) _) ?_; clear hA a
  rintro e w16 ⟨rfl, rfl⟩
  refine ⟨.int .i64 1, rfl, fun a hA => ?_⟩
  refine S.call hA (R.callF Tryd.func25 rfl rfl rfl) rfl (set_ok m c l s o hmc bs 1 (by omega) (by omega) (by omega) _ (hM.mem (k := 3) rfl)) ?_; clear hA a
  rintro e w17 ⟨rfl, hn⟩
  replace hM : Mem _ _ [memO m c ((linkL l bs n 0)) (s + 1) ⟨2, bs, l.getD bs.toNat 0, 1, true⟩, pt b13 #[.pointer (some ⟨m, 0, none⟩), .int .i64 bs, .slice (some ⟨b11, 0, none⟩) n.toNat n.toNat, .slice (some ⟨b9, 0, none⟩) wk.toNat wk.toNat] 73, pt b11 ((madeCells #[.slice none 0 0, .int .i64 0] (n.toNat * 2))) 115, pt b9 ((vals (nils wk.toNat))) 22] _ := hM.callW (k := 3) rfl hn (fun _ h => h); clear hn
  refine ⟨.int .i64 0, rfl, fun a hA => ?_⟩
  refine S.done ?_
  replace hA : St 71 [(0, _), (2, _), (11, _)] a := hA.sub ((.cons rfl (.cons rfl (.cons rfl .nil))))
  refine Ends.seq (Ends.seq (Ends.region ?_))
  refine S.val hA (R.move rfl) rfl ?_; clear hA a; intro a hA
  refine S.val hA (R.move rfl) rfl ?_; clear hA a; intro a hA
  refine S.done ?_
  refine Ends.block ?_
  replace hM : Mem _ _ [memO m c ((linkL l bs n 0)) (s + 1 + ((0 : Nat) : Int)) ⟨2, bs, l.getD bs.toNat 0, 1, true⟩, pt b13 #[.pointer (some ⟨m, 0, none⟩), .int .i64 bs, .slice (some ⟨b11, 0, none⟩) n.toNat n.toNat, .slice (some ⟨b9, 0, none⟩) wk.toNat wk.toNat] 73, pt b11 ((madeCells #[.slice none 0 0, .int .i64 0] (n.toNat * 2))) 115, pt b9 ((vals (nils wk.toNat))) 22] _ := (show s + 1 + ((0 : Nat) : Int) = s + 1 by omega) ▸ hM
  refine Ends.loop (σ := Nat × CellOp) (fun (k, op) (a : Act) (wv : World) => St 71 [(0, .pointer (some ⟨m, 0, none⟩)), (2, .int .i64 n), (11, .pointer (some ⟨b13, 0, none⟩)), (54, .int .i64 n), (55, .int .i64 ((k : Int)))] a ∧ Mem w (feet [memO m c l s o]) [memO m c ((linkL l bs n k)) (s + 1 + k) op, pt b13 #[.pointer (some ⟨m, 0, none⟩), .int .i64 bs, .slice (some ⟨b11, 0, none⟩) n.toNat n.toNat, .slice (some ⟨b9, 0, none⟩) wk.toNat wk.toNat] 73, pt b11 ((madeCells #[.slice none 0 0, .int .i64 0] (n.toNat * 2))) 115, pt b9 ((vals (nils wk.toNat))) 22] wv ∧ ((k : Int) ≤ n)) (fun (k, op) => n.toNat - k) ((0, ⟨2, bs, l.getD bs.toNat 0, 1, true⟩)) ⟨hA.sub ((.cons rfl (.cons rfl (.cons rfl (.cons rfl (.cons rfl .nil)))))), hM, (by omega)⟩ ?_
  clear hA hM a
  rintro ⟨k, op⟩ a w18 ⟨hA, hM, hk⟩ hNext
  refine Ends.seq (Ends.region ?_)
  refine S.val hA (R.lss rfl rfl) rfl ?_; clear hA a; intro a hA
  refine S.done ?_
  refine Ends.seq ?_
  refine Ends.ite hA rfl (fun hc15 => ?_) (fun hc15 => ?_)
  ·
   refine Ends.skip (Ends.seq (Ends.block (Ends.seq (Ends.region ?_))))
   refine S.val hA (R.move rfl) rfl ?_; clear hA a; intro a hA
   refine S.val hA (R.assign rfl) rfl ?_; clear hA a; intro a hA
   refine S.done ?_
   refine Ends.seq (Ends.region ?_)
   refine S.val hA (R.move rfl) rfl ?_; clear hA a; intro a hA
   refine S.val hA (R.addI rfl rfl (r := ((k : Int)) + 1) rfl (by omega)) rfl ?_; clear hA a; intro a hA
   refine S.val hA (R.assign rfl) rfl ?_; clear hA a; intro a hA
   refine S.done ?_
   replace hA : St 71 [(0, _), (2, _), (11, _), (12, _), (13, _), (54, _), (55, _)] a := hA.sub ((.cons rfl (.cons rfl (.cons rfl (.cons rfl (.cons rfl (.cons rfl (.cons rfl .nil))))))))
   refine Ends.seq (Ends.seq (Ends.region ?_))
   refine S.val hA (R.move rfl) rfl ?_; clear hA a; intro a hA
   refine S.val hA (R.move rfl) rfl ?_; clear hA a; intro a hA
   refine S.val hA (R.eql rfl rfl) rfl ?_; clear hA a; intro a hA
   refine S.done ?_
   refine Ends.ite hA rfl (fun hc16 => ?_) (fun hc16 => ?_)
   ·
    refine Ends.region ?_
    refine S.val hA (R.assign rfl) rfl ?_; clear hA a; intro a hA
    refine S.done ?_
    refine Ends.region ?_
    refine S.val hA (R.move rfl) rfl ?_; clear hA a; intro a hA
    refine S.val hA (R.move rfl) rfl ?_; clear hA a; intro a hA
    refine S.val hA (R.move rfl) rfl ?_; clear hA a; intro a hA
    refine S.call hA (R.callF Tryd.func27 rfl rfl rfl) rfl (plink b13 m b11 b9 n.toNat wk.toNat bs ((k : Int)) (by omega) (by omega) _ (hM.block (k := 1) rfl)) ?_; clear hA a
    rintro e w19 ⟨rfl, rfl⟩
    refine ⟨.int .i64 (bs + 1 + ((k : Int))), rfl, fun a hA => ?_⟩
    refine S.val hA (R.move rfl) rfl ?_; clear hA a; intro a hA
    refine S.call hA (R.callF Tryd.func25 rfl rfl rfl) rfl (set_ok m c ((linkL l bs n k)) (s + 1 + k) op hmc (bs + 1 + ((k : Int))) (-1) (by omega) (by rw [linkL_len]; omega) (by omega) _ (hM.mem (k := 0) rfl)) ?_; clear hA a
    rintro e w20 ⟨rfl, hn⟩
    replace hM : Mem _ _ [memO m c (((linkL l bs n k).set (bs + 1 + ((k : Int))).toNat (-1))) (s + 1 + k + 1) ⟨2, bs + 1 + ((k : Int)), (linkL l bs n k).getD (bs + 1 + ((k : Int))).toNat 0, -1, true⟩, pt b13 #[.pointer (some ⟨m, 0, none⟩), .int .i64 bs, .slice (some ⟨b11, 0, none⟩) n.toNat n.toNat, .slice (some ⟨b9, 0, none⟩) wk.toNat wk.toNat] 73, pt b11 ((madeCells #[.slice none 0 0, .int .i64 0] (n.toNat * 2))) 115, pt b9 ((vals (nils wk.toNat))) 22] _ := hM.callW (k := 0) rfl hn (fun _ h => h); clear hn
    refine ⟨.int .i64 0, rfl, fun a hA => ?_⟩
    refine S.done ?_
    replace hA : St 71 [(0, _), (2, _), (11, _), (54, _), (55, _)] a := hA.sub ((.cons rfl (.cons rfl (.cons rfl (.cons rfl (.cons rfl .nil))))))
    refine Ends.inBlock (Ends.region ?_)
    refine S.val hA (R.addI rfl rfl (r := ((k : Int)) + 1) rfl (by omega)) rfl ?_; clear hA a; intro a hA
    refine S.val hA (R.move rfl) rfl ?_; clear hA a; intro a hA
    refine S.done ?_
    rw [show ((linkL l bs n k).set (bs + 1 + ((k : Int))).toNat (-1)) = linkL l bs n (k + 1) by rw [linkL_succ, if_pos (by omega)], show s + 1 + (k : Int) + 1 = s + 1 + ((k + 1 : Nat) : Int) by omega] at hM
    exact hNext ((k + 1, ⟨2, bs + 1 + ((k : Int)), (linkL l bs n k).getD (bs + 1 + ((k : Int))).toNat 0, -1, true⟩)) _ _ ((by show n.toNat - (k + 1) < n.toNat - k; omega)) ⟨hA.sub ((.cons rfl (.cons rfl (.cons rfl (.cons rfl (.cons rfl .nil)))))), hM, (by omega)⟩
   ·
    refine Ends.skip (Ends.region ?_)
    refine S.val hA (R.move rfl) rfl ?_; clear hA a; intro a hA
    refine S.val hA (R.move rfl) rfl ?_; clear hA a; intro a hA
    refine S.val hA (R.move rfl) rfl ?_; clear hA a; intro a hA
    refine S.call hA (R.callF Tryd.func27 rfl rfl rfl) rfl (plink b13 m b11 b9 n.toNat wk.toNat bs ((k : Int)) (by omega) (by omega) _ (hM.block (k := 1) rfl)) ?_; clear hA a
    rintro e w21 ⟨rfl, rfl⟩
    refine ⟨.int .i64 (bs + 1 + ((k : Int))), rfl, fun a hA => ?_⟩
    refine S.val hA (R.move rfl) rfl ?_; clear hA a; intro a hA
    refine S.call hA (R.callF Tryd.func25 rfl rfl rfl) rfl (set_ok m c ((linkL l bs n k)) (s + 1 + k) op hmc (bs + 1 + ((k : Int))) (((k : Int)) + 1) (by omega) (by rw [linkL_len]; omega) (by omega) _ (hM.mem (k := 0) rfl)) ?_; clear hA a
    rintro e w22 ⟨rfl, hn⟩
    replace hM : Mem _ _ [memO m c (((linkL l bs n k).set (bs + 1 + ((k : Int))).toNat (((k : Int)) + 1))) (s + 1 + k + 1) ⟨2, bs + 1 + ((k : Int)), (linkL l bs n k).getD (bs + 1 + ((k : Int))).toNat 0, ((k : Int)) + 1, true⟩, pt b13 #[.pointer (some ⟨m, 0, none⟩), .int .i64 bs, .slice (some ⟨b11, 0, none⟩) n.toNat n.toNat, .slice (some ⟨b9, 0, none⟩) wk.toNat wk.toNat] 73, pt b11 ((madeCells #[.slice none 0 0, .int .i64 0] (n.toNat * 2))) 115, pt b9 ((vals (nils wk.toNat))) 22] _ := hM.callW (k := 0) rfl hn (fun _ h => h); clear hn
    refine ⟨.int .i64 0, rfl, fun a hA => ?_⟩
    refine S.done ?_
    replace hA : St 71 [(0, _), (2, _), (11, _), (54, _), (55, _)] a := hA.sub ((.cons rfl (.cons rfl (.cons rfl (.cons rfl (.cons rfl .nil))))))
    refine Ends.inBlock (Ends.region ?_)
    refine S.val hA (R.addI rfl rfl (r := ((k : Int)) + 1) rfl (by omega)) rfl ?_; clear hA a; intro a hA
    refine S.val hA (R.move rfl) rfl ?_; clear hA a; intro a hA
    refine S.done ?_
    rw [show ((linkL l bs n k).set (bs + 1 + ((k : Int))).toNat (((k : Int)) + 1)) = linkL l bs n (k + 1) by rw [linkL_succ, if_neg (by omega)], show s + 1 + (k : Int) + 1 = s + 1 + ((k + 1 : Nat) : Int) by omega] at hM
    exact hNext ((k + 1, ⟨2, bs + 1 + ((k : Int)), (linkL l bs n k).getD (bs + 1 + ((k : Int))).toNat 0, ((k : Int)) + 1, true⟩)) _ _ ((by show n.toNat - (k + 1) < n.toNat - k; omega)) ⟨hA.sub ((.cons rfl (.cons rfl (.cons rfl (.cons rfl (.cons rfl .nil)))))), hM, (by omega)⟩
  ·
   have hkn : k = n.toNat := by omega
   subst hkn
   refine Ends.exit rfl ?_
   refine Ends.seq (Ends.region ?_)
   refine S.val hA (R.move rfl) rfl ?_; clear hA a; intro a hA
   refine S.val hA (R.assign rfl) rfl ?_; clear hA a; intro a hA
   refine S.val hA (R.assign rfl) rfl ?_; clear hA a; intro a hA
   refine S.done ?_
   replace hA : St 71 [(8, _), (9, _)] a := hA.sub ((.cons rfl (.cons rfl .nil)))
   refine Ends.ret2 Tryd.func15 Tryd.results15 hA rfl rfl ?_
   replace hM := hM.front (k := 3) rfl
   replace hM := hM.front (k := 3) rfl
   replace hM := hM.front (k := 3) rfl
   replace hM : Mem _ _ [pt b13 #[.pointer (some ⟨m, 0, none⟩), .int .i64 bs, .slice (some ⟨b11, 0, none⟩) n.toNat n.toNat, .slice (some ⟨b9, 0, none⟩) wk.toNat wk.toNat] 73, pt b11 ((madeCells #[.slice none 0 0, .int .i64 0] (n.toNat * 2))) 115, pt b9 ((vals (nils wk.toNat))) 22, memO m c ((linkL l bs n n.toNat)) (s + 1 + ((n.toNat : Nat) : Int)) op] _ := hM
   rw [show s + 1 + ((n.toNat : Nat) : Int) = s + 1 + n by omega] at hM
   exact ⟨_, _, _, _, rfl, hM⟩
end Go.Proofs.YtjjbognomeplbaaDoor
namespace Go.Proofs.YtjjbognomeplbaaDoor
structure PAct where
  give : Bool
  slot : Int
  ph : Int
  top : Int
  next : Int
structure PSt where
  t : PAct
  Y : List Int
  l : List Int
  s : Int
def atI (x : Int) : Int := x % 4294967296 - 1
def upI (x p : Int) : Int := packI (x / 4294967296 % 1073741824 + 1) p
def pstep (bs : Int) (z : PSt) : PSt :=
  if z.t.ph = 0 then
    if z.t.give = true ∧ z.Y.length < 2 then ⟨{ z.t with ph := 3 }, z.Y ++ [z.t.slot], z.l, z.s⟩
    else if z.t.give = false ∧ 0 < z.Y.length then ⟨{ z.t with ph := 3, slot := z.Y.getD (z.Y.length - 1) 0 }, z.Y.take (z.Y.length - 1), z.l, z.s⟩
    else ⟨{ z.t with top := z.l.getD bs.toNat 0, ph := if z.t.give = false ∧ atI (z.l.getD bs.toNat 0) < 0 then 3 else 1 }, z.Y, z.l, z.s + 1⟩
  else if z.t.ph = 1 then
    if z.t.give = true then ⟨{ z.t with ph := 2 }, z.Y, z.l.set (bs + 1 + z.t.slot).toNat (atI z.t.top), z.s + 1⟩
    else ⟨{ z.t with ph := 2, next := z.l.getD (bs + 1 + atI z.t.top).toNat 0 }, z.Y, z.l, z.s + 1⟩
  else if z.t.ph = 2 then
    if z.l.getD bs.toNat 0 = z.t.top then ⟨{ z.t with ph := 3, slot := if z.t.give = true then z.t.slot else atI z.t.top }, z.Y, z.l.set bs.toNat (upI z.t.top (if z.t.give = true then z.t.slot else z.t.next)), z.s + 1⟩
    else ⟨{ z.t with ph := 0 }, z.Y, z.l, z.s + 1⟩
  else z
def TopOK (n x : Int) : Prop := 0 ≤ x ∧ x < 4611686018427387904 ∧ atI x < n
def MI (bs n : Int) (l : List Int) : Prop :=
  0 ≤ bs ∧ 1 ≤ n ∧ n ≤ 4096 ∧ bs + n + 1 ≤ l.length ∧ l.length ≤ 1000000 ∧ TopOK n (l.getD bs.toNat 0) ∧ ∀ j : Int, 0 ≤ j → j < n → -1 ≤ l.getD (bs + 1 + j).toNat 0 ∧ l.getD (bs + 1 + j).toNat 0 < n
def AOK (n : Int) (t : PAct) : Prop :=
  (t.give = true → 0 ≤ t.slot ∧ t.slot < n) ∧ (t.ph = 0 ∨ t.ph = 1 ∨ t.ph = 2 ∨ t.ph = 3) ∧ (t.ph = 1 ∨ t.ph = 2 → TopOK n t.top ∧ (t.give = false → 0 ≤ atI t.top)) ∧ (t.ph = 2 → t.give = false → -1 ≤ t.next ∧ t.next < n)
def YOK (n : Int) (Y : List Int) : Prop := ∀ y ∈ Y, 0 ≤ y ∧ y < n
def SOK (bs n : Int) (z : PSt) : Prop := MI bs n z.l ∧ AOK n z.t ∧ YOK n z.Y ∧ z.Y.length ≤ 2 ∧ 0 ≤ z.s
theorem atI_low (x : Int) : -1 ≤ atI x := by unfold atI; omega
theorem upI_ok {n x p : Int} (hn : n ≤ 4096) (h : -1 ≤ p ∧ p < n) : TopOK n (upI x p) ∧ atI (upI x p) = p := by
  have hp : plc p = p := by
    by_cases h0 : 0 ≤ p
    · exact plc_in (by omega)
    · rw [plc_out (by omega)]; omega
  have h1 := packI_p (x / 4294967296 % 1073741824 + 1) p
  have h2 := packI_bd (x / 4294967296 % 1073741824 + 1) p
  have h3 : atI (upI x p) = p := by
    unfold atI upI; rw [h1, hp]
  refine ⟨⟨h2.1, h2.2, by omega⟩, h3⟩
theorem getD_set_ne (l : List Int) (i j : Nat) (v : Int) (h : i ≠ j) : (l.set i v).getD j 0 = l.getD j 0 := by
  rw [List.getD_eq_getElem?_getD, List.getElem?_set_ne h, ← List.getD_eq_getElem?_getD]
theorem getD_set_at (l : List Int) (i : Nat) (v : Int) (h : i < l.length) : (l.set i v).getD i 0 = v := by
  rw [List.getD_eq_getElem?_getD, List.getElem?_set_self h]; rfl
theorem set_getD (l : List Int) (i : Nat) (h : i < l.length) : l.set i (l.getD i 0) = l := by
  apply List.ext_getElem?
  intro j
  by_cases e : i = j
  · subst e; rw [List.getElem?_set_self h, List.getD_eq_getElem?_getD, List.getElem?_eq_getElem h]; rfl
  · rw [List.getElem?_set_ne e]
theorem mi_link {bs n : Int} {l : List Int} (h : MI bs n l) {i v : Int} (hi : 0 ≤ i ∧ i < n) (hv : -1 ≤ v ∧ v < n) : MI bs n (l.set (bs + 1 + i).toNat v) := by
  obtain ⟨h1, h2, h3, h4, h5, h6, h7⟩ := h
  refine ⟨h1, h2, h3, by rw [List.length_set]; exact h4, by rw [List.length_set]; exact h5, ?_, fun j hj hjn => ?_⟩
  · rw [getD_set_ne _ _ _ _ (by omega)]; exact h6
  · by_cases e : i = j
    · subst e; rw [getD_set_at _ _ _ (by omega)]; exact hv
    · rw [getD_set_ne _ _ _ _ (by omega)]; exact h7 j hj hjn
theorem mi_top {bs n : Int} {l : List Int} (h : MI bs n l) {v : Int} (hv : TopOK n v) : MI bs n (l.set bs.toNat v) := by
  obtain ⟨h1, h2, h3, h4, h5, h6, h7⟩ := h
  refine ⟨h1, h2, h3, by rw [List.length_set]; exact h4, by rw [List.length_set]; exact h5, ?_, fun j hj hjn => ?_⟩
  · rw [getD_set_at _ _ _ (by omega)]; exact hv
  · rw [getD_set_ne _ _ _ _ (by omega)]; exact h7 j hj hjn
section
variable {bs n : Int} {t : PAct} {Y l : List Int} {s : Int}
theorem pstep_keep (h : t.ph = 0) (hg : t.give = true) (hY : Y.length < 2) : pstep bs ⟨t, Y, l, s⟩ = ⟨{ t with ph := 3 }, Y ++ [t.slot], l, s⟩ := by
  simp only [pstep]; rw [if_pos h, if_pos ⟨hg, hY⟩]
theorem pstep_own (h : t.ph = 0) (hg : t.give = false) (hY : 0 < Y.length) : pstep bs ⟨t, Y, l, s⟩ = ⟨{ t with ph := 3, slot := Y.getD (Y.length - 1) 0 }, Y.take (Y.length - 1), l, s⟩ := by
  simp only [pstep]; rw [if_pos h, if_neg (by simp [hg]), if_pos ⟨hg, hY⟩]
theorem pstep_none (h : t.ph = 0) (hg : t.give = false) (hY : Y = []) (ht : atI (l.getD bs.toNat 0) < 0) : pstep bs ⟨t, Y, l, s⟩ = ⟨{ t with top := l.getD bs.toNat 0, ph := 3 }, Y, l, s + 1⟩ := by
  simp only [pstep]; rw [if_pos h, if_neg (by simp [hg]), if_neg (by simp [hY]), if_pos ⟨hg, ht⟩]
theorem pstep_some (h : t.ph = 0) (hg : t.give = false) (hY : Y = []) (ht : 0 ≤ atI (l.getD bs.toNat 0)) : pstep bs ⟨t, Y, l, s⟩ = ⟨{ t with top := l.getD bs.toNat 0, ph := 1 }, Y, l, s + 1⟩ := by
  simp only [pstep]; rw [if_pos h, if_neg (by simp [hg]), if_neg (by simp [hY]), if_neg (by omega)]
theorem pstep_full (h : t.ph = 0) (hg : t.give = true) (hY : 2 ≤ Y.length) : pstep bs ⟨t, Y, l, s⟩ = ⟨{ t with top := l.getD bs.toNat 0, ph := 1 }, Y, l, s + 1⟩ := by
  simp only [pstep]; rw [if_pos h, if_neg (by omega), if_neg (by simp [hg]), if_neg (by simp [hg])]
theorem pstep_link (h : t.ph = 1) (hg : t.give = true) : pstep bs ⟨t, Y, l, s⟩ = ⟨{ t with ph := 2 }, Y, l.set (bs + 1 + t.slot).toNat (atI t.top), s + 1⟩ := by
  simp only [pstep]; rw [if_neg (by omega), if_pos h, if_pos hg]
theorem pstep_next (h : t.ph = 1) (hg : t.give = false) : pstep bs ⟨t, Y, l, s⟩ = ⟨{ t with ph := 2, next := l.getD (bs + 1 + atI t.top).toNat 0 }, Y, l, s + 1⟩ := by
  simp only [pstep]; rw [if_neg (by omega), if_pos h, if_neg (by simp [hg])]
theorem pstep_push (h : t.ph = 2) (hg : t.give = true) (hh : l.getD bs.toNat 0 = t.top) : pstep bs ⟨t, Y, l, s⟩ = ⟨{ t with ph := 3 }, Y, l.set bs.toNat (upI t.top t.slot), s + 1⟩ := by
  simp only [pstep]; rw [if_neg (by omega), if_neg (by omega), if_pos h, if_pos hh, if_pos hg, if_pos hg]
theorem pstep_pop (h : t.ph = 2) (hg : t.give = false) (hh : l.getD bs.toNat 0 = t.top) : pstep bs ⟨t, Y, l, s⟩ = ⟨{ t with ph := 3, slot := atI t.top }, Y, l.set bs.toNat (upI t.top t.next), s + 1⟩ := by
  simp only [pstep]; rw [if_neg (by omega), if_neg (by omega), if_pos h, if_pos hh, if_neg (by simp [hg]), if_neg (by simp [hg])]
theorem pstep_miss (h : t.ph = 2) (hh : l.getD bs.toNat 0 ≠ t.top) : pstep bs ⟨t, Y, l, s⟩ = ⟨{ t with ph := 0 }, Y, l, s + 1⟩ := by
  simp only [pstep]; rw [if_neg (by omega), if_neg (by omega), if_pos h, if_neg hh]
theorem pstep_over (h : t.ph = 3) : pstep bs ⟨t, Y, l, s⟩ = ⟨t, Y, l, s⟩ := by
  simp only [pstep]; rw [if_neg (by omega), if_neg (by omega), if_neg (by omega)]
inductive PCase (bs : Int) (t : PAct) (Y l : List Int) : Prop
  | keep (h : t.ph = 0) (hg : t.give = true) (hY : Y.length < 2)
  | own (h : t.ph = 0) (hg : t.give = false) (hY : 0 < Y.length)
  | none (h : t.ph = 0) (hg : t.give = false) (hY : Y = []) (ht : atI (l.getD bs.toNat 0) < 0)
  | some (h : t.ph = 0) (hg : t.give = false) (hY : Y = []) (ht : 0 ≤ atI (l.getD bs.toNat 0))
  | full (h : t.ph = 0) (hg : t.give = true) (hY : 2 ≤ Y.length)
  | link (h : t.ph = 1) (hg : t.give = true)
  | next (h : t.ph = 1) (hg : t.give = false)
  | push (h : t.ph = 2) (hg : t.give = true) (hh : l.getD bs.toNat 0 = t.top)
  | pop (h : t.ph = 2) (hg : t.give = false) (hh : l.getD bs.toNat 0 = t.top)
  | miss (h : t.ph = 2) (hh : l.getD bs.toNat 0 ≠ t.top)
  | over (h : t.ph = 3)
theorem pcase (h : AOK n t) (bs : Int) (Y l : List Int) : PCase bs t Y l := by
  rcases h.2.1 with h | h | h | h
  · cases hg : t.give with
    | true =>
      by_cases hY : Y.length < 2
      · exact .keep h hg hY
      · exact .full h hg (by omega)
    | false =>
      by_cases hY : Y = []
      · by_cases ht : atI (l.getD bs.toNat 0) < 0
        · exact .none h hg hY ht
        · exact .some h hg hY (by omega)
      · exact .own h hg (List.length_pos_iff.2 hY)
  · cases hg : t.give with
    | true => exact .link h hg
    | false => exact .next h hg
  · by_cases hh : l.getD bs.toNat 0 = t.top
    · cases hg : t.give with
      | true => exact .push h hg hh
      | false => exact .pop h hg hh
    · exact .miss h hh
  · exact .over h
end
theorem pstep_s (bs : Int) (z : PSt) : z.s ≤ (pstep bs z).s ∧ (pstep bs z).s ≤ z.s + 1 := by
  unfold pstep
  repeat' split
  all_goals first | omega | (simp only; omega)
theorem aok_take (n s a b : Int) : AOK n ⟨false, s, 0, a, b⟩ := ⟨(fun h => nomatch h), .inl rfl, (fun h => by simp at h), (fun h => by simp at h)⟩
end Go.Proofs.YtjjbognomeplbaaDoor
