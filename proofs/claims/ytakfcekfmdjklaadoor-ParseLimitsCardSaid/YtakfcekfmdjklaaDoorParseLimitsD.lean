/-
  ParseLimits, part 4 of 4: what the code computes, and plain laws; no condition beside those that each theorem tells.
-/
import Derived.Test.YtakfcekfmdjklaaDoorParseLimitsC
namespace Go.Proofs.YtakfcekfmdjklaaDoor
open Go.RowKit
theorem U8T.below {w w' : World} (h : U8T w) (hb : Below w.heap.size w w') : U8T w' := by
  have h1 := hb.block _ h.lt.1
  have h2 := hb.block _ h.lt.2
  exact ⟨fun c hc => by rw [cell_eq h1]; exact h.1 c hc, fun i hi => by rw [cell_eq h2, cell_eq h2]; exact h.2 i hi⟩
theorem parse_eq (s : ByteArray) (hs : s.size ≤ 9223372036854775807) (G : Ins) (p e0 : Int) (h : prs s = (G, p, e0)) (w : World) (htab : U8T w) : Calls Tryd.prog 28 #[.string s] w fun e w' => ∃ a3 c3 a4 c4 a5 c5, e = .returned (.tuple #[.agg #[.int .i64 G.kind, .int .i64 G.n, .int .i64 G.cap, .slice a3 G.wt.length c3, .slice a4 G.vl.length c4, .slice a5 G.cost.length c5], .int .i64 p, .int .i64 e0]) ∧ (IntSl w' (.slice a3 G.wt.length c3) G.wt ∧ IntSl w' (.slice a4 G.vl.length c4) G.vl ∧ RowsV w' (.slice a5 G.cost.length c5) G.cost) ∧ Below w.heap.size w w' := by
  have h1 := parse06 s hs w htab
  rwa [h] at h1
def iT : Ins := ⟨3, 2, 0, [], [], [[0, 7], [7, 0]]⟩
theorem prs_t1 : prs ⟨#[84, 83, 80, 32, 50, 32, 85, 80, 80, 69, 82, 32, 55]⟩ = (iT, 0, 0) := by kernel_rfl
theorem prs_t2 : prs ⟨#[75, 78, 65, 80, 83, 65, 67, 75, 32, 48]⟩ = (insZ, 9, 1) := by kernel_rfl
set_option maxRecDepth 100000 in
set_option maxHeartbeats 400000 in
theorem parses_any  (w : World) (htab : U8T w) :
  Calls Tryd.prog 27 #[] w fun e w' => e = .returned (.bool true) ∧ Below w.heap.size w w' := by
 have hbs := Below.refl (B := w.heap.size) w
 have hM := Mem.start w
 refine Calls.of_ends (vs := []) Tryd.func27 rfl Tryd.ntmps27 rfl ?_
 intro a hA
 replace hA : St 52 [] a := hA
 refine Ends.seq (Ends.region ?_)
 refine S.val hA (R.assign rfl) rfl ?_; clear hA a; intro a hA
 refine S.done ?_
 refine Ends.seq (Ends.region ?_)
 refine S.call hA (R.callF Tryd.func28 rfl rfl rfl) rfl (parse_eq ⟨#[84, 83, 80, 32, 50, 32, 85, 80, 80, 69, 82, 32, 55]⟩ (by decide) iT 0 0 prs_t1 _ (U8T.below htab (Mem.trans0 hbs hM.nilL))) ?_; clear hA a
 rintro e w1 ⟨ap13, cp13, ap14, cp14, ap15, cp15, rfl, ⟨hp13, hp14, hp15⟩, hb⟩
 replace hM := hM.callB hb; clear hb
 have hbs := hbs.trans (hM.below.mono hbs.size)
 replace hM := Mem.start w1
 refine ⟨.tuple #[.agg #[.int .i64 iT.kind, .int .i64 iT.n, .int .i64 iT.cap, .slice ap13 iT.wt.length cp13, .slice ap14 iT.vl.length cp14, .slice ap15 iT.cost.length cp15], .int .i64 0, .int .i64 0], rfl, fun a hA => ?_⟩
 refine S.val hA (R.move rfl) rfl ?_; clear hA a; intro a hA
 refine S.val hA (R.extract (v := .agg #[.int .i64 iT.kind, .int .i64 iT.n, .int .i64 iT.cap, .slice ap13 iT.wt.length cp13, .slice ap14 iT.vl.length cp14, .slice ap15 iT.cost.length cp15]) rfl rfl) rfl ?_; clear hA a; intro a hA
 refine S.val hA (R.extract (v := .int .i64 0) rfl rfl) rfl ?_; clear hA a; intro a hA
 refine S.val hA (R.extract (v := .int .i64 0) rfl rfl) rfl ?_; clear hA a; intro a hA
 refine S.alloc hA hM info25 rfl rfl ?_; clear hA hM a; intro b2 w2 hb3 hM a hA
 replace hM : Mem _ _ [pt b2 cz0 25] _ := hM
 refine S.storeA (k := 0) hA hM sz25 rfl rfl rfl rfl rfl rfl ?_; clear hM
 intro w3 hM
 replace hM : Mem _ _ [pt b2 #[.int .i64 iT.kind, .int .i64 iT.n, .int .i64 iT.cap, .slice ap13 iT.wt.length cp13, .slice ap14 iT.vl.length cp14, .slice ap15 iT.cost.length cp15] 25] _ := hM
 refine S.val hA (R.assign rfl) rfl ?_; clear hA a; intro a hA
 refine S.val hA (R.assign rfl) rfl ?_; clear hA a; intro a hA
 refine S.done ?_
 replace hA : St 52 [(1, _), (3, _)] a := hA.sub ((.cons rfl (.cons rfl .nil)))
 refine Ends.seq (Ends.region ?_)
 refine S.call hA (R.callF Tryd.func28 rfl rfl rfl) rfl (parse_eq ⟨#[75, 78, 65, 80, 83, 65, 67, 75, 32, 48]⟩ (by decide) insZ 9 1 prs_t2 _ (U8T.below htab (Mem.trans0 hbs hM.nilL))) ?_; clear hA a
 rintro e w4 ⟨ap43, cp43, ap44, cp44, ap45, cp45, rfl, ⟨hp43, hp44, hp45⟩, hb⟩
 replace hM := hM.callB hb; clear hb
 have hbx5 := hM.block (k := 0) rfl
 have hbs := hbs.trans (hM.below.mono hbs.size)
 have hp13 := hp13.mem hM
 have hp14 := hp14.mem hM
 have hp15 := hp15.mem hM
 replace hM := Mem.start w4
 refine ⟨.tuple #[.agg #[.int .i64 insZ.kind, .int .i64 insZ.n, .int .i64 insZ.cap, .slice ap43 insZ.wt.length cp43, .slice ap44 insZ.vl.length cp44, .slice ap45 insZ.cost.length cp45], .int .i64 9, .int .i64 1], rfl, fun a hA => ?_⟩
 refine S.val hA (R.move rfl) rfl ?_; clear hA a; intro a hA
 refine S.val hA (R.extract (v := .agg #[.int .i64 insZ.kind, .int .i64 insZ.n, .int .i64 insZ.cap, .slice ap43 insZ.wt.length cp43, .slice ap44 insZ.vl.length cp44, .slice ap45 insZ.cost.length cp45]) rfl rfl) rfl ?_; clear hA a; intro a hA
 refine S.val hA (R.extract (v := .int .i64 9) rfl rfl) rfl ?_; clear hA a; intro a hA
 refine S.val hA (R.extract (v := .int .i64 1) rfl rfl) rfl ?_; clear hA a; intro a hA
 refine S.alloc hA hM info25 rfl rfl ?_; clear hA hM a; intro b6 w5 hb7 hM a hA
 replace hM : Mem _ _ [pt b6 cz0 25] _ := hM
 refine S.storeA (k := 0) hA hM sz25 rfl rfl rfl rfl rfl rfl ?_; clear hM
 intro w6 hM
 replace hM : Mem _ _ [pt b6 #[.int .i64 insZ.kind, .int .i64 insZ.n, .int .i64 insZ.cap, .slice ap43 insZ.wt.length cp43, .slice ap44 insZ.vl.length cp44, .slice ap45 insZ.cost.length cp45] 25] _ := hM
 refine S.val hA (R.assign rfl) rfl ?_; clear hA a; intro a hA
 refine S.val hA (R.assign rfl) rfl ?_; clear hA a; intro a hA
 refine S.done ?_
 replace hA : St 52 [(1, _), (3, _), (5, _), (6, _)] a := hA.sub ((.cons rfl (.cons rfl (.cons rfl (.cons rfl .nil)))))
 refine Ends.seq (Ends.region ?_)
 refine S.val hA (R.move rfl) rfl ?_; clear hA a; intro a hA
 refine S.val hA (R.tt (R.eql rfl rfl) (by first | decide | simp | omega)) rfl ?_; clear hA a; intro a hA
 refine S.val hA (R.move rfl) rfl ?_; clear hA a; intro a hA
 refine S.valg (dj := 19) hA (by kernel_rfl) rfl (R.fieldAddr (q := 0) fi25_0 rfl rfl rfl) rfl ?_; clear hA a; intro a hA
 refine S.valg (dj := 19) hA (by kernel_rfl) rfl (R.load sz3 rfl (hM.cellB hbx5 rfl)) rfl ?_; clear hA a; intro a hA
 refine S.valg (dj := 19) hA (by kernel_rfl) rfl (R.tt (R.eql rfl rfl) (by rfl)) rfl ?_; clear hA a; intro a hA
 refine S.val hA (R.pickT rfl rfl) rfl ?_; clear hA a; intro a hA
 refine S.val hA (R.move rfl) rfl ?_; clear hA a; intro a hA
 refine S.valg (dj := 24) hA (by kernel_rfl) rfl (R.fieldAddr (q := 1) fi25_1 rfl rfl rfl) rfl ?_; clear hA a; intro a hA
 refine S.valg (dj := 24) hA (by kernel_rfl) rfl (R.load sz3 rfl (hM.cellB hbx5 rfl)) rfl ?_; clear hA a; intro a hA
 refine S.valg (dj := 24) hA (by kernel_rfl) rfl (R.tt (R.eql rfl rfl) (by rfl)) rfl ?_; clear hA a; intro a hA
 refine S.val hA (R.pickT rfl rfl) rfl ?_; clear hA a; intro a hA
 refine S.val hA (R.move rfl) rfl ?_; clear hA a; intro a hA
 refine S.valg (dj := 29) hA (by kernel_rfl) rfl (R.fieldAddr (q := 5) fi25_5 rfl rfl rfl) rfl ?_; clear hA a; intro a hA
 refine S.valg (dj := 29) hA (by kernel_rfl) rfl (R.load sz23 rfl (hM.cellB hbx5 rfl)) rfl ?_; clear hA a; intro a hA
 refine S.valg (dj := 29) hA (by kernel_rfl) rfl (R.lenS Tryd.underlying23 rfl rfl) rfl ?_; clear hA a; intro a hA
 refine S.valg (dj := 29) hA (by kernel_rfl) rfl (R.tt (R.eql rfl rfl) (by rfl)) rfl ?_; clear hA a; intro a hA
 refine S.val hA (R.pickT rfl rfl) rfl ?_; clear hA a; intro a hA
 refine S.val hA (R.move rfl) rfl ?_; clear hA a; intro a hA
 refine S.valg (dj := 35) hA (by kernel_rfl) rfl (R.fieldAddr (q := 5) fi25_5 rfl rfl rfl) rfl ?_; clear hA a; intro a hA
 refine S.valg (dj := 35) hA (by kernel_rfl) rfl (R.load sz23 rfl (hM.cellB hbx5 rfl)) rfl ?_; clear hA a; intro a hA
 refine S.valg (dj := 35) hA (by kernel_rfl) rfl (R.idxR hp15 (j := 1) sl23 rfl rfl (by first | omega | decide) (rfl)) rfl ?_; clear hA a; intro a hA
 obtain ⟨ra8, rc9, hrow10, hld11⟩ := hp15.atP (i := 1) (by first | omega | decide)
 refine S.valg (dj := 35) hA (by kernel_rfl) rfl (hld11 _ _ _ _ _ _ hM sz22 rfl) rfl ?_; clear hA a; intro a hA
 refine S.valg (dj := 35) hA (by kernel_rfl) rfl (R.idxI hrow10 (j := 0) sl22 rfl rfl (by first | omega | decide) (rfl)) rfl ?_; clear hA a; intro a hA
 refine S.valg (dj := 35) hA (by kernel_rfl) rfl (R.loadI (hrow10.mem hM) sz3 rfl (by first | omega | decide)) rfl ?_; clear hA a; intro a hA
 refine S.valg (dj := 35) hA (by kernel_rfl) rfl (R.tt (R.eql rfl rfl) (by rfl)) rfl ?_; clear hA a; intro a hA
 refine S.val hA (R.pickT rfl rfl) rfl ?_; clear hA a; intro a hA
 refine S.val hA (R.move rfl) rfl ?_; clear hA a; intro a hA
 refine S.valg (dj := 44) hA (by kernel_rfl) rfl (R.move rfl) rfl ?_; clear hA a; intro a hA
 refine S.valg (dj := 44) hA (by kernel_rfl) rfl (R.tt (R.eql rfl rfl) (by first | decide | simp | omega)) rfl ?_; clear hA a; intro a hA
 refine S.val hA (R.pickT rfl rfl) rfl ?_; clear hA a; intro a hA
 refine S.val hA (R.move rfl) rfl ?_; clear hA a; intro a hA
 refine S.valg (dj := 48) hA (by kernel_rfl) rfl (R.move rfl) rfl ?_; clear hA a; intro a hA
 refine S.valg (dj := 48) hA (by kernel_rfl) rfl (R.tt (R.eql rfl rfl) (by first | decide | simp | omega)) rfl ?_; clear hA a; intro a hA
 refine S.val hA (R.pickT rfl rfl) rfl ?_; clear hA a; intro a hA
 refine S.val hA (R.assign rfl) rfl ?_; clear hA a; intro a hA
 refine S.done ?_
 replace hA : St 52 [(0, _)] a := hA.sub ((.cons rfl .nil))
 refine Ends.ret1 Tryd.func27 Tryd.results27 hA rfl ?_
 exact ⟨rfl, Mem.trans0 hbs hM.nilL⟩
theorem lim1 {n : Int} (h0 : 62 ≤ n) (h1 : n ≤ 66) : ∃ p e, prs (bs ([75, 78, 65, 80, 83, 65, 67, 75, 32] ++ Lib.itoa n)) = (insZ, p, e) ∧ (n ≤ 64 → e = 6) ∧ (64 < n → e = 5 ∧ p = 9) := by
  obtain rfl | rfl | rfl | rfl | rfl : n = 62 ∨ n = 63 ∨ n = 64 ∨ n = 65 ∨ n = 66 := by omega
  · exact ⟨11, 6, by kernel_rfl, by decide, by decide⟩
  · exact ⟨11, 6, by kernel_rfl, by decide, by decide⟩
  · exact ⟨11, 6, by kernel_rfl, by decide, by decide⟩
  · exact ⟨9, 5, by kernel_rfl, by decide, by decide⟩
  · exact ⟨9, 5, by kernel_rfl, by decide, by decide⟩
theorem lim2 {n : Int} (h0 : 22 ≤ n) (h1 : n ≤ 26) : ∃ p e, prs (bs ([65, 83, 83, 73, 71, 78, 77, 69, 78, 84, 32] ++ Lib.itoa n)) = (insZ, p, e) ∧ (n ≤ 24 → e = 6) ∧ (24 < n → e = 5 ∧ p = 11) := by
  obtain rfl | rfl | rfl | rfl | rfl : n = 22 ∨ n = 23 ∨ n = 24 ∨ n = 25 ∨ n = 26 := by omega
  · exact ⟨13, 6, by kernel_rfl, by decide, by decide⟩
  · exact ⟨13, 6, by kernel_rfl, by decide, by decide⟩
  · exact ⟨13, 6, by kernel_rfl, by decide, by decide⟩
  · exact ⟨11, 5, by kernel_rfl, by decide, by decide⟩
  · exact ⟨11, 5, by kernel_rfl, by decide, by decide⟩
theorem lim3 {n : Int} (h0 : 22 ≤ n) (h1 : n ≤ 26) : ∃ p e, prs (bs ([84, 83, 80, 32] ++ Lib.itoa n)) = (insZ, p, e) ∧ (n ≤ 24 → e = 6) ∧ (24 < n → e = 5 ∧ p = 4) := by
  obtain rfl | rfl | rfl | rfl | rfl : n = 22 ∨ n = 23 ∨ n = 24 ∨ n = 25 ∨ n = 26 := by omega
  · exact ⟨6, 6, by kernel_rfl, by decide, by decide⟩
  · exact ⟨6, 6, by kernel_rfl, by decide, by decide⟩
  · exact ⟨6, 6, by kernel_rfl, by decide, by decide⟩
  · exact ⟨4, 5, by kernel_rfl, by decide, by decide⟩
  · exact ⟨4, 5, by kernel_rfl, by decide, by decide⟩
theorem limB {n : Int} (h0 : 2147483645 ≤ n) (h1 : n ≤ 2147483649) : ∃ G p e, prs (bs (([75, 78, 65, 80, 83, 65, 67, 75, 32, 49, 32] ++ Lib.itoa n) ++ [32, 48, 32, 48])) = (G, p, e) ∧ (n ≤ 2147483647 → e = 0 ∧ G.cap = n) ∧ (2147483647 < n → e = 5 ∧ p = 11) := by
  obtain rfl | rfl | rfl | rfl | rfl : n = 2147483645 ∨ n = 2147483646 ∨ n = 2147483647 ∨ n = 2147483648 ∨ n = 2147483649 := by omega
  · exact ⟨⟨1, 1, 2147483645, [0], [0], []⟩, 0, 0, by kernel_rfl, by decide, by decide⟩
  · exact ⟨⟨1, 1, 2147483646, [0], [0], []⟩, 0, 0, by kernel_rfl, by decide, by decide⟩
  · exact ⟨⟨1, 1, 2147483647, [0], [0], []⟩, 0, 0, by kernel_rfl, by decide, by decide⟩
  · exact ⟨insZ, 11, 5, by kernel_rfl, by decide, by decide⟩
  · exact ⟨insZ, 11, 5, by kernel_rfl, by decide, by decide⟩
set_option maxRecDepth 100000 in
set_option maxHeartbeats 400000 in
theorem parseLimits_w (x0 x1 x2 : Int) (w : World) (htab : U8T w) :
  Calls Tryd.prog 9 #[.int .i64 x0, .int .i64 x1, .int .i64 x2] w fun e w' => e = .returned (.bool true) ∧ Below w.heap.size w w' := by
 have hbs := Below.refl (B := w.heap.size) w
 have hM := Mem.start w
 refine Calls.of_ends (vs := [.int .i64 x0, .int .i64 x1, .int .i64 x2]) Tryd.func9 rfl Tryd.ntmps9 rfl ?_
 intro a hA
 replace hA : St 101 [(0, _), (1, _), (2, _)] a := hA
 refine Ends.seq (Ends.region ?_)
 refine S.val hA (R.assign rfl) rfl ?_; clear hA a; intro a hA
 refine S.done ?_
 refine Ends.seq (Ends.region ?_)
 refine S.val hA (R.move rfl) rfl ?_; clear hA a; intro a hA
 refine S.val hA (R.conv Tryd.underlying38 Tryd.underlying3 rfl) rfl ?_; clear hA a; intro a hA
 refine S.val hA (R.remI rfl rfl rfl ⟨u64_nn _, by decide⟩) rfl ?_; clear hA a; intro a hA
 obtain ⟨n1, hn2, en3⟩ := umod_ex x2 3 (by decide)
 refine S.val hA (R.to (v := .int .i64 (n1 : Int)) (R.conv Tryd.underlying3 Tryd.underlying38 rfl) (congrArg (Value.int .i64) en3)) rfl ?_; clear hA a; intro a hA
 refine S.val hA (R.addI rfl rfl (r := 1 + ((n1 : Int))) rfl (by omega)) rfl ?_; clear hA a; intro a hA
 refine S.val hA (R.assign rfl) rfl ?_; clear hA a; intro a hA
 refine S.done ?_
 replace hA : St 101 [(0, _), (1, _), (7, _)] a := hA.sub ((.cons rfl (.cons rfl (.cons rfl .nil))))
 refine Ends.seq ?_
 by_cases hs4 : 1 + ((n1 : Int)) = 1
 ·
  rw [show 1 + ((n1 : Int)) = 1 by omega] at hA
  refine Ends.region ?_
  refine S.buildSl (cells := #[.string (⟨#[75, 78, 65, 80, 83, 65, 67, 75, 32]⟩), .string (⟨#[65, 83, 83, 73, 71, 78, 77, 69, 78, 84, 32]⟩), .string (⟨#[84, 83, 80, 32]⟩)]) hA hM Tryd.underlying34 info9 rfl rfl rfl rfl (by kernel_rfl) rfl ?_; clear hA hM a; intro b5 w1 hb6 hM a hA
  replace hM : Mem _ _ [pt b5 #[.string (⟨#[75, 78, 65, 80, 83, 65, 67, 75, 32]⟩), .string (⟨#[65, 83, 83, 73, 71, 78, 77, 69, 78, 84, 32]⟩), .string (⟨#[84, 83, 80, 32]⟩)] 9] _ := hM
  refine S.val hA (R.move rfl) rfl ?_; clear hA a; intro a hA
  refine S.val hA (R.subI rfl rfl (r := 0) rfl (by omega)) rfl ?_; clear hA a; intro a hA
  refine S.val hA (R.indexAddr (q := 0) sl34 rfl rfl (by omega) (rfl)) rfl ?_; clear hA a; intro a hA
  refine S.val hA (R.load sz9 rfl (hM.cell (k := 0) rfl rfl)) rfl ?_; clear hA a; intro a hA
  refine S.val hA (R.assign rfl) rfl ?_; clear hA a; intro a hA
  refine S.done ?_
  replace hA : St 101 [(0, _), (1, _), (7, _), (8, _)] a := hA.sub ((.cons rfl (.cons rfl (.cons rfl (.cons rfl .nil)))))
  refine Ends.seq (Ends.region ?_)
  refine S.val hA (R.assign rfl) rfl ?_; clear hA a; intro a hA
  refine S.done ?_
  refine Ends.seq (Ends.seq (Ends.region ?_))
  refine S.val hA (R.move rfl) rfl ?_; clear hA a; intro a hA
  refine S.val hA (R.tt (R.eql rfl rfl) (by first | decide | simp | omega)) rfl ?_; clear hA a; intro a hA
  refine S.done ?_
  refine Ends.condT hA rfl ?_
  refine Ends.region ?_
  refine S.val hA (R.assign rfl) rfl ?_; clear hA a; intro a hA
  refine S.done ?_
  refine Ends.seq (Ends.region ?_)
  refine S.val hA (R.move rfl) rfl ?_; clear hA a; intro a hA
  refine S.val hA (R.subI rfl rfl (r := 62) rfl (by omega)) rfl ?_; clear hA a; intro a hA
  refine S.val hA (R.move rfl) rfl ?_; clear hA a; intro a hA
  refine S.val hA (R.conv Tryd.underlying38 Tryd.underlying3 rfl) rfl ?_; clear hA a; intro a hA
  refine S.val hA (R.remI rfl rfl rfl ⟨u64_nn _, by decide⟩) rfl ?_; clear hA a; intro a hA
  obtain ⟨n7, hn8, en9⟩ := umod_ex x0 5 (by decide)
  refine S.val hA (R.to (v := .int .i64 (n7 : Int)) (R.conv Tryd.underlying3 Tryd.underlying38 rfl) (congrArg (Value.int .i64) en9)) rfl ?_; clear hA a; intro a hA
  refine S.val hA (R.addI rfl rfl (r := 62 + ((n7 : Int))) rfl (by omega)) rfl ?_; clear hA a; intro a hA
  refine S.val hA (R.assign rfl) rfl ?_; clear hA a; intro a hA
  refine S.done ?_
  replace hA : St 101 [(0, _), (1, _), (8, _), (9, _)] a := hA.sub ((.cons rfl (.cons rfl (.cons rfl (.cons rfl .nil)))))
  refine Ends.seq (Ends.region ?_)
  refine S.val hA (R.move rfl) rfl ?_; clear hA a; intro a hA
  refine S.val hA (R.move rfl) rfl ?_; clear hA a; intro a hA
  have hil7 := itoa_len' (n := 62 + ((n7 : Int))) (by unfold bd64; omega)
  refine S.call hA (R.callF Tryd.func30 rfl rfl rfl) rfl (rwrite_any (62 + ((n7 : Int))) (by omega) _) ?_; clear hA a
  rintro e w2 ⟨rfl, hb⟩
  replace hM := hM.callB hb; clear hb
  refine ⟨.string ((bs (Lib.itoa (62 + ((n7 : Int)))))), rfl, fun a hA => ?_⟩
  refine S.val hA (R.to (v := .string (bs (([75, 78, 65, 80, 83, 65, 67, 75, 32] : List UInt8) ++ Lib.itoa (62 + ((n7 : Int)))))) (R.addS rfl rfl (by show (bs (([75, 78, 65, 80, 83, 65, 67, 75, 32] : List UInt8))).size + (bs (Lib.itoa (62 + ((n7 : Int))))).size ≤ _; simp only [bs_size, List.length_append, List.length_cons, List.length_nil]; omega)) (congrArg Value.string (bs_app (([75, 78, 65, 80, 83, 65, 67, 75, 32] : List UInt8)) (Lib.itoa (62 + ((n7 : Int))))))) rfl ?_; clear hA a; intro a hA
  have hil1 := itoa_len' (n := (62 + ((n7 : Int)))) (by unfold bd64; omega)
  obtain ⟨pa1, pe1, hpr1, hl1, hl2⟩ := lim1 (n := (62 + ((n7 : Int)))) (by omega) (by omega)
  refine S.call hA (R.callF Tryd.func28 rfl rfl rfl) rfl (parse_eq (bs ((([75, 78, 65, 80, 83, 65, 67, 75, 32] : List UInt8) ++ Lib.itoa (62 + ((n7 : Int)))))) (by rw [bs_size]; simp only [List.length_append, List.length_cons, List.length_nil]; omega) insZ pa1 pe1 hpr1 _ (U8T.below htab (Mem.trans0 hbs hM.nilL))) ?_; clear hA a
  rintro e w3 ⟨ap103, cp103, ap104, cp104, ap105, cp105, rfl, ⟨hp103, hp104, hp105⟩, hb⟩
  replace hM := hM.callB hb; clear hb
  have hbx11 := hM.block (k := 0) rfl
  have hbs := hbs.trans (hM.below.mono hbs.size)
  replace hM := Mem.start w3
  refine ⟨.tuple #[.agg #[.int .i64 insZ.kind, .int .i64 insZ.n, .int .i64 insZ.cap, .slice ap103 insZ.wt.length cp103, .slice ap104 insZ.vl.length cp104, .slice ap105 insZ.cost.length cp105], .int .i64 pa1, .int .i64 pe1], rfl, fun a hA => ?_⟩
  refine S.val hA (R.move rfl) rfl ?_; clear hA a; intro a hA
  refine S.val hA (R.extract (v := .agg #[.int .i64 insZ.kind, .int .i64 insZ.n, .int .i64 insZ.cap, .slice ap103 insZ.wt.length cp103, .slice ap104 insZ.vl.length cp104, .slice ap105 insZ.cost.length cp105]) rfl rfl) rfl ?_; clear hA a; intro a hA
  refine S.val hA (R.extract (v := .int .i64 pa1) rfl rfl) rfl ?_; clear hA a; intro a hA
  refine S.val hA (R.extract (v := .int .i64 pe1) rfl rfl) rfl ?_; clear hA a; intro a hA
  refine S.alloc hA hM info25 rfl rfl ?_; clear hA hM a; intro b12 w4 hb13 hM a hA
  replace hM : Mem _ _ [pt b12 cz0 25] _ := hM
  refine S.storeA (k := 0) hA hM sz25 rfl rfl rfl rfl rfl rfl ?_; clear hM
  intro w5 hM
  replace hM : Mem _ _ [pt b12 #[.int .i64 insZ.kind, .int .i64 insZ.n, .int .i64 insZ.cap, .slice ap103 insZ.wt.length cp103, .slice ap104 insZ.vl.length cp104, .slice ap105 insZ.cost.length cp105] 25] _ := hM
  refine S.val hA (R.assign rfl) rfl ?_; clear hA a; intro a hA
  refine S.val hA (R.assign rfl) rfl ?_; clear hA a; intro a hA
  refine S.done ?_
  replace hA : St 101 [(0, _), (1, _), (8, _), (9, _), (11, _), (12, _)] a := hA.sub ((.cons rfl (.cons rfl (.cons rfl (.cons rfl (.cons rfl (.cons rfl .nil)))))))
  refine Ends.seq (Ends.region ?_)
  refine S.val hA (R.move rfl) rfl ?_; clear hA a; intro a hA
  refine S.val hA (R.conv Tryd.underlying38 Tryd.underlying3 rfl) rfl ?_; clear hA a; intro a hA
  refine S.val hA (R.remI rfl rfl rfl ⟨u64_nn _, by decide⟩) rfl ?_; clear hA a; intro a hA
  obtain ⟨n14, hn15, en16⟩ := umod_ex x1 5 (by decide)
  refine S.val hA (R.to (v := .int .i64 (n14 : Int)) (R.conv Tryd.underlying3 Tryd.underlying38 rfl) (congrArg (Value.int .i64) en16)) rfl ?_; clear hA a; intro a hA
  refine S.val hA (R.addI rfl rfl (r := 2147483645 + ((n14 : Int))) rfl (by omega)) rfl ?_; clear hA a; intro a hA
  refine S.val hA (R.assign rfl) rfl ?_; clear hA a; intro a hA
  refine S.done ?_
  replace hA : St 101 [(0, _), (8, _), (9, _), (11, _), (12, _), (13, _)] a := hA.sub ((.cons rfl (.cons rfl (.cons rfl (.cons rfl (.cons rfl (.cons rfl .nil)))))))
  refine Ends.seq (Ends.region ?_)
  refine S.val hA (R.move rfl) rfl ?_; clear hA a; intro a hA
  have hil9 := itoa_len' (n := 2147483645 + ((n14 : Int))) (by unfold bd64; omega)
  refine S.call hA (R.callF Tryd.func30 rfl rfl rfl) rfl (rwrite_any (2147483645 + ((n14 : Int))) (by omega) _) ?_; clear hA a
  rintro e w6 ⟨rfl, hb⟩
  replace hM := hM.callB hb; clear hb
  refine ⟨.string ((bs (Lib.itoa (2147483645 + ((n14 : Int)))))), rfl, fun a hA => ?_⟩
  refine S.val hA (R.to (v := .string (bs (([75, 78, 65, 80, 83, 65, 67, 75, 32, 49, 32] : List UInt8) ++ Lib.itoa (2147483645 + ((n14 : Int)))))) (R.addS rfl rfl (by show (bs (([75, 78, 65, 80, 83, 65, 67, 75, 32, 49, 32] : List UInt8))).size + (bs (Lib.itoa (2147483645 + ((n14 : Int))))).size ≤ _; simp only [bs_size, List.length_append, List.length_cons, List.length_nil]; omega)) (congrArg Value.string (bs_app (([75, 78, 65, 80, 83, 65, 67, 75, 32, 49, 32] : List UInt8)) (Lib.itoa (2147483645 + ((n14 : Int))))))) rfl ?_; clear hA a; intro a hA
  refine S.val hA (R.to (v := .string (bs ((([75, 78, 65, 80, 83, 65, 67, 75, 32, 49, 32] : List UInt8) ++ Lib.itoa (2147483645 + ((n14 : Int)))) ++ ([32, 48, 32, 48] : List UInt8)))) (R.addS rfl rfl (by show (bs ((([75, 78, 65, 80, 83, 65, 67, 75, 32, 49, 32] : List UInt8) ++ Lib.itoa (2147483645 + ((n14 : Int)))))).size + (bs (([32, 48, 32, 48] : List UInt8))).size ≤ _; simp only [bs_size, List.length_append, List.length_cons, List.length_nil]; omega)) (congrArg Value.string (bs_app ((([75, 78, 65, 80, 83, 65, 67, 75, 32, 49, 32] : List UInt8) ++ Lib.itoa (2147483645 + ((n14 : Int))))) (([32, 48, 32, 48] : List UInt8))))) rfl ?_; clear hA a; intro a hA
  obtain ⟨G2, pa2, pe2, hpr2, hb1, hb2⟩ := limB (n := (2147483645 + (n14 : Int))) (by omega) (by omega)
  refine S.call hA (R.callF Tryd.func28 rfl rfl rfl) rfl (parse_eq (bs (((([75, 78, 65, 80, 83, 65, 67, 75, 32, 49, 32] : List UInt8) ++ Lib.itoa (2147483645 + ((n14 : Int)))) ++ ([32, 48, 32, 48] : List UInt8)))) (by rw [bs_size]; simp only [List.length_append, List.length_cons, List.length_nil]; omega) G2 pa2 pe2 hpr2 _ (U8T.below htab (Mem.trans0 hbs hM.nilL))) ?_; clear hA a
  rintro e w7 ⟨ap173, cp173, ap174, cp174, ap175, cp175, rfl, ⟨hp173, hp174, hp175⟩, hb⟩
  replace hM := hM.callB hb; clear hb
  have hbx18 := hM.block (k := 0) rfl
  have hbs := hbs.trans (hM.below.mono hbs.size)
  have hp103 := hp103.mem hM
  have hp104 := hp104.mem hM
  have hp105 := hp105.mem hM
  have hbx11 := hM.keepB hbx11
  replace hM := Mem.start w7
  refine ⟨.tuple #[.agg #[.int .i64 G2.kind, .int .i64 G2.n, .int .i64 G2.cap, .slice ap173 G2.wt.length cp173, .slice ap174 G2.vl.length cp174, .slice ap175 G2.cost.length cp175], .int .i64 pa2, .int .i64 pe2], rfl, fun a hA => ?_⟩
  refine S.val hA (R.move rfl) rfl ?_; clear hA a; intro a hA
  refine S.val hA (R.extract (v := .agg #[.int .i64 G2.kind, .int .i64 G2.n, .int .i64 G2.cap, .slice ap173 G2.wt.length cp173, .slice ap174 G2.vl.length cp174, .slice ap175 G2.cost.length cp175]) rfl rfl) rfl ?_; clear hA a; intro a hA
  refine S.val hA (R.extract (v := .int .i64 pa2) rfl rfl) rfl ?_; clear hA a; intro a hA
  refine S.val hA (R.extract (v := .int .i64 pe2) rfl rfl) rfl ?_; clear hA a; intro a hA
  refine S.alloc hA hM info25 rfl rfl ?_; clear hA hM a; intro b19 w8 hb20 hM a hA
  replace hM : Mem _ _ [pt b19 cz0 25] _ := hM
  refine S.storeA (k := 0) hA hM sz25 rfl rfl rfl rfl rfl rfl ?_; clear hM
  intro w9 hM
  replace hM : Mem _ _ [pt b19 #[.int .i64 G2.kind, .int .i64 G2.n, .int .i64 G2.cap, .slice ap173 G2.wt.length cp173, .slice ap174 G2.vl.length cp174, .slice ap175 G2.cost.length cp175] 25] _ := hM
  refine S.val hA (R.assign rfl) rfl ?_; clear hA a; intro a hA
  refine S.val hA (R.assign rfl) rfl ?_; clear hA a; intro a hA
  refine S.done ?_
  replace hA : St 101 [(0, _), (8, _), (9, _), (11, _), (12, _), (13, _), (14, _), (15, _), (16, _)] a := hA.sub ((.cons rfl (.cons rfl (.cons rfl (.cons rfl (.cons rfl (.cons rfl (.cons rfl (.cons rfl (.cons rfl .nil))))))))))
  refine Ends.seq (Ends.seq ?_)
  refine Ends.cut (fun (a : Act) (wv : World) => St 101 [(13, .int .i64 (2147483645 + ((n14 : Int)))), (14, .pointer (some ⟨b19, 0, none⟩)), (15, .int .i64 pa2), (16, .int .i64 pe2), (84, .bool (decide ((((62 + ((n7 : Int))) ≤ 64 ∧ pe1 ≠ 6) ∨ (64 < (62 + ((n7 : Int))) ∧ (pe1 ≠ 5 ∨ pa1 ≠ 9))))))] a ∧ Mem w7 nof [pt b19 #[.int .i64 G2.kind, .int .i64 G2.n, .int .i64 G2.cap, .slice ap173 G2.wt.length cp173, .slice ap174 G2.vl.length cp174, .slice ap175 G2.cost.length cp175] 25] wv) ?_ (fun k2 hJ => ?_)
  ·
   clear hA hM a; rintro a w10 ⟨hA, hM⟩
   refine Ends.ite hA rfl (fun hc21 => ?_) (fun hc21 => ?_)
   · exact absurd hc21 (by omega)
   ·
    refine Ends.skip (Ends.seq (Ends.seq (Ends.region ?_)))
    refine S.val hA (R.move rfl) rfl ?_; clear hA a; intro a hA
    refine S.val hA (R.gtr rfl rfl) rfl ?_; clear hA a; intro a hA
    refine S.done ?_
    refine Ends.ite hA rfl (fun hc22 => ?_) (fun hc22 => ?_)
    ·
     refine Ends.seq (Ends.region ?_)
     refine S.val hA (R.move rfl) rfl ?_; clear hA a; intro a hA
     refine S.val hA (R.tt (R.eql rfl rfl) (by omega)) rfl ?_; clear hA a; intro a hA
     refine S.val hA (R.move rfl) rfl ?_; clear hA a; intro a hA
     refine S.valg (dj := 89) hA (by kernel_rfl) rfl (R.move rfl) rfl ?_; clear hA a; intro a hA
     refine S.valg (dj := 89) hA (by kernel_rfl) rfl (R.tt (R.eql rfl rfl) (by omega)) rfl ?_; clear hA a; intro a hA
     refine S.val hA (R.pickT rfl rfl) rfl ?_; clear hA a; intro a hA
     refine S.val hA (R.assign rfl) rfl ?_; clear hA a; intro a hA
     refine S.done ?_
     replace hA : St 101 [(6, _), (13, _), (14, _), (16, _)] a := hA.sub ((.cons rfl (.cons rfl (.cons rfl (.cons rfl .nil)))))
     refine Ends.ret1 Tryd.func9 Tryd.results9 hA rfl ?_
     exact ⟨rfl, Mem.trans0 hbs hM.nilL⟩
    ·
     refine Ends.skip (Ends.seq (Ends.region ?_))
     refine S.val hA (R.move rfl) rfl ?_; clear hA a; intro a hA
     refine S.val hA (R.tt (R.eql rfl rfl) (by omega)) rfl ?_; clear hA a; intro a hA
     refine S.val hA (R.move rfl) rfl ?_; clear hA a; intro a hA
     refine S.valg (dj := 95) hA (by kernel_rfl) rfl (R.fieldAddr (q := 2) fi25_2 rfl rfl rfl) rfl ?_; clear hA a; intro a hA
     refine S.valg (dj := 95) hA (by kernel_rfl) rfl (R.load sz3 rfl (hM.cell (k := 0) rfl rfl)) rfl ?_; clear hA a; intro a hA
     refine S.valg (dj := 95) hA (by kernel_rfl) rfl (R.move rfl) rfl ?_; clear hA a; intro a hA
     refine S.valg (dj := 95) hA (by kernel_rfl) rfl (R.tt (R.eql rfl rfl) (by omega)) rfl ?_; clear hA a; intro a hA
     refine S.val hA (R.pickT rfl rfl) rfl ?_; clear hA a; intro a hA
     refine S.val hA (R.assign rfl) rfl ?_; clear hA a; intro a hA
     refine S.done ?_
     replace hA : St 101 [(6, _)] a := hA.sub ((.cons rfl .nil))
     refine Ends.ret1 Tryd.func9 Tryd.results9 hA rfl ?_
     exact ⟨rfl, Mem.trans0 hbs hM.nilL⟩
  ·
   refine Ends.region ?_
   refine S.call hA (R.callF Tryd.func27 rfl rfl rfl) rfl (parses_any _ (U8T.below htab (Mem.trans0 hbs hM.nilL))) ?_; clear hA a
   rintro e w11 ⟨rfl, hb⟩
   replace hM := hM.callB hb; clear hb
   refine ⟨.bool true, rfl, fun a hA => ?_⟩
   refine S.val hA (R.not rfl) rfl ?_; clear hA a; intro a hA
   refine S.val hA (R.move rfl) rfl ?_; clear hA a; intro a hA
   refine S.valg (dj := 61) hA (by kernel_rfl) rfl (R.move rfl) rfl ?_; clear hA a; intro a hA
   refine S.valg (dj := 61) hA (by kernel_rfl) rfl (R.move rfl) rfl ?_; clear hA a; intro a hA
   refine S.valg (dj := 61) hA (by kernel_rfl) rfl (R.leq rfl rfl) rfl ?_; clear hA a; intro a hA
   refine S.valg (dj := 61) hA (by kernel_rfl) rfl (R.move rfl) rfl ?_; clear hA a; intro a hA
   refine hA.split (d := 65) rfl ?_ ?_
   ·
    clear hA; intro hg23 hA
    refine S.valg (dj := 65) hA (by kernel_rfl) rfl (R.move rfl) rfl ?_; clear hA a; intro a hA
    refine S.valg (dj := 65) hA (by kernel_rfl) rfl (R.neq rfl rfl) rfl ?_; clear hA a; intro a hA
    refine S.valg (dj := 61) hA (by kernel_rfl) rfl (R.pickT rfl rfl) rfl ?_; clear hA a; intro a hA
    refine S.val hA (R.pickF rfl rfl) rfl ?_; clear hA a; intro a hA
    refine S.val hA (R.move rfl) rfl ?_; clear hA a; intro a hA
    refine hA.split (d := 70) rfl ?_ ?_
    ·
     clear hA; intro hg24 hA
     refine S.no (dj := 70) hA (by kernel_rfl) rfl rfl rfl ?_; clear hA a; intro a hA
     refine S.no (dj := 70) hA (by kernel_rfl) rfl rfl rfl ?_; clear hA a; intro a hA
     refine S.no (dj := 70) hA (by kernel_rfl) rfl rfl rfl ?_; clear hA a; intro a hA
     refine S.no (dj := 70) hA (by kernel_rfl) rfl rfl rfl ?_; clear hA a; intro a hA
     refine S.noU (dj := 74) hA (by kernel_rfl) rfl rfl ?_; clear hA a; intro a hA
     refine S.noU (dj := 74) hA (by kernel_rfl) rfl rfl ?_; clear hA a; intro a hA
     refine S.noU (dj := 74) hA (by kernel_rfl) rfl rfl ?_; clear hA a; intro a hA
     refine S.noU (dj := 77) hA (by kernel_rfl) rfl rfl ?_; clear hA a; intro a hA
     refine S.noU (dj := 77) hA (by kernel_rfl) rfl rfl ?_; clear hA a; intro a hA
     refine S.noU (dj := 77) hA (by kernel_rfl) rfl rfl ?_; clear hA a; intro a hA
     refine S.noU (dj := 77) hA (by kernel_rfl) rfl rfl ?_; clear hA a; intro a hA
     refine S.noU (dj := 74) hA (by kernel_rfl) rfl rfl ?_; clear hA a; intro a hA
     refine S.no (dj := 70) hA (by kernel_rfl) rfl rfl rfl ?_; clear hA a; intro a hA
     refine S.val hA (R.pickT rfl rfl) rfl ?_; clear hA a; intro a hA
     refine S.done ?_
     replace hA : St 101 [(13, _), (14, _), (15, _), (16, _), (84, _)] a := hA.sub ((.cons rfl (.cons rfl (.cons rfl (.cons rfl (.cons rfl .nil))))))
     exact hJ _ _ ⟨hA.sub (.cons rfl (.cons rfl (.cons rfl (.cons rfl (.cons (by first | rfl | exact congrArg (fun b => some (Value.bool b)) (by first | exact decide_eq_decide.2 (by omega) | exact or_bool (by omega) | exact and_bool (by omega) | (simp; done) | (simp [hg23, hg24]; done) | (have h80 := hg23; (try simp at h80); have h81 := hg24; (try simp at h81); simp [h80, h81]; done) | exact (decide_eq_false (fun h9 => hg23 h9.1)).symm | exact (decide_eq_false (fun h9 => hg24 h9.1)).symm)) .nil))))), hM⟩
    ·
     clear hA; intro hg24 hA
     refine S.valg (dj := 70) hA (by kernel_rfl) rfl (R.move rfl) rfl ?_; clear hA a; intro a hA
     refine S.valg (dj := 70) hA (by kernel_rfl) rfl (R.move rfl) rfl ?_; clear hA a; intro a hA
     refine S.valg (dj := 70) hA (by kernel_rfl) rfl (R.gtr rfl rfl) rfl ?_; clear hA a; intro a hA
     refine S.valg (dj := 70) hA (by kernel_rfl) rfl (R.move rfl) rfl ?_; clear hA a; intro a hA
     refine hA.split (d := 74) rfl ?_ ?_
     ·
      clear hA; intro hg25 hA
      refine S.valg (dj := 74) hA (by kernel_rfl) rfl (R.move rfl) rfl ?_; clear hA a; intro a hA
      refine S.valg (dj := 74) hA (by kernel_rfl) rfl (R.neq rfl rfl) rfl ?_; clear hA a; intro a hA
      refine S.valg (dj := 74) hA (by kernel_rfl) rfl (R.move rfl) rfl ?_; clear hA a; intro a hA
      refine hA.split (d := 77) rfl ?_ ?_
      ·
       clear hA; intro hg26 hA
       refine S.no (dj := 77) hA (by kernel_rfl) rfl rfl rfl ?_; clear hA a; intro a hA
       refine S.no (dj := 77) hA (by kernel_rfl) rfl rfl rfl ?_; clear hA a; intro a hA
       refine S.no (dj := 77) hA (by kernel_rfl) rfl rfl rfl ?_; clear hA a; intro a hA
       refine S.no (dj := 77) hA (by kernel_rfl) rfl rfl rfl ?_; clear hA a; intro a hA
       refine S.valg (dj := 74) hA (by kernel_rfl) rfl (R.pickT rfl rfl) rfl ?_; clear hA a; intro a hA
       refine S.valg (dj := 70) hA (by kernel_rfl) rfl (R.pickT rfl rfl) rfl ?_; clear hA a; intro a hA
       refine S.val hA (R.pickF rfl rfl) rfl ?_; clear hA a; intro a hA
       refine S.done ?_
       replace hA : St 101 [(13, _), (14, _), (15, _), (16, _), (84, _)] a := hA.sub ((.cons rfl (.cons rfl (.cons rfl (.cons rfl (.cons rfl .nil))))))
       exact hJ _ _ ⟨hA.sub (.cons rfl (.cons rfl (.cons rfl (.cons rfl (.cons (by first | rfl | exact congrArg (fun b => some (Value.bool b)) (by first | exact decide_eq_decide.2 (by omega) | exact or_bool (by omega) | exact and_bool (by omega) | (simp; done) | (simp [hg23, hg24, hg25, hg26]; done) | (have h80 := hg23; (try simp at h80); have h81 := hg24; (try simp at h81); have h82 := hg25; (try simp at h82); have h83 := hg26; (try simp at h83); simp [h80, h81, h82, h83]; done) | exact (decide_eq_false (fun h9 => hg23 h9.1)).symm | exact (decide_eq_false (fun h9 => hg24 h9.1)).symm | exact (decide_eq_false (fun h9 => hg25 h9.1)).symm | exact (decide_eq_false (fun h9 => hg26 h9.1)).symm)) .nil))))), hM⟩
      ·
       clear hA; intro hg26 hA
       refine S.valg (dj := 77) hA (by kernel_rfl) rfl (R.move rfl) rfl ?_; clear hA a; intro a hA
       refine S.valg (dj := 77) hA (by kernel_rfl) rfl (R.move rfl) rfl ?_; clear hA a; intro a hA
       refine S.valg (dj := 77) hA (by kernel_rfl) rfl (R.to (v := .int .i64 9) (R.lenStr Tryd.underlying9 rfl rfl) rfl) rfl ?_; clear hA a; intro a hA
       refine S.valg (dj := 77) hA (by kernel_rfl) rfl (R.neq rfl rfl) rfl ?_; clear hA a; intro a hA
       refine S.valg (dj := 74) hA (by kernel_rfl) rfl (R.pickF rfl rfl) rfl ?_; clear hA a; intro a hA
       refine S.valg (dj := 70) hA (by kernel_rfl) rfl (R.pickT rfl rfl) rfl ?_; clear hA a; intro a hA
       refine S.val hA (R.pickF rfl rfl) rfl ?_; clear hA a; intro a hA
       refine S.done ?_
       replace hA : St 101 [(13, _), (14, _), (15, _), (16, _), (84, _)] a := hA.sub ((.cons rfl (.cons rfl (.cons rfl (.cons rfl (.cons rfl .nil))))))
       exact hJ _ _ ⟨hA.sub (.cons rfl (.cons rfl (.cons rfl (.cons rfl (.cons (by first | rfl | exact congrArg (fun b => some (Value.bool b)) (by first | exact decide_eq_decide.2 (by omega) | exact or_bool (by omega) | exact and_bool (by omega) | (simp; done) | (simp [hg23, hg24, hg25, hg26]; done) | (have h80 := hg23; (try simp at h80); have h81 := hg24; (try simp at h81); have h82 := hg25; (try simp at h82); have h83 := hg26; (try simp at h83); simp [h80, h81, h82, h83]; done) | exact (decide_eq_false (fun h9 => hg23 h9.1)).symm | exact (decide_eq_false (fun h9 => hg24 h9.1)).symm | exact (decide_eq_false (fun h9 => hg25 h9.1)).symm | exact (decide_eq_false (fun h9 => hg26 h9.1)).symm)) .nil))))), hM⟩
     ·
      clear hA; intro hg25 hA
      refine S.no (dj := 74) hA (by kernel_rfl) rfl rfl rfl ?_; clear hA a; intro a hA
      refine S.no (dj := 74) hA (by kernel_rfl) rfl rfl rfl ?_; clear hA a; intro a hA
      refine S.no (dj := 74) hA (by kernel_rfl) rfl rfl rfl ?_; clear hA a; intro a hA
      refine S.noU (dj := 77) hA (by kernel_rfl) rfl rfl ?_; clear hA a; intro a hA
      refine S.noU (dj := 77) hA (by kernel_rfl) rfl rfl ?_; clear hA a; intro a hA
      refine S.noU (dj := 77) hA (by kernel_rfl) rfl rfl ?_; clear hA a; intro a hA
      refine S.noU (dj := 77) hA (by kernel_rfl) rfl rfl ?_; clear hA a; intro a hA
      refine S.no (dj := 74) hA (by kernel_rfl) rfl rfl rfl ?_; clear hA a; intro a hA
      refine S.valg (dj := 70) hA (by kernel_rfl) rfl (R.pickF rfl rfl) rfl ?_; clear hA a; intro a hA
      refine S.val hA (R.pickF rfl rfl) rfl ?_; clear hA a; intro a hA
      refine S.done ?_
      replace hA : St 101 [(13, _), (14, _), (15, _), (16, _), (84, _)] a := hA.sub ((.cons rfl (.cons rfl (.cons rfl (.cons rfl (.cons rfl .nil))))))
      exact hJ _ _ ⟨hA.sub (.cons rfl (.cons rfl (.cons rfl (.cons rfl (.cons (by first | rfl | exact congrArg (fun b => some (Value.bool b)) (by first | exact decide_eq_decide.2 (by omega) | exact or_bool (by omega) | exact and_bool (by omega) | (simp; done) | (simp [hg23, hg24, hg25]; done) | (have h80 := hg23; (try simp at h80); have h81 := hg24; (try simp at h81); have h82 := hg25; (try simp at h82); simp [h80, h81, h82]; done) | exact (decide_eq_false (fun h9 => hg23 h9.1)).symm | exact (decide_eq_false (fun h9 => hg24 h9.1)).symm | exact (decide_eq_false (fun h9 => hg25 h9.1)).symm)) .nil))))), hM⟩
   ·
    clear hA; intro hg23 hA
    refine S.no (dj := 65) hA (by kernel_rfl) rfl rfl rfl ?_; clear hA a; intro a hA
    refine S.no (dj := 65) hA (by kernel_rfl) rfl rfl rfl ?_; clear hA a; intro a hA
    refine S.valg (dj := 61) hA (by kernel_rfl) rfl (R.pickF rfl rfl) rfl ?_; clear hA a; intro a hA
    refine S.val hA (R.pickF rfl rfl) rfl ?_; clear hA a; intro a hA
    refine S.val hA (R.move rfl) rfl ?_; clear hA a; intro a hA
    refine S.valg (dj := 70) hA (by kernel_rfl) rfl (R.move rfl) rfl ?_; clear hA a; intro a hA
    refine S.valg (dj := 70) hA (by kernel_rfl) rfl (R.move rfl) rfl ?_; clear hA a; intro a hA
    refine S.valg (dj := 70) hA (by kernel_rfl) rfl (R.gtr rfl rfl) rfl ?_; clear hA a; intro a hA
    refine S.valg (dj := 70) hA (by kernel_rfl) rfl (R.move rfl) rfl ?_; clear hA a; intro a hA
    refine hA.split (d := 74) rfl ?_ ?_
    ·
     clear hA; intro hg27 hA
     refine S.valg (dj := 74) hA (by kernel_rfl) rfl (R.move rfl) rfl ?_; clear hA a; intro a hA
     refine S.valg (dj := 74) hA (by kernel_rfl) rfl (R.neq rfl rfl) rfl ?_; clear hA a; intro a hA
     refine S.valg (dj := 74) hA (by kernel_rfl) rfl (R.move rfl) rfl ?_; clear hA a; intro a hA
     refine hA.split (d := 77) rfl ?_ ?_
     ·
      clear hA; intro hg28 hA
      refine S.no (dj := 77) hA (by kernel_rfl) rfl rfl rfl ?_; clear hA a; intro a hA
      refine S.no (dj := 77) hA (by kernel_rfl) rfl rfl rfl ?_; clear hA a; intro a hA
      refine S.no (dj := 77) hA (by kernel_rfl) rfl rfl rfl ?_; clear hA a; intro a hA
      refine S.no (dj := 77) hA (by kernel_rfl) rfl rfl rfl ?_; clear hA a; intro a hA
      refine S.valg (dj := 74) hA (by kernel_rfl) rfl (R.pickT rfl rfl) rfl ?_; clear hA a; intro a hA
      refine S.valg (dj := 70) hA (by kernel_rfl) rfl (R.pickT rfl rfl) rfl ?_; clear hA a; intro a hA
      refine S.val hA (R.pickF rfl rfl) rfl ?_; clear hA a; intro a hA
      refine S.done ?_
      replace hA : St 101 [(13, _), (14, _), (15, _), (16, _), (84, _)] a := hA.sub ((.cons rfl (.cons rfl (.cons rfl (.cons rfl (.cons rfl .nil))))))
      exact hJ _ _ ⟨hA.sub (.cons rfl (.cons rfl (.cons rfl (.cons rfl (.cons (by first | rfl | exact congrArg (fun b => some (Value.bool b)) (by first | exact decide_eq_decide.2 (by omega) | exact or_bool (by omega) | exact and_bool (by omega) | (simp; done) | (simp [hg23, hg27, hg28]; done) | (have h80 := hg23; (try simp at h80); have h81 := hg27; (try simp at h81); have h82 := hg28; (try simp at h82); simp [h80, h81, h82]; done) | exact (decide_eq_false (fun h9 => hg23 h9.1)).symm | exact (decide_eq_false (fun h9 => hg27 h9.1)).symm | exact (decide_eq_false (fun h9 => hg28 h9.1)).symm)) .nil))))), hM⟩
     ·
      clear hA; intro hg28 hA
      refine S.valg (dj := 77) hA (by kernel_rfl) rfl (R.move rfl) rfl ?_; clear hA a; intro a hA
      refine S.valg (dj := 77) hA (by kernel_rfl) rfl (R.move rfl) rfl ?_; clear hA a; intro a hA
      refine S.valg (dj := 77) hA (by kernel_rfl) rfl (R.to (v := .int .i64 9) (R.lenStr Tryd.underlying9 rfl rfl) rfl) rfl ?_; clear hA a; intro a hA
      refine S.valg (dj := 77) hA (by kernel_rfl) rfl (R.neq rfl rfl) rfl ?_; clear hA a; intro a hA
      refine S.valg (dj := 74) hA (by kernel_rfl) rfl (R.pickF rfl rfl) rfl ?_; clear hA a; intro a hA
      refine S.valg (dj := 70) hA (by kernel_rfl) rfl (R.pickT rfl rfl) rfl ?_; clear hA a; intro a hA
      refine S.val hA (R.pickF rfl rfl) rfl ?_; clear hA a; intro a hA
      refine S.done ?_
      replace hA : St 101 [(13, _), (14, _), (15, _), (16, _), (84, _)] a := hA.sub ((.cons rfl (.cons rfl (.cons rfl (.cons rfl (.cons rfl .nil))))))
      exact hJ _ _ ⟨hA.sub (.cons rfl (.cons rfl (.cons rfl (.cons rfl (.cons (by first | rfl | exact congrArg (fun b => some (Value.bool b)) (by first | exact decide_eq_decide.2 (by omega) | exact or_bool (by omega) | exact and_bool (by omega) | (simp; done) | (simp [hg23, hg27, hg28]; done) | (have h80 := hg23; (try simp at h80); have h81 := hg27; (try simp at h81); have h82 := hg28; (try simp at h82); simp [h80, h81, h82]; done) | exact (decide_eq_false (fun h9 => hg23 h9.1)).symm | exact (decide_eq_false (fun h9 => hg27 h9.1)).symm | exact (decide_eq_false (fun h9 => hg28 h9.1)).symm)) .nil))))), hM⟩
    ·
     clear hA; intro hg27 hA
     refine S.no (dj := 74) hA (by kernel_rfl) rfl rfl rfl ?_; clear hA a; intro a hA
     refine S.no (dj := 74) hA (by kernel_rfl) rfl rfl rfl ?_; clear hA a; intro a hA
     refine S.no (dj := 74) hA (by kernel_rfl) rfl rfl rfl ?_; clear hA a; intro a hA
     refine S.noU (dj := 77) hA (by kernel_rfl) rfl rfl ?_; clear hA a; intro a hA
     refine S.noU (dj := 77) hA (by kernel_rfl) rfl rfl ?_; clear hA a; intro a hA
     refine S.noU (dj := 77) hA (by kernel_rfl) rfl rfl ?_; clear hA a; intro a hA
     refine S.noU (dj := 77) hA (by kernel_rfl) rfl rfl ?_; clear hA a; intro a hA
     refine S.no (dj := 74) hA (by kernel_rfl) rfl rfl rfl ?_; clear hA a; intro a hA
     refine S.valg (dj := 70) hA (by kernel_rfl) rfl (R.pickF rfl rfl) rfl ?_; clear hA a; intro a hA
     refine S.val hA (R.pickF rfl rfl) rfl ?_; clear hA a; intro a hA
     refine S.done ?_
     replace hA : St 101 [(13, _), (14, _), (15, _), (16, _), (84, _)] a := hA.sub ((.cons rfl (.cons rfl (.cons rfl (.cons rfl (.cons rfl .nil))))))
     exact hJ _ _ ⟨hA.sub (.cons rfl (.cons rfl (.cons rfl (.cons rfl (.cons (by first | rfl | exact congrArg (fun b => some (Value.bool b)) (by first | exact decide_eq_decide.2 (by omega) | exact or_bool (by omega) | exact and_bool (by omega) | (simp; done) | (simp [hg23, hg27]; done) | (have h80 := hg23; (try simp at h80); have h81 := hg27; (try simp at h81); simp [h80, h81]; done) | exact (decide_eq_false (fun h9 => hg23 h9.1)).symm | exact (decide_eq_false (fun h9 => hg27 h9.1)).symm)) .nil))))), hM⟩
 ·
  by_cases hs29 : 1 + ((n1 : Int)) = 2
  ·
   rw [show 1 + ((n1 : Int)) = 2 by omega] at hA
   refine Ends.region ?_
   refine S.buildSl (cells := #[.string (⟨#[75, 78, 65, 80, 83, 65, 67, 75, 32]⟩), .string (⟨#[65, 83, 83, 73, 71, 78, 77, 69, 78, 84, 32]⟩), .string (⟨#[84, 83, 80, 32]⟩)]) hA hM Tryd.underlying34 info9 rfl rfl rfl rfl (by kernel_rfl) rfl ?_; clear hA hM a; intro b30 w12 hb31 hM a hA
   replace hM : Mem _ _ [pt b30 #[.string (⟨#[75, 78, 65, 80, 83, 65, 67, 75, 32]⟩), .string (⟨#[65, 83, 83, 73, 71, 78, 77, 69, 78, 84, 32]⟩), .string (⟨#[84, 83, 80, 32]⟩)] 9] _ := hM
   refine S.val hA (R.move rfl) rfl ?_; clear hA a; intro a hA
   refine S.val hA (R.subI rfl rfl (r := 1) rfl (by omega)) rfl ?_; clear hA a; intro a hA
   refine S.val hA (R.indexAddr (q := 1) sl34 rfl rfl (by omega) (rfl)) rfl ?_; clear hA a; intro a hA
   refine S.val hA (R.load sz9 rfl (hM.cell (k := 0) rfl rfl)) rfl ?_; clear hA a; intro a hA
   refine S.val hA (R.assign rfl) rfl ?_; clear hA a; intro a hA
   refine S.done ?_
   replace hA : St 101 [(0, _), (1, _), (7, _), (8, _)] a := hA.sub ((.cons rfl (.cons rfl (.cons rfl (.cons rfl .nil)))))
   refine Ends.seq (Ends.region ?_)
   refine S.val hA (R.assign rfl) rfl ?_; clear hA a; intro a hA
   refine S.done ?_
   refine Ends.seq (Ends.seq (Ends.region ?_))
   refine S.val hA (R.move rfl) rfl ?_; clear hA a; intro a hA
   refine S.val hA (R.ff (R.eql rfl rfl) (by first | decide | simp | omega)) rfl ?_; clear hA a; intro a hA
   refine S.done ?_
   refine Ends.condF hA rfl ?_
   refine Ends.skip (Ends.seq (Ends.region ?_))
   refine S.val hA (R.move rfl) rfl ?_; clear hA a; intro a hA
   refine S.val hA (R.subI rfl rfl (r := 22) rfl (by omega)) rfl ?_; clear hA a; intro a hA
   refine S.val hA (R.move rfl) rfl ?_; clear hA a; intro a hA
   refine S.val hA (R.conv Tryd.underlying38 Tryd.underlying3 rfl) rfl ?_; clear hA a; intro a hA
   refine S.val hA (R.remI rfl rfl rfl ⟨u64_nn _, by decide⟩) rfl ?_; clear hA a; intro a hA
   obtain ⟨n32, hn33, en34⟩ := umod_ex x0 5 (by decide)
   refine S.val hA (R.to (v := .int .i64 (n32 : Int)) (R.conv Tryd.underlying3 Tryd.underlying38 rfl) (congrArg (Value.int .i64) en34)) rfl ?_; clear hA a; intro a hA
   refine S.val hA (R.addI rfl rfl (r := 22 + ((n32 : Int))) rfl (by omega)) rfl ?_; clear hA a; intro a hA
   refine S.val hA (R.assign rfl) rfl ?_; clear hA a; intro a hA
   refine S.done ?_
   replace hA : St 101 [(0, _), (1, _), (8, _), (9, _)] a := hA.sub ((.cons rfl (.cons rfl (.cons rfl (.cons rfl .nil)))))
   refine Ends.seq (Ends.region ?_)
   refine S.val hA (R.move rfl) rfl ?_; clear hA a; intro a hA
   refine S.val hA (R.move rfl) rfl ?_; clear hA a; intro a hA
   have hil7 := itoa_len' (n := 22 + ((n32 : Int))) (by unfold bd64; omega)
   refine S.call hA (R.callF Tryd.func30 rfl rfl rfl) rfl (rwrite_any (22 + ((n32 : Int))) (by omega) _) ?_; clear hA a
   rintro e w13 ⟨rfl, hb⟩
   replace hM := hM.callB hb; clear hb
   refine ⟨.string ((bs (Lib.itoa (22 + ((n32 : Int)))))), rfl, fun a hA => ?_⟩
   refine S.val hA (R.to (v := .string (bs (([65, 83, 83, 73, 71, 78, 77, 69, 78, 84, 32] : List UInt8) ++ Lib.itoa (22 + ((n32 : Int)))))) (R.addS rfl rfl (by show (bs (([65, 83, 83, 73, 71, 78, 77, 69, 78, 84, 32] : List UInt8))).size + (bs (Lib.itoa (22 + ((n32 : Int))))).size ≤ _; simp only [bs_size, List.length_append, List.length_cons, List.length_nil]; omega)) (congrArg Value.string (bs_app (([65, 83, 83, 73, 71, 78, 77, 69, 78, 84, 32] : List UInt8)) (Lib.itoa (22 + ((n32 : Int))))))) rfl ?_; clear hA a; intro a hA
   have hil1 := itoa_len' (n := (22 + ((n32 : Int)))) (by unfold bd64; omega)
   obtain ⟨pa1, pe1, hpr1, hl1, hl2⟩ := lim2 (n := (22 + ((n32 : Int)))) (by omega) (by omega)
   refine S.call hA (R.callF Tryd.func28 rfl rfl rfl) rfl (parse_eq (bs ((([65, 83, 83, 73, 71, 78, 77, 69, 78, 84, 32] : List UInt8) ++ Lib.itoa (22 + ((n32 : Int)))))) (by rw [bs_size]; simp only [List.length_append, List.length_cons, List.length_nil]; omega) insZ pa1 pe1 hpr1 _ (U8T.below htab (Mem.trans0 hbs hM.nilL))) ?_; clear hA a
   rintro e w14 ⟨ap353, cp353, ap354, cp354, ap355, cp355, rfl, ⟨hp353, hp354, hp355⟩, hb⟩
   replace hM := hM.callB hb; clear hb
   have hbx36 := hM.block (k := 0) rfl
   have hbs := hbs.trans (hM.below.mono hbs.size)
   replace hM := Mem.start w14
   refine ⟨.tuple #[.agg #[.int .i64 insZ.kind, .int .i64 insZ.n, .int .i64 insZ.cap, .slice ap353 insZ.wt.length cp353, .slice ap354 insZ.vl.length cp354, .slice ap355 insZ.cost.length cp355], .int .i64 pa1, .int .i64 pe1], rfl, fun a hA => ?_⟩
   refine S.val hA (R.move rfl) rfl ?_; clear hA a; intro a hA
   refine S.val hA (R.extract (v := .agg #[.int .i64 insZ.kind, .int .i64 insZ.n, .int .i64 insZ.cap, .slice ap353 insZ.wt.length cp353, .slice ap354 insZ.vl.length cp354, .slice ap355 insZ.cost.length cp355]) rfl rfl) rfl ?_; clear hA a; intro a hA
   refine S.val hA (R.extract (v := .int .i64 pa1) rfl rfl) rfl ?_; clear hA a; intro a hA
   refine S.val hA (R.extract (v := .int .i64 pe1) rfl rfl) rfl ?_; clear hA a; intro a hA
   refine S.alloc hA hM info25 rfl rfl ?_; clear hA hM a; intro b37 w15 hb38 hM a hA
   replace hM : Mem _ _ [pt b37 cz0 25] _ := hM
   refine S.storeA (k := 0) hA hM sz25 rfl rfl rfl rfl rfl rfl ?_; clear hM
   intro w16 hM
   replace hM : Mem _ _ [pt b37 #[.int .i64 insZ.kind, .int .i64 insZ.n, .int .i64 insZ.cap, .slice ap353 insZ.wt.length cp353, .slice ap354 insZ.vl.length cp354, .slice ap355 insZ.cost.length cp355] 25] _ := hM
   refine S.val hA (R.assign rfl) rfl ?_; clear hA a; intro a hA
   refine S.val hA (R.assign rfl) rfl ?_; clear hA a; intro a hA
   refine S.done ?_
   replace hA : St 101 [(0, _), (1, _), (8, _), (9, _), (11, _), (12, _)] a := hA.sub ((.cons rfl (.cons rfl (.cons rfl (.cons rfl (.cons rfl (.cons rfl .nil)))))))
   refine Ends.seq (Ends.region ?_)
   refine S.val hA (R.move rfl) rfl ?_; clear hA a; intro a hA
   refine S.val hA (R.conv Tryd.underlying38 Tryd.underlying3 rfl) rfl ?_; clear hA a; intro a hA
   refine S.val hA (R.remI rfl rfl rfl ⟨u64_nn _, by decide⟩) rfl ?_; clear hA a; intro a hA
   obtain ⟨n39, hn40, en41⟩ := umod_ex x1 5 (by decide)
   refine S.val hA (R.to (v := .int .i64 (n39 : Int)) (R.conv Tryd.underlying3 Tryd.underlying38 rfl) (congrArg (Value.int .i64) en41)) rfl ?_; clear hA a; intro a hA
   refine S.val hA (R.addI rfl rfl (r := 2147483645 + ((n39 : Int))) rfl (by omega)) rfl ?_; clear hA a; intro a hA
   refine S.val hA (R.assign rfl) rfl ?_; clear hA a; intro a hA
   refine S.done ?_
   replace hA : St 101 [(0, _), (8, _), (9, _), (11, _), (12, _), (13, _)] a := hA.sub ((.cons rfl (.cons rfl (.cons rfl (.cons rfl (.cons rfl (.cons rfl .nil)))))))
   refine Ends.seq (Ends.region ?_)
   refine S.val hA (R.move rfl) rfl ?_; clear hA a; intro a hA
   have hil9 := itoa_len' (n := 2147483645 + ((n39 : Int))) (by unfold bd64; omega)
   refine S.call hA (R.callF Tryd.func30 rfl rfl rfl) rfl (rwrite_any (2147483645 + ((n39 : Int))) (by omega) _) ?_; clear hA a
   rintro e w17 ⟨rfl, hb⟩
   replace hM := hM.callB hb; clear hb
   refine ⟨.string ((bs (Lib.itoa (2147483645 + ((n39 : Int)))))), rfl, fun a hA => ?_⟩
   refine S.val hA (R.to (v := .string (bs (([75, 78, 65, 80, 83, 65, 67, 75, 32, 49, 32] : List UInt8) ++ Lib.itoa (2147483645 + ((n39 : Int)))))) (R.addS rfl rfl (by show (bs (([75, 78, 65, 80, 83, 65, 67, 75, 32, 49, 32] : List UInt8))).size + (bs (Lib.itoa (2147483645 + ((n39 : Int))))).size ≤ _; simp only [bs_size, List.length_append, List.length_cons, List.length_nil]; omega)) (congrArg Value.string (bs_app (([75, 78, 65, 80, 83, 65, 67, 75, 32, 49, 32] : List UInt8)) (Lib.itoa (2147483645 + ((n39 : Int))))))) rfl ?_; clear hA a; intro a hA
   refine S.val hA (R.to (v := .string (bs ((([75, 78, 65, 80, 83, 65, 67, 75, 32, 49, 32] : List UInt8) ++ Lib.itoa (2147483645 + ((n39 : Int)))) ++ ([32, 48, 32, 48] : List UInt8)))) (R.addS rfl rfl (by show (bs ((([75, 78, 65, 80, 83, 65, 67, 75, 32, 49, 32] : List UInt8) ++ Lib.itoa (2147483645 + ((n39 : Int)))))).size + (bs (([32, 48, 32, 48] : List UInt8))).size ≤ _; simp only [bs_size, List.length_append, List.length_cons, List.length_nil]; omega)) (congrArg Value.string (bs_app ((([75, 78, 65, 80, 83, 65, 67, 75, 32, 49, 32] : List UInt8) ++ Lib.itoa (2147483645 + ((n39 : Int))))) (([32, 48, 32, 48] : List UInt8))))) rfl ?_; clear hA a; intro a hA
   obtain ⟨G2, pa2, pe2, hpr2, hb1, hb2⟩ := limB (n := (2147483645 + (n39 : Int))) (by omega) (by omega)
   refine S.call hA (R.callF Tryd.func28 rfl rfl rfl) rfl (parse_eq (bs (((([75, 78, 65, 80, 83, 65, 67, 75, 32, 49, 32] : List UInt8) ++ Lib.itoa (2147483645 + ((n39 : Int)))) ++ ([32, 48, 32, 48] : List UInt8)))) (by rw [bs_size]; simp only [List.length_append, List.length_cons, List.length_nil]; omega) G2 pa2 pe2 hpr2 _ (U8T.below htab (Mem.trans0 hbs hM.nilL))) ?_; clear hA a
   rintro e w18 ⟨ap423, cp423, ap424, cp424, ap425, cp425, rfl, ⟨hp423, hp424, hp425⟩, hb⟩
   replace hM := hM.callB hb; clear hb
   have hbx43 := hM.block (k := 0) rfl
   have hbs := hbs.trans (hM.below.mono hbs.size)
   have hp353 := hp353.mem hM
   have hp354 := hp354.mem hM
   have hp355 := hp355.mem hM
   have hbx36 := hM.keepB hbx36
   replace hM := Mem.start w18
   refine ⟨.tuple #[.agg #[.int .i64 G2.kind, .int .i64 G2.n, .int .i64 G2.cap, .slice ap423 G2.wt.length cp423, .slice ap424 G2.vl.length cp424, .slice ap425 G2.cost.length cp425], .int .i64 pa2, .int .i64 pe2], rfl, fun a hA => ?_⟩
   refine S.val hA (R.move rfl) rfl ?_; clear hA a; intro a hA
   refine S.val hA (R.extract (v := .agg #[.int .i64 G2.kind, .int .i64 G2.n, .int .i64 G2.cap, .slice ap423 G2.wt.length cp423, .slice ap424 G2.vl.length cp424, .slice ap425 G2.cost.length cp425]) rfl rfl) rfl ?_; clear hA a; intro a hA
   refine S.val hA (R.extract (v := .int .i64 pa2) rfl rfl) rfl ?_; clear hA a; intro a hA
   refine S.val hA (R.extract (v := .int .i64 pe2) rfl rfl) rfl ?_; clear hA a; intro a hA
   refine S.alloc hA hM info25 rfl rfl ?_; clear hA hM a; intro b44 w19 hb45 hM a hA
   replace hM : Mem _ _ [pt b44 cz0 25] _ := hM
   refine S.storeA (k := 0) hA hM sz25 rfl rfl rfl rfl rfl rfl ?_; clear hM
   intro w20 hM
   replace hM : Mem _ _ [pt b44 #[.int .i64 G2.kind, .int .i64 G2.n, .int .i64 G2.cap, .slice ap423 G2.wt.length cp423, .slice ap424 G2.vl.length cp424, .slice ap425 G2.cost.length cp425] 25] _ := hM
   refine S.val hA (R.assign rfl) rfl ?_; clear hA a; intro a hA
   refine S.val hA (R.assign rfl) rfl ?_; clear hA a; intro a hA
   refine S.done ?_
   replace hA : St 101 [(0, _), (8, _), (9, _), (11, _), (12, _), (13, _), (14, _), (15, _), (16, _)] a := hA.sub ((.cons rfl (.cons rfl (.cons rfl (.cons rfl (.cons rfl (.cons rfl (.cons rfl (.cons rfl (.cons rfl .nil))))))))))
   refine Ends.seq (Ends.seq ?_)
   refine Ends.cut (fun (a : Act) (wv : World) => St 101 [(13, .int .i64 (2147483645 + ((n39 : Int)))), (14, .pointer (some ⟨b44, 0, none⟩)), (15, .int .i64 pa2), (16, .int .i64 pe2), (84, .bool (decide ((((22 + ((n32 : Int))) ≤ 24 ∧ pe1 ≠ 6) ∨ (24 < (22 + ((n32 : Int))) ∧ (pe1 ≠ 5 ∨ pa1 ≠ 11))))))] a ∧ Mem w18 nof [pt b44 #[.int .i64 G2.kind, .int .i64 G2.n, .int .i64 G2.cap, .slice ap423 G2.wt.length cp423, .slice ap424 G2.vl.length cp424, .slice ap425 G2.cost.length cp425] 25] wv) ?_ (fun k2 hJ => ?_)
   ·
    clear hA hM a; rintro a w21 ⟨hA, hM⟩
    refine Ends.ite hA rfl (fun hc46 => ?_) (fun hc46 => ?_)
    · exact absurd hc46 (by omega)
    ·
     refine Ends.skip (Ends.seq (Ends.seq (Ends.region ?_)))
     refine S.val hA (R.move rfl) rfl ?_; clear hA a; intro a hA
     refine S.val hA (R.gtr rfl rfl) rfl ?_; clear hA a; intro a hA
     refine S.done ?_
     refine Ends.ite hA rfl (fun hc47 => ?_) (fun hc47 => ?_)
     ·
      refine Ends.seq (Ends.region ?_)
      refine S.val hA (R.move rfl) rfl ?_; clear hA a; intro a hA
      refine S.val hA (R.tt (R.eql rfl rfl) (by omega)) rfl ?_; clear hA a; intro a hA
      refine S.val hA (R.move rfl) rfl ?_; clear hA a; intro a hA
      refine S.valg (dj := 89) hA (by kernel_rfl) rfl (R.move rfl) rfl ?_; clear hA a; intro a hA
      refine S.valg (dj := 89) hA (by kernel_rfl) rfl (R.tt (R.eql rfl rfl) (by omega)) rfl ?_; clear hA a; intro a hA
      refine S.val hA (R.pickT rfl rfl) rfl ?_; clear hA a; intro a hA
      refine S.val hA (R.assign rfl) rfl ?_; clear hA a; intro a hA
      refine S.done ?_
      replace hA : St 101 [(6, _), (13, _), (14, _), (16, _)] a := hA.sub ((.cons rfl (.cons rfl (.cons rfl (.cons rfl .nil)))))
      refine Ends.ret1 Tryd.func9 Tryd.results9 hA rfl ?_
      exact ⟨rfl, Mem.trans0 hbs hM.nilL⟩
     ·
      refine Ends.skip (Ends.seq (Ends.region ?_))
      refine S.val hA (R.move rfl) rfl ?_; clear hA a; intro a hA
      refine S.val hA (R.tt (R.eql rfl rfl) (by omega)) rfl ?_; clear hA a; intro a hA
      refine S.val hA (R.move rfl) rfl ?_; clear hA a; intro a hA
      refine S.valg (dj := 95) hA (by kernel_rfl) rfl (R.fieldAddr (q := 2) fi25_2 rfl rfl rfl) rfl ?_; clear hA a; intro a hA
      refine S.valg (dj := 95) hA (by kernel_rfl) rfl (R.load sz3 rfl (hM.cell (k := 0) rfl rfl)) rfl ?_; clear hA a; intro a hA
      refine S.valg (dj := 95) hA (by kernel_rfl) rfl (R.move rfl) rfl ?_; clear hA a; intro a hA
      refine S.valg (dj := 95) hA (by kernel_rfl) rfl (R.tt (R.eql rfl rfl) (by omega)) rfl ?_; clear hA a; intro a hA
      refine S.val hA (R.pickT rfl rfl) rfl ?_; clear hA a; intro a hA
      refine S.val hA (R.assign rfl) rfl ?_; clear hA a; intro a hA
      refine S.done ?_
      replace hA : St 101 [(6, _)] a := hA.sub ((.cons rfl .nil))
      refine Ends.ret1 Tryd.func9 Tryd.results9 hA rfl ?_
      exact ⟨rfl, Mem.trans0 hbs hM.nilL⟩
   ·
    refine Ends.region ?_
    refine S.call hA (R.callF Tryd.func27 rfl rfl rfl) rfl (parses_any _ (U8T.below htab (Mem.trans0 hbs hM.nilL))) ?_; clear hA a
    rintro e w22 ⟨rfl, hb⟩
    replace hM := hM.callB hb; clear hb
    refine ⟨.bool true, rfl, fun a hA => ?_⟩
    refine S.val hA (R.not rfl) rfl ?_; clear hA a; intro a hA
    refine S.val hA (R.move rfl) rfl ?_; clear hA a; intro a hA
    refine S.valg (dj := 61) hA (by kernel_rfl) rfl (R.move rfl) rfl ?_; clear hA a; intro a hA
    refine S.valg (dj := 61) hA (by kernel_rfl) rfl (R.move rfl) rfl ?_; clear hA a; intro a hA
    refine S.valg (dj := 61) hA (by kernel_rfl) rfl (R.leq rfl rfl) rfl ?_; clear hA a; intro a hA
    refine S.valg (dj := 61) hA (by kernel_rfl) rfl (R.move rfl) rfl ?_; clear hA a; intro a hA
    refine hA.split (d := 65) rfl ?_ ?_
    ·
     clear hA; intro hg48 hA
     refine S.valg (dj := 65) hA (by kernel_rfl) rfl (R.move rfl) rfl ?_; clear hA a; intro a hA
     refine S.valg (dj := 65) hA (by kernel_rfl) rfl (R.neq rfl rfl) rfl ?_; clear hA a; intro a hA
     refine S.valg (dj := 61) hA (by kernel_rfl) rfl (R.pickT rfl rfl) rfl ?_; clear hA a; intro a hA
     refine S.val hA (R.pickF rfl rfl) rfl ?_; clear hA a; intro a hA
     refine S.val hA (R.move rfl) rfl ?_; clear hA a; intro a hA
     refine hA.split (d := 70) rfl ?_ ?_
     ·
      clear hA; intro hg49 hA
      refine S.no (dj := 70) hA (by kernel_rfl) rfl rfl rfl ?_; clear hA a; intro a hA
      refine S.no (dj := 70) hA (by kernel_rfl) rfl rfl rfl ?_; clear hA a; intro a hA
      refine S.no (dj := 70) hA (by kernel_rfl) rfl rfl rfl ?_; clear hA a; intro a hA
      refine S.no (dj := 70) hA (by kernel_rfl) rfl rfl rfl ?_; clear hA a; intro a hA
      refine S.noU (dj := 74) hA (by kernel_rfl) rfl rfl ?_; clear hA a; intro a hA
      refine S.noU (dj := 74) hA (by kernel_rfl) rfl rfl ?_; clear hA a; intro a hA
      refine S.noU (dj := 74) hA (by kernel_rfl) rfl rfl ?_; clear hA a; intro a hA
      refine S.noU (dj := 77) hA (by kernel_rfl) rfl rfl ?_; clear hA a; intro a hA
      refine S.noU (dj := 77) hA (by kernel_rfl) rfl rfl ?_; clear hA a; intro a hA
      refine S.noU (dj := 77) hA (by kernel_rfl) rfl rfl ?_; clear hA a; intro a hA
      refine S.noU (dj := 77) hA (by kernel_rfl) rfl rfl ?_; clear hA a; intro a hA
      refine S.noU (dj := 74) hA (by kernel_rfl) rfl rfl ?_; clear hA a; intro a hA
      refine S.no (dj := 70) hA (by kernel_rfl) rfl rfl rfl ?_; clear hA a; intro a hA
      refine S.val hA (R.pickT rfl rfl) rfl ?_; clear hA a; intro a hA
      refine S.done ?_
      replace hA : St 101 [(13, _), (14, _), (15, _), (16, _), (84, _)] a := hA.sub ((.cons rfl (.cons rfl (.cons rfl (.cons rfl (.cons rfl .nil))))))
      exact hJ _ _ ⟨hA.sub (.cons rfl (.cons rfl (.cons rfl (.cons rfl (.cons (by first | rfl | exact congrArg (fun b => some (Value.bool b)) (by first | exact decide_eq_decide.2 (by omega) | exact or_bool (by omega) | exact and_bool (by omega) | (simp; done) | (simp [hg48, hg49]; done) | (have h80 := hg48; (try simp at h80); have h81 := hg49; (try simp at h81); simp [h80, h81]; done) | exact (decide_eq_false (fun h9 => hg48 h9.1)).symm | exact (decide_eq_false (fun h9 => hg49 h9.1)).symm)) .nil))))), hM⟩
     ·
      clear hA; intro hg49 hA
      refine S.valg (dj := 70) hA (by kernel_rfl) rfl (R.move rfl) rfl ?_; clear hA a; intro a hA
      refine S.valg (dj := 70) hA (by kernel_rfl) rfl (R.move rfl) rfl ?_; clear hA a; intro a hA
      refine S.valg (dj := 70) hA (by kernel_rfl) rfl (R.gtr rfl rfl) rfl ?_; clear hA a; intro a hA
      refine S.valg (dj := 70) hA (by kernel_rfl) rfl (R.move rfl) rfl ?_; clear hA a; intro a hA
      refine hA.split (d := 74) rfl ?_ ?_
      ·
       clear hA; intro hg50 hA
       refine S.valg (dj := 74) hA (by kernel_rfl) rfl (R.move rfl) rfl ?_; clear hA a; intro a hA
       refine S.valg (dj := 74) hA (by kernel_rfl) rfl (R.neq rfl rfl) rfl ?_; clear hA a; intro a hA
       refine S.valg (dj := 74) hA (by kernel_rfl) rfl (R.move rfl) rfl ?_; clear hA a; intro a hA
       refine hA.split (d := 77) rfl ?_ ?_
       ·
        clear hA; intro hg51 hA
        refine S.no (dj := 77) hA (by kernel_rfl) rfl rfl rfl ?_; clear hA a; intro a hA
        refine S.no (dj := 77) hA (by kernel_rfl) rfl rfl rfl ?_; clear hA a; intro a hA
        refine S.no (dj := 77) hA (by kernel_rfl) rfl rfl rfl ?_; clear hA a; intro a hA
        refine S.no (dj := 77) hA (by kernel_rfl) rfl rfl rfl ?_; clear hA a; intro a hA
        refine S.valg (dj := 74) hA (by kernel_rfl) rfl (R.pickT rfl rfl) rfl ?_; clear hA a; intro a hA
        refine S.valg (dj := 70) hA (by kernel_rfl) rfl (R.pickT rfl rfl) rfl ?_; clear hA a; intro a hA
        refine S.val hA (R.pickF rfl rfl) rfl ?_; clear hA a; intro a hA
        refine S.done ?_
        replace hA : St 101 [(13, _), (14, _), (15, _), (16, _), (84, _)] a := hA.sub ((.cons rfl (.cons rfl (.cons rfl (.cons rfl (.cons rfl .nil))))))
        exact hJ _ _ ⟨hA.sub (.cons rfl (.cons rfl (.cons rfl (.cons rfl (.cons (by first | rfl | exact congrArg (fun b => some (Value.bool b)) (by first | exact decide_eq_decide.2 (by omega) | exact or_bool (by omega) | exact and_bool (by omega) | (simp; done) | (simp [hg48, hg49, hg50, hg51]; done) | (have h80 := hg48; (try simp at h80); have h81 := hg49; (try simp at h81); have h82 := hg50; (try simp at h82); have h83 := hg51; (try simp at h83); simp [h80, h81, h82, h83]; done) | exact (decide_eq_false (fun h9 => hg48 h9.1)).symm | exact (decide_eq_false (fun h9 => hg49 h9.1)).symm | exact (decide_eq_false (fun h9 => hg50 h9.1)).symm | exact (decide_eq_false (fun h9 => hg51 h9.1)).symm)) .nil))))), hM⟩
       ·
        clear hA; intro hg51 hA
        refine S.valg (dj := 77) hA (by kernel_rfl) rfl (R.move rfl) rfl ?_; clear hA a; intro a hA
        refine S.valg (dj := 77) hA (by kernel_rfl) rfl (R.move rfl) rfl ?_; clear hA a; intro a hA
        refine S.valg (dj := 77) hA (by kernel_rfl) rfl (R.to (v := .int .i64 11) (R.lenStr Tryd.underlying9 rfl rfl) rfl) rfl ?_; clear hA a; intro a hA
        refine S.valg (dj := 77) hA (by kernel_rfl) rfl (R.neq rfl rfl) rfl ?_; clear hA a; intro a hA
        refine S.valg (dj := 74) hA (by kernel_rfl) rfl (R.pickF rfl rfl) rfl ?_; clear hA a; intro a hA
        refine S.valg (dj := 70) hA (by kernel_rfl) rfl (R.pickT rfl rfl) rfl ?_; clear hA a; intro a hA
        refine S.val hA (R.pickF rfl rfl) rfl ?_; clear hA a; intro a hA
        refine S.done ?_
        replace hA : St 101 [(13, _), (14, _), (15, _), (16, _), (84, _)] a := hA.sub ((.cons rfl (.cons rfl (.cons rfl (.cons rfl (.cons rfl .nil))))))
        exact hJ _ _ ⟨hA.sub (.cons rfl (.cons rfl (.cons rfl (.cons rfl (.cons (by first | rfl | exact congrArg (fun b => some (Value.bool b)) (by first | exact decide_eq_decide.2 (by omega) | exact or_bool (by omega) | exact and_bool (by omega) | (simp; done) | (simp [hg48, hg49, hg50, hg51]; done) | (have h80 := hg48; (try simp at h80); have h81 := hg49; (try simp at h81); have h82 := hg50; (try simp at h82); have h83 := hg51; (try simp at h83); simp [h80, h81, h82, h83]; done) | exact (decide_eq_false (fun h9 => hg48 h9.1)).symm | exact (decide_eq_false (fun h9 => hg49 h9.1)).symm | exact (decide_eq_false (fun h9 => hg50 h9.1)).symm | exact (decide_eq_false (fun h9 => hg51 h9.1)).symm)) .nil))))), hM⟩
      ·
       clear hA; intro hg50 hA
       refine S.no (dj := 74) hA (by kernel_rfl) rfl rfl rfl ?_; clear hA a; intro a hA
       refine S.no (dj := 74) hA (by kernel_rfl) rfl rfl rfl ?_; clear hA a; intro a hA
       refine S.no (dj := 74) hA (by kernel_rfl) rfl rfl rfl ?_; clear hA a; intro a hA
       refine S.noU (dj := 77) hA (by kernel_rfl) rfl rfl ?_; clear hA a; intro a hA
       refine S.noU (dj := 77) hA (by kernel_rfl) rfl rfl ?_; clear hA a; intro a hA
       refine S.noU (dj := 77) hA (by kernel_rfl) rfl rfl ?_; clear hA a; intro a hA
       refine S.noU (dj := 77) hA (by kernel_rfl) rfl rfl ?_; clear hA a; intro a hA
       refine S.no (dj := 74) hA (by kernel_rfl) rfl rfl rfl ?_; clear hA a; intro a hA
       refine S.valg (dj := 70) hA (by kernel_rfl) rfl (R.pickF rfl rfl) rfl ?_; clear hA a; intro a hA
       refine S.val hA (R.pickF rfl rfl) rfl ?_; clear hA a; intro a hA
       refine S.done ?_
       replace hA : St 101 [(13, _), (14, _), (15, _), (16, _), (84, _)] a := hA.sub ((.cons rfl (.cons rfl (.cons rfl (.cons rfl (.cons rfl .nil))))))
       exact hJ _ _ ⟨hA.sub (.cons rfl (.cons rfl (.cons rfl (.cons rfl (.cons (by first | rfl | exact congrArg (fun b => some (Value.bool b)) (by first | exact decide_eq_decide.2 (by omega) | exact or_bool (by omega) | exact and_bool (by omega) | (simp; done) | (simp [hg48, hg49, hg50]; done) | (have h80 := hg48; (try simp at h80); have h81 := hg49; (try simp at h81); have h82 := hg50; (try simp at h82); simp [h80, h81, h82]; done) | exact (decide_eq_false (fun h9 => hg48 h9.1)).symm | exact (decide_eq_false (fun h9 => hg49 h9.1)).symm | exact (decide_eq_false (fun h9 => hg50 h9.1)).symm)) .nil))))), hM⟩
    ·
     clear hA; intro hg48 hA
     refine S.no (dj := 65) hA (by kernel_rfl) rfl rfl rfl ?_; clear hA a; intro a hA
     refine S.no (dj := 65) hA (by kernel_rfl) rfl rfl rfl ?_; clear hA a; intro a hA
     refine S.valg (dj := 61) hA (by kernel_rfl) rfl (R.pickF rfl rfl) rfl ?_; clear hA a; intro a hA
     refine S.val hA (R.pickF rfl rfl) rfl ?_; clear hA a; intro a hA
     refine S.val hA (R.move rfl) rfl ?_; clear hA a; intro a hA
     refine S.valg (dj := 70) hA (by kernel_rfl) rfl (R.move rfl) rfl ?_; clear hA a; intro a hA
     refine S.valg (dj := 70) hA (by kernel_rfl) rfl (R.move rfl) rfl ?_; clear hA a; intro a hA
     refine S.valg (dj := 70) hA (by kernel_rfl) rfl (R.gtr rfl rfl) rfl ?_; clear hA a; intro a hA
     refine S.valg (dj := 70) hA (by kernel_rfl) rfl (R.move rfl) rfl ?_; clear hA a; intro a hA
     refine hA.split (d := 74) rfl ?_ ?_
     ·
      clear hA; intro hg52 hA
      refine S.valg (dj := 74) hA (by kernel_rfl) rfl (R.move rfl) rfl ?_; clear hA a; intro a hA
      refine S.valg (dj := 74) hA (by kernel_rfl) rfl (R.neq rfl rfl) rfl ?_; clear hA a; intro a hA
      refine S.valg (dj := 74) hA (by kernel_rfl) rfl (R.move rfl) rfl ?_; clear hA a; intro a hA
      refine hA.split (d := 77) rfl ?_ ?_
      ·
       clear hA; intro hg53 hA
       refine S.no (dj := 77) hA (by kernel_rfl) rfl rfl rfl ?_; clear hA a; intro a hA
       refine S.no (dj := 77) hA (by kernel_rfl) rfl rfl rfl ?_; clear hA a; intro a hA
       refine S.no (dj := 77) hA (by kernel_rfl) rfl rfl rfl ?_; clear hA a; intro a hA
       refine S.no (dj := 77) hA (by kernel_rfl) rfl rfl rfl ?_; clear hA a; intro a hA
       refine S.valg (dj := 74) hA (by kernel_rfl) rfl (R.pickT rfl rfl) rfl ?_; clear hA a; intro a hA
       refine S.valg (dj := 70) hA (by kernel_rfl) rfl (R.pickT rfl rfl) rfl ?_; clear hA a; intro a hA
       refine S.val hA (R.pickF rfl rfl) rfl ?_; clear hA a; intro a hA
       refine S.done ?_
       replace hA : St 101 [(13, _), (14, _), (15, _), (16, _), (84, _)] a := hA.sub ((.cons rfl (.cons rfl (.cons rfl (.cons rfl (.cons rfl .nil))))))
       exact hJ _ _ ⟨hA.sub (.cons rfl (.cons rfl (.cons rfl (.cons rfl (.cons (by first | rfl | exact congrArg (fun b => some (Value.bool b)) (by first | exact decide_eq_decide.2 (by omega) | exact or_bool (by omega) | exact and_bool (by omega) | (simp; done) | (simp [hg48, hg52, hg53]; done) | (have h80 := hg48; (try simp at h80); have h81 := hg52; (try simp at h81); have h82 := hg53; (try simp at h82); simp [h80, h81, h82]; done) | exact (decide_eq_false (fun h9 => hg48 h9.1)).symm | exact (decide_eq_false (fun h9 => hg52 h9.1)).symm | exact (decide_eq_false (fun h9 => hg53 h9.1)).symm)) .nil))))), hM⟩
      ·
       clear hA; intro hg53 hA
       refine S.valg (dj := 77) hA (by kernel_rfl) rfl (R.move rfl) rfl ?_; clear hA a; intro a hA
       refine S.valg (dj := 77) hA (by kernel_rfl) rfl (R.move rfl) rfl ?_; clear hA a; intro a hA
       refine S.valg (dj := 77) hA (by kernel_rfl) rfl (R.to (v := .int .i64 11) (R.lenStr Tryd.underlying9 rfl rfl) rfl) rfl ?_; clear hA a; intro a hA
       refine S.valg (dj := 77) hA (by kernel_rfl) rfl (R.neq rfl rfl) rfl ?_; clear hA a; intro a hA
       refine S.valg (dj := 74) hA (by kernel_rfl) rfl (R.pickF rfl rfl) rfl ?_; clear hA a; intro a hA
       refine S.valg (dj := 70) hA (by kernel_rfl) rfl (R.pickT rfl rfl) rfl ?_; clear hA a; intro a hA
       refine S.val hA (R.pickF rfl rfl) rfl ?_; clear hA a; intro a hA
       refine S.done ?_
       replace hA : St 101 [(13, _), (14, _), (15, _), (16, _), (84, _)] a := hA.sub ((.cons rfl (.cons rfl (.cons rfl (.cons rfl (.cons rfl .nil))))))
       exact hJ _ _ ⟨hA.sub (.cons rfl (.cons rfl (.cons rfl (.cons rfl (.cons (by first | rfl | exact congrArg (fun b => some (Value.bool b)) (by first | exact decide_eq_decide.2 (by omega) | exact or_bool (by omega) | exact and_bool (by omega) | (simp; done) | (simp [hg48, hg52, hg53]; done) | (have h80 := hg48; (try simp at h80); have h81 := hg52; (try simp at h81); have h82 := hg53; (try simp at h82); simp [h80, h81, h82]; done) | exact (decide_eq_false (fun h9 => hg48 h9.1)).symm | exact (decide_eq_false (fun h9 => hg52 h9.1)).symm | exact (decide_eq_false (fun h9 => hg53 h9.1)).symm)) .nil))))), hM⟩
     ·
      clear hA; intro hg52 hA
      refine S.no (dj := 74) hA (by kernel_rfl) rfl rfl rfl ?_; clear hA a; intro a hA
      refine S.no (dj := 74) hA (by kernel_rfl) rfl rfl rfl ?_; clear hA a; intro a hA
      refine S.no (dj := 74) hA (by kernel_rfl) rfl rfl rfl ?_; clear hA a; intro a hA
      refine S.noU (dj := 77) hA (by kernel_rfl) rfl rfl ?_; clear hA a; intro a hA
      refine S.noU (dj := 77) hA (by kernel_rfl) rfl rfl ?_; clear hA a; intro a hA
      refine S.noU (dj := 77) hA (by kernel_rfl) rfl rfl ?_; clear hA a; intro a hA
      refine S.noU (dj := 77) hA (by kernel_rfl) rfl rfl ?_; clear hA a; intro a hA
      refine S.no (dj := 74) hA (by kernel_rfl) rfl rfl rfl ?_; clear hA a; intro a hA
      refine S.valg (dj := 70) hA (by kernel_rfl) rfl (R.pickF rfl rfl) rfl ?_; clear hA a; intro a hA
      refine S.val hA (R.pickF rfl rfl) rfl ?_; clear hA a; intro a hA
      refine S.done ?_
      replace hA : St 101 [(13, _), (14, _), (15, _), (16, _), (84, _)] a := hA.sub ((.cons rfl (.cons rfl (.cons rfl (.cons rfl (.cons rfl .nil))))))
      exact hJ _ _ ⟨hA.sub (.cons rfl (.cons rfl (.cons rfl (.cons rfl (.cons (by first | rfl | exact congrArg (fun b => some (Value.bool b)) (by first | exact decide_eq_decide.2 (by omega) | exact or_bool (by omega) | exact and_bool (by omega) | (simp; done) | (simp [hg48, hg52]; done) | (have h80 := hg48; (try simp at h80); have h81 := hg52; (try simp at h81); simp [h80, h81]; done) | exact (decide_eq_false (fun h9 => hg48 h9.1)).symm | exact (decide_eq_false (fun h9 => hg52 h9.1)).symm)) .nil))))), hM⟩
  ·
   rw [show 1 + ((n1 : Int)) = 3 by omega] at hA
   refine Ends.region ?_
   refine S.buildSl (cells := #[.string (⟨#[75, 78, 65, 80, 83, 65, 67, 75, 32]⟩), .string (⟨#[65, 83, 83, 73, 71, 78, 77, 69, 78, 84, 32]⟩), .string (⟨#[84, 83, 80, 32]⟩)]) hA hM Tryd.underlying34 info9 rfl rfl rfl rfl (by kernel_rfl) rfl ?_; clear hA hM a; intro b54 w23 hb55 hM a hA
   replace hM : Mem _ _ [pt b54 #[.string (⟨#[75, 78, 65, 80, 83, 65, 67, 75, 32]⟩), .string (⟨#[65, 83, 83, 73, 71, 78, 77, 69, 78, 84, 32]⟩), .string (⟨#[84, 83, 80, 32]⟩)] 9] _ := hM
   refine S.val hA (R.move rfl) rfl ?_; clear hA a; intro a hA
   refine S.val hA (R.subI rfl rfl (r := 2) rfl (by omega)) rfl ?_; clear hA a; intro a hA
   refine S.val hA (R.indexAddr (q := 2) sl34 rfl rfl (by omega) (rfl)) rfl ?_; clear hA a; intro a hA
   refine S.val hA (R.load sz9 rfl (hM.cell (k := 0) rfl rfl)) rfl ?_; clear hA a; intro a hA
   refine S.val hA (R.assign rfl) rfl ?_; clear hA a; intro a hA
   refine S.done ?_
   replace hA : St 101 [(0, _), (1, _), (7, _), (8, _)] a := hA.sub ((.cons rfl (.cons rfl (.cons rfl (.cons rfl .nil)))))
   refine Ends.seq (Ends.region ?_)
   refine S.val hA (R.assign rfl) rfl ?_; clear hA a; intro a hA
   refine S.done ?_
   refine Ends.seq (Ends.seq (Ends.region ?_))
   refine S.val hA (R.move rfl) rfl ?_; clear hA a; intro a hA
   refine S.val hA (R.ff (R.eql rfl rfl) (by first | decide | simp | omega)) rfl ?_; clear hA a; intro a hA
   refine S.done ?_
   refine Ends.condF hA rfl ?_
   refine Ends.skip (Ends.seq (Ends.region ?_))
   refine S.val hA (R.move rfl) rfl ?_; clear hA a; intro a hA
   refine S.val hA (R.subI rfl rfl (r := 22) rfl (by omega)) rfl ?_; clear hA a; intro a hA
   refine S.val hA (R.move rfl) rfl ?_; clear hA a; intro a hA
   refine S.val hA (R.conv Tryd.underlying38 Tryd.underlying3 rfl) rfl ?_; clear hA a; intro a hA
   refine S.val hA (R.remI rfl rfl rfl ⟨u64_nn _, by decide⟩) rfl ?_; clear hA a; intro a hA
   obtain ⟨n56, hn57, en58⟩ := umod_ex x0 5 (by decide)
   refine S.val hA (R.to (v := .int .i64 (n56 : Int)) (R.conv Tryd.underlying3 Tryd.underlying38 rfl) (congrArg (Value.int .i64) en58)) rfl ?_; clear hA a; intro a hA
   refine S.val hA (R.addI rfl rfl (r := 22 + ((n56 : Int))) rfl (by omega)) rfl ?_; clear hA a; intro a hA
   refine S.val hA (R.assign rfl) rfl ?_; clear hA a; intro a hA
   refine S.done ?_
   replace hA : St 101 [(0, _), (1, _), (8, _), (9, _)] a := hA.sub ((.cons rfl (.cons rfl (.cons rfl (.cons rfl .nil)))))
   refine Ends.seq (Ends.region ?_)
   refine S.val hA (R.move rfl) rfl ?_; clear hA a; intro a hA
   refine S.val hA (R.move rfl) rfl ?_; clear hA a; intro a hA
   have hil7 := itoa_len' (n := 22 + ((n56 : Int))) (by unfold bd64; omega)
   refine S.call hA (R.callF Tryd.func30 rfl rfl rfl) rfl (rwrite_any (22 + ((n56 : Int))) (by omega) _) ?_; clear hA a
   rintro e w24 ⟨rfl, hb⟩
   replace hM := hM.callB hb; clear hb
   refine ⟨.string ((bs (Lib.itoa (22 + ((n56 : Int)))))), rfl, fun a hA => ?_⟩
   refine S.val hA (R.to (v := .string (bs (([84, 83, 80, 32] : List UInt8) ++ Lib.itoa (22 + ((n56 : Int)))))) (R.addS rfl rfl (by show (bs (([84, 83, 80, 32] : List UInt8))).size + (bs (Lib.itoa (22 + ((n56 : Int))))).size ≤ _; simp only [bs_size, List.length_append, List.length_cons, List.length_nil]; omega)) (congrArg Value.string (bs_app (([84, 83, 80, 32] : List UInt8)) (Lib.itoa (22 + ((n56 : Int))))))) rfl ?_; clear hA a; intro a hA
   have hil1 := itoa_len' (n := (22 + ((n56 : Int)))) (by unfold bd64; omega)
   obtain ⟨pa1, pe1, hpr1, hl1, hl2⟩ := lim3 (n := (22 + ((n56 : Int)))) (by omega) (by omega)
   refine S.call hA (R.callF Tryd.func28 rfl rfl rfl) rfl (parse_eq (bs ((([84, 83, 80, 32] : List UInt8) ++ Lib.itoa (22 + ((n56 : Int)))))) (by rw [bs_size]; simp only [List.length_append, List.length_cons, List.length_nil]; omega) insZ pa1 pe1 hpr1 _ (U8T.below htab (Mem.trans0 hbs hM.nilL))) ?_; clear hA a
   rintro e w25 ⟨ap593, cp593, ap594, cp594, ap595, cp595, rfl, ⟨hp593, hp594, hp595⟩, hb⟩
   replace hM := hM.callB hb; clear hb
   have hbx60 := hM.block (k := 0) rfl
   have hbs := hbs.trans (hM.below.mono hbs.size)
   replace hM := Mem.start w25
   refine ⟨.tuple #[.agg #[.int .i64 insZ.kind, .int .i64 insZ.n, .int .i64 insZ.cap, .slice ap593 insZ.wt.length cp593, .slice ap594 insZ.vl.length cp594, .slice ap595 insZ.cost.length cp595], .int .i64 pa1, .int .i64 pe1], rfl, fun a hA => ?_⟩
   refine S.val hA (R.move rfl) rfl ?_; clear hA a; intro a hA
   refine S.val hA (R.extract (v := .agg #[.int .i64 insZ.kind, .int .i64 insZ.n, .int .i64 insZ.cap, .slice ap593 insZ.wt.length cp593, .slice ap594 insZ.vl.length cp594, .slice ap595 insZ.cost.length cp595]) rfl rfl) rfl ?_; clear hA a; intro a hA
   refine S.val hA (R.extract (v := .int .i64 pa1) rfl rfl) rfl ?_; clear hA a; intro a hA
   refine S.val hA (R.extract (v := .int .i64 pe1) rfl rfl) rfl ?_; clear hA a; intro a hA
   refine S.alloc hA hM info25 rfl rfl ?_; clear hA hM a; intro b61 w26 hb62 hM a hA
   replace hM : Mem _ _ [pt b61 cz0 25] _ := hM
   refine S.storeA (k := 0) hA hM sz25 rfl rfl rfl rfl rfl rfl ?_; clear hM
   intro w27 hM
   replace hM : Mem _ _ [pt b61 #[.int .i64 insZ.kind, .int .i64 insZ.n, .int .i64 insZ.cap, .slice ap593 insZ.wt.length cp593, .slice ap594 insZ.vl.length cp594, .slice ap595 insZ.cost.length cp595] 25] _ := hM
   refine S.val hA (R.assign rfl) rfl ?_; clear hA a; intro a hA
   refine S.val hA (R.assign rfl) rfl ?_; clear hA a; intro a hA
   refine S.done ?_
   replace hA : St 101 [(0, _), (1, _), (8, _), (9, _), (11, _), (12, _)] a := hA.sub ((.cons rfl (.cons rfl (.cons rfl (.cons rfl (.cons rfl (.cons rfl .nil)))))))
   refine Ends.seq (Ends.region ?_)
   refine S.val hA (R.move rfl) rfl ?_; clear hA a; intro a hA
   refine S.val hA (R.conv Tryd.underlying38 Tryd.underlying3 rfl) rfl ?_; clear hA a; intro a hA
   refine S.val hA (R.remI rfl rfl rfl ⟨u64_nn _, by decide⟩) rfl ?_; clear hA a; intro a hA
   obtain ⟨n63, hn64, en65⟩ := umod_ex x1 5 (by decide)
   refine S.val hA (R.to (v := .int .i64 (n63 : Int)) (R.conv Tryd.underlying3 Tryd.underlying38 rfl) (congrArg (Value.int .i64) en65)) rfl ?_; clear hA a; intro a hA
   refine S.val hA (R.addI rfl rfl (r := 2147483645 + ((n63 : Int))) rfl (by omega)) rfl ?_; clear hA a; intro a hA
   refine S.val hA (R.assign rfl) rfl ?_; clear hA a; intro a hA
   refine S.done ?_
   replace hA : St 101 [(0, _), (8, _), (9, _), (11, _), (12, _), (13, _)] a := hA.sub ((.cons rfl (.cons rfl (.cons rfl (.cons rfl (.cons rfl (.cons rfl .nil)))))))
   refine Ends.seq (Ends.region ?_)
   refine S.val hA (R.move rfl) rfl ?_; clear hA a; intro a hA
   have hil9 := itoa_len' (n := 2147483645 + ((n63 : Int))) (by unfold bd64; omega)
   refine S.call hA (R.callF Tryd.func30 rfl rfl rfl) rfl (rwrite_any (2147483645 + ((n63 : Int))) (by omega) _) ?_; clear hA a
   rintro e w28 ⟨rfl, hb⟩
   replace hM := hM.callB hb; clear hb
   refine ⟨.string ((bs (Lib.itoa (2147483645 + ((n63 : Int)))))), rfl, fun a hA => ?_⟩
   refine S.val hA (R.to (v := .string (bs (([75, 78, 65, 80, 83, 65, 67, 75, 32, 49, 32] : List UInt8) ++ Lib.itoa (2147483645 + ((n63 : Int)))))) (R.addS rfl rfl (by show (bs (([75, 78, 65, 80, 83, 65, 67, 75, 32, 49, 32] : List UInt8))).size + (bs (Lib.itoa (2147483645 + ((n63 : Int))))).size ≤ _; simp only [bs_size, List.length_append, List.length_cons, List.length_nil]; omega)) (congrArg Value.string (bs_app (([75, 78, 65, 80, 83, 65, 67, 75, 32, 49, 32] : List UInt8)) (Lib.itoa (2147483645 + ((n63 : Int))))))) rfl ?_; clear hA a; intro a hA
   refine S.val hA (R.to (v := .string (bs ((([75, 78, 65, 80, 83, 65, 67, 75, 32, 49, 32] : List UInt8) ++ Lib.itoa (2147483645 + ((n63 : Int)))) ++ ([32, 48, 32, 48] : List UInt8)))) (R.addS rfl rfl (by show (bs ((([75, 78, 65, 80, 83, 65, 67, 75, 32, 49, 32] : List UInt8) ++ Lib.itoa (2147483645 + ((n63 : Int)))))).size + (bs (([32, 48, 32, 48] : List UInt8))).size ≤ _; simp only [bs_size, List.length_append, List.length_cons, List.length_nil]; omega)) (congrArg Value.string (bs_app ((([75, 78, 65, 80, 83, 65, 67, 75, 32, 49, 32] : List UInt8) ++ Lib.itoa (2147483645 + ((n63 : Int))))) (([32, 48, 32, 48] : List UInt8))))) rfl ?_; clear hA a; intro a hA
   obtain ⟨G2, pa2, pe2, hpr2, hb1, hb2⟩ := limB (n := (2147483645 + (n63 : Int))) (by omega) (by omega)
   refine S.call hA (R.callF Tryd.func28 rfl rfl rfl) rfl (parse_eq (bs (((([75, 78, 65, 80, 83, 65, 67, 75, 32, 49, 32] : List UInt8) ++ Lib.itoa (2147483645 + ((n63 : Int)))) ++ ([32, 48, 32, 48] : List UInt8)))) (by rw [bs_size]; simp only [List.length_append, List.length_cons, List.length_nil]; omega) G2 pa2 pe2 hpr2 _ (U8T.below htab (Mem.trans0 hbs hM.nilL))) ?_; clear hA a
   rintro e w29 ⟨ap663, cp663, ap664, cp664, ap665, cp665, rfl, ⟨hp663, hp664, hp665⟩, hb⟩
   replace hM := hM.callB hb; clear hb
   have hbx67 := hM.block (k := 0) rfl
   have hbs := hbs.trans (hM.below.mono hbs.size)
   have hp593 := hp593.mem hM
   have hp594 := hp594.mem hM
   have hp595 := hp595.mem hM
   have hbx60 := hM.keepB hbx60
   replace hM := Mem.start w29
   refine ⟨.tuple #[.agg #[.int .i64 G2.kind, .int .i64 G2.n, .int .i64 G2.cap, .slice ap663 G2.wt.length cp663, .slice ap664 G2.vl.length cp664, .slice ap665 G2.cost.length cp665], .int .i64 pa2, .int .i64 pe2], rfl, fun a hA => ?_⟩
   refine S.val hA (R.move rfl) rfl ?_; clear hA a; intro a hA
   refine S.val hA (R.extract (v := .agg #[.int .i64 G2.kind, .int .i64 G2.n, .int .i64 G2.cap, .slice ap663 G2.wt.length cp663, .slice ap664 G2.vl.length cp664, .slice ap665 G2.cost.length cp665]) rfl rfl) rfl ?_; clear hA a; intro a hA
   refine S.val hA (R.extract (v := .int .i64 pa2) rfl rfl) rfl ?_; clear hA a; intro a hA
   refine S.val hA (R.extract (v := .int .i64 pe2) rfl rfl) rfl ?_; clear hA a; intro a hA
   refine S.alloc hA hM info25 rfl rfl ?_; clear hA hM a; intro b68 w30 hb69 hM a hA
   replace hM : Mem _ _ [pt b68 cz0 25] _ := hM
   refine S.storeA (k := 0) hA hM sz25 rfl rfl rfl rfl rfl rfl ?_; clear hM
   intro w31 hM
   replace hM : Mem _ _ [pt b68 #[.int .i64 G2.kind, .int .i64 G2.n, .int .i64 G2.cap, .slice ap663 G2.wt.length cp663, .slice ap664 G2.vl.length cp664, .slice ap665 G2.cost.length cp665] 25] _ := hM
   refine S.val hA (R.assign rfl) rfl ?_; clear hA a; intro a hA
   refine S.val hA (R.assign rfl) rfl ?_; clear hA a; intro a hA
   refine S.done ?_
   replace hA : St 101 [(0, _), (8, _), (9, _), (11, _), (12, _), (13, _), (14, _), (15, _), (16, _)] a := hA.sub ((.cons rfl (.cons rfl (.cons rfl (.cons rfl (.cons rfl (.cons rfl (.cons rfl (.cons rfl (.cons rfl .nil))))))))))
   refine Ends.seq (Ends.seq ?_)
   refine Ends.cut (fun (a : Act) (wv : World) => St 101 [(13, .int .i64 (2147483645 + ((n63 : Int)))), (14, .pointer (some ⟨b68, 0, none⟩)), (15, .int .i64 pa2), (16, .int .i64 pe2), (84, .bool (decide ((((22 + ((n56 : Int))) ≤ 24 ∧ pe1 ≠ 6) ∨ (24 < (22 + ((n56 : Int))) ∧ (pe1 ≠ 5 ∨ pa1 ≠ 4))))))] a ∧ Mem w29 nof [pt b68 #[.int .i64 G2.kind, .int .i64 G2.n, .int .i64 G2.cap, .slice ap663 G2.wt.length cp663, .slice ap664 G2.vl.length cp664, .slice ap665 G2.cost.length cp665] 25] wv) ?_ (fun k2 hJ => ?_)
   ·
    clear hA hM a; rintro a w32 ⟨hA, hM⟩
    refine Ends.ite hA rfl (fun hc70 => ?_) (fun hc70 => ?_)
    · exact absurd hc70 (by omega)
    ·
     refine Ends.skip (Ends.seq (Ends.seq (Ends.region ?_)))
     refine S.val hA (R.move rfl) rfl ?_; clear hA a; intro a hA
     refine S.val hA (R.gtr rfl rfl) rfl ?_; clear hA a; intro a hA
     refine S.done ?_
     refine Ends.ite hA rfl (fun hc71 => ?_) (fun hc71 => ?_)
     ·
      refine Ends.seq (Ends.region ?_)
      refine S.val hA (R.move rfl) rfl ?_; clear hA a; intro a hA
      refine S.val hA (R.tt (R.eql rfl rfl) (by omega)) rfl ?_; clear hA a; intro a hA
      refine S.val hA (R.move rfl) rfl ?_; clear hA a; intro a hA
      refine S.valg (dj := 89) hA (by kernel_rfl) rfl (R.move rfl) rfl ?_; clear hA a; intro a hA
      refine S.valg (dj := 89) hA (by kernel_rfl) rfl (R.tt (R.eql rfl rfl) (by omega)) rfl ?_; clear hA a; intro a hA
      refine S.val hA (R.pickT rfl rfl) rfl ?_; clear hA a; intro a hA
      refine S.val hA (R.assign rfl) rfl ?_; clear hA a; intro a hA
      refine S.done ?_
      replace hA : St 101 [(6, _), (13, _), (14, _), (16, _)] a := hA.sub ((.cons rfl (.cons rfl (.cons rfl (.cons rfl .nil)))))
      refine Ends.ret1 Tryd.func9 Tryd.results9 hA rfl ?_
      exact ⟨rfl, Mem.trans0 hbs hM.nilL⟩
     ·
      refine Ends.skip (Ends.seq (Ends.region ?_))
      refine S.val hA (R.move rfl) rfl ?_; clear hA a; intro a hA
      refine S.val hA (R.tt (R.eql rfl rfl) (by omega)) rfl ?_; clear hA a; intro a hA
      refine S.val hA (R.move rfl) rfl ?_; clear hA a; intro a hA
      refine S.valg (dj := 95) hA (by kernel_rfl) rfl (R.fieldAddr (q := 2) fi25_2 rfl rfl rfl) rfl ?_; clear hA a; intro a hA
      refine S.valg (dj := 95) hA (by kernel_rfl) rfl (R.load sz3 rfl (hM.cell (k := 0) rfl rfl)) rfl ?_; clear hA a; intro a hA
      refine S.valg (dj := 95) hA (by kernel_rfl) rfl (R.move rfl) rfl ?_; clear hA a; intro a hA
      refine S.valg (dj := 95) hA (by kernel_rfl) rfl (R.tt (R.eql rfl rfl) (by omega)) rfl ?_; clear hA a; intro a hA
      refine S.val hA (R.pickT rfl rfl) rfl ?_; clear hA a; intro a hA
      refine S.val hA (R.assign rfl) rfl ?_; clear hA a; intro a hA
      refine S.done ?_
      replace hA : St 101 [(6, _)] a := hA.sub ((.cons rfl .nil))
      refine Ends.ret1 Tryd.func9 Tryd.results9 hA rfl ?_
      exact ⟨rfl, Mem.trans0 hbs hM.nilL⟩
   ·
    refine Ends.region ?_
    refine S.call hA (R.callF Tryd.func27 rfl rfl rfl) rfl (parses_any _ (U8T.below htab (Mem.trans0 hbs hM.nilL))) ?_; clear hA a
    rintro e w33 ⟨rfl, hb⟩
    replace hM := hM.callB hb; clear hb
    refine ⟨.bool true, rfl, fun a hA => ?_⟩
    refine S.val hA (R.not rfl) rfl ?_; clear hA a; intro a hA
    refine S.val hA (R.move rfl) rfl ?_; clear hA a; intro a hA
    refine S.valg (dj := 61) hA (by kernel_rfl) rfl (R.move rfl) rfl ?_; clear hA a; intro a hA
    refine S.valg (dj := 61) hA (by kernel_rfl) rfl (R.move rfl) rfl ?_; clear hA a; intro a hA
    refine S.valg (dj := 61) hA (by kernel_rfl) rfl (R.leq rfl rfl) rfl ?_; clear hA a; intro a hA
    refine S.valg (dj := 61) hA (by kernel_rfl) rfl (R.move rfl) rfl ?_; clear hA a; intro a hA
    refine hA.split (d := 65) rfl ?_ ?_
    ·
     clear hA; intro hg72 hA
     refine S.valg (dj := 65) hA (by kernel_rfl) rfl (R.move rfl) rfl ?_; clear hA a; intro a hA
     refine S.valg (dj := 65) hA (by kernel_rfl) rfl (R.neq rfl rfl) rfl ?_; clear hA a; intro a hA
     refine S.valg (dj := 61) hA (by kernel_rfl) rfl (R.pickT rfl rfl) rfl ?_; clear hA a; intro a hA
     refine S.val hA (R.pickF rfl rfl) rfl ?_; clear hA a; intro a hA
     refine S.val hA (R.move rfl) rfl ?_; clear hA a; intro a hA
     refine hA.split (d := 70) rfl ?_ ?_
     ·
      clear hA; intro hg73 hA
      refine S.no (dj := 70) hA (by kernel_rfl) rfl rfl rfl ?_; clear hA a; intro a hA
      refine S.no (dj := 70) hA (by kernel_rfl) rfl rfl rfl ?_; clear hA a; intro a hA
      refine S.no (dj := 70) hA (by kernel_rfl) rfl rfl rfl ?_; clear hA a; intro a hA
      refine S.no (dj := 70) hA (by kernel_rfl) rfl rfl rfl ?_; clear hA a; intro a hA
      refine S.noU (dj := 74) hA (by kernel_rfl) rfl rfl ?_; clear hA a; intro a hA
      refine S.noU (dj := 74) hA (by kernel_rfl) rfl rfl ?_; clear hA a; intro a hA
      refine S.noU (dj := 74) hA (by kernel_rfl) rfl rfl ?_; clear hA a; intro a hA
      refine S.noU (dj := 77) hA (by kernel_rfl) rfl rfl ?_; clear hA a; intro a hA
      refine S.noU (dj := 77) hA (by kernel_rfl) rfl rfl ?_; clear hA a; intro a hA
      refine S.noU (dj := 77) hA (by kernel_rfl) rfl rfl ?_; clear hA a; intro a hA
      refine S.noU (dj := 77) hA (by kernel_rfl) rfl rfl ?_; clear hA a; intro a hA
      refine S.noU (dj := 74) hA (by kernel_rfl) rfl rfl ?_; clear hA a; intro a hA
      refine S.no (dj := 70) hA (by kernel_rfl) rfl rfl rfl ?_; clear hA a; intro a hA
      refine S.val hA (R.pickT rfl rfl) rfl ?_; clear hA a; intro a hA
      refine S.done ?_
      replace hA : St 101 [(13, _), (14, _), (15, _), (16, _), (84, _)] a := hA.sub ((.cons rfl (.cons rfl (.cons rfl (.cons rfl (.cons rfl .nil))))))
      exact hJ _ _ ⟨hA.sub (.cons rfl (.cons rfl (.cons rfl (.cons rfl (.cons (by first | rfl | exact congrArg (fun b => some (Value.bool b)) (by first | exact decide_eq_decide.2 (by omega) | exact or_bool (by omega) | exact and_bool (by omega) | (simp; done) | (simp [hg72, hg73]; done) | (have h80 := hg72; (try simp at h80); have h81 := hg73; (try simp at h81); simp [h80, h81]; done) | exact (decide_eq_false (fun h9 => hg72 h9.1)).symm | exact (decide_eq_false (fun h9 => hg73 h9.1)).symm)) .nil))))), hM⟩
     ·
      clear hA; intro hg73 hA
      refine S.valg (dj := 70) hA (by kernel_rfl) rfl (R.move rfl) rfl ?_; clear hA a; intro a hA
      refine S.valg (dj := 70) hA (by kernel_rfl) rfl (R.move rfl) rfl ?_; clear hA a; intro a hA
      refine S.valg (dj := 70) hA (by kernel_rfl) rfl (R.gtr rfl rfl) rfl ?_; clear hA a; intro a hA
      refine S.valg (dj := 70) hA (by kernel_rfl) rfl (R.move rfl) rfl ?_; clear hA a; intro a hA
      refine hA.split (d := 74) rfl ?_ ?_
      ·
       clear hA; intro hg74 hA
       refine S.valg (dj := 74) hA (by kernel_rfl) rfl (R.move rfl) rfl ?_; clear hA a; intro a hA
       refine S.valg (dj := 74) hA (by kernel_rfl) rfl (R.neq rfl rfl) rfl ?_; clear hA a; intro a hA
       refine S.valg (dj := 74) hA (by kernel_rfl) rfl (R.move rfl) rfl ?_; clear hA a; intro a hA
       refine hA.split (d := 77) rfl ?_ ?_
       ·
        clear hA; intro hg75 hA
        refine S.no (dj := 77) hA (by kernel_rfl) rfl rfl rfl ?_; clear hA a; intro a hA
        refine S.no (dj := 77) hA (by kernel_rfl) rfl rfl rfl ?_; clear hA a; intro a hA
        refine S.no (dj := 77) hA (by kernel_rfl) rfl rfl rfl ?_; clear hA a; intro a hA
        refine S.no (dj := 77) hA (by kernel_rfl) rfl rfl rfl ?_; clear hA a; intro a hA
        refine S.valg (dj := 74) hA (by kernel_rfl) rfl (R.pickT rfl rfl) rfl ?_; clear hA a; intro a hA
        refine S.valg (dj := 70) hA (by kernel_rfl) rfl (R.pickT rfl rfl) rfl ?_; clear hA a; intro a hA
        refine S.val hA (R.pickF rfl rfl) rfl ?_; clear hA a; intro a hA
        refine S.done ?_
        replace hA : St 101 [(13, _), (14, _), (15, _), (16, _), (84, _)] a := hA.sub ((.cons rfl (.cons rfl (.cons rfl (.cons rfl (.cons rfl .nil))))))
        exact hJ _ _ ⟨hA.sub (.cons rfl (.cons rfl (.cons rfl (.cons rfl (.cons (by first | rfl | exact congrArg (fun b => some (Value.bool b)) (by first | exact decide_eq_decide.2 (by omega) | exact or_bool (by omega) | exact and_bool (by omega) | (simp; done) | (simp [hg72, hg73, hg74, hg75]; done) | (have h80 := hg72; (try simp at h80); have h81 := hg73; (try simp at h81); have h82 := hg74; (try simp at h82); have h83 := hg75; (try simp at h83); simp [h80, h81, h82, h83]; done) | exact (decide_eq_false (fun h9 => hg72 h9.1)).symm | exact (decide_eq_false (fun h9 => hg73 h9.1)).symm | exact (decide_eq_false (fun h9 => hg74 h9.1)).symm | exact (decide_eq_false (fun h9 => hg75 h9.1)).symm)) .nil))))), hM⟩
       ·
        clear hA; intro hg75 hA
        refine S.valg (dj := 77) hA (by kernel_rfl) rfl (R.move rfl) rfl ?_; clear hA a; intro a hA
        refine S.valg (dj := 77) hA (by kernel_rfl) rfl (R.move rfl) rfl ?_; clear hA a; intro a hA
        refine S.valg (dj := 77) hA (by kernel_rfl) rfl (R.to (v := .int .i64 4) (R.lenStr Tryd.underlying9 rfl rfl) rfl) rfl ?_; clear hA a; intro a hA
        refine S.valg (dj := 77) hA (by kernel_rfl) rfl (R.neq rfl rfl) rfl ?_; clear hA a; intro a hA
        refine S.valg (dj := 74) hA (by kernel_rfl) rfl (R.pickF rfl rfl) rfl ?_; clear hA a; intro a hA
        refine S.valg (dj := 70) hA (by kernel_rfl) rfl (R.pickT rfl rfl) rfl ?_; clear hA a; intro a hA
        refine S.val hA (R.pickF rfl rfl) rfl ?_; clear hA a; intro a hA
        refine S.done ?_
        replace hA : St 101 [(13, _), (14, _), (15, _), (16, _), (84, _)] a := hA.sub ((.cons rfl (.cons rfl (.cons rfl (.cons rfl (.cons rfl .nil))))))
        exact hJ _ _ ⟨hA.sub (.cons rfl (.cons rfl (.cons rfl (.cons rfl (.cons (by first | rfl | exact congrArg (fun b => some (Value.bool b)) (by first | exact decide_eq_decide.2 (by omega) | exact or_bool (by omega) | exact and_bool (by omega) | (simp; done) | (simp [hg72, hg73, hg74, hg75]; done) | (have h80 := hg72; (try simp at h80); have h81 := hg73; (try simp at h81); have h82 := hg74; (try simp at h82); have h83 := hg75; (try simp at h83); simp [h80, h81, h82, h83]; done) | exact (decide_eq_false (fun h9 => hg72 h9.1)).symm | exact (decide_eq_false (fun h9 => hg73 h9.1)).symm | exact (decide_eq_false (fun h9 => hg74 h9.1)).symm | exact (decide_eq_false (fun h9 => hg75 h9.1)).symm)) .nil))))), hM⟩
      ·
       clear hA; intro hg74 hA
       refine S.no (dj := 74) hA (by kernel_rfl) rfl rfl rfl ?_; clear hA a; intro a hA
       refine S.no (dj := 74) hA (by kernel_rfl) rfl rfl rfl ?_; clear hA a; intro a hA
       refine S.no (dj := 74) hA (by kernel_rfl) rfl rfl rfl ?_; clear hA a; intro a hA
       refine S.noU (dj := 77) hA (by kernel_rfl) rfl rfl ?_; clear hA a; intro a hA
       refine S.noU (dj := 77) hA (by kernel_rfl) rfl rfl ?_; clear hA a; intro a hA
       refine S.noU (dj := 77) hA (by kernel_rfl) rfl rfl ?_; clear hA a; intro a hA
       refine S.noU (dj := 77) hA (by kernel_rfl) rfl rfl ?_; clear hA a; intro a hA
       refine S.no (dj := 74) hA (by kernel_rfl) rfl rfl rfl ?_; clear hA a; intro a hA
       refine S.valg (dj := 70) hA (by kernel_rfl) rfl (R.pickF rfl rfl) rfl ?_; clear hA a; intro a hA
       refine S.val hA (R.pickF rfl rfl) rfl ?_; clear hA a; intro a hA
       refine S.done ?_
       replace hA : St 101 [(13, _), (14, _), (15, _), (16, _), (84, _)] a := hA.sub ((.cons rfl (.cons rfl (.cons rfl (.cons rfl (.cons rfl .nil))))))
       exact hJ _ _ ⟨hA.sub (.cons rfl (.cons rfl (.cons rfl (.cons rfl (.cons (by first | rfl | exact congrArg (fun b => some (Value.bool b)) (by first | exact decide_eq_decide.2 (by omega) | exact or_bool (by omega) | exact and_bool (by omega) | (simp; done) | (simp [hg72, hg73, hg74]; done) | (have h80 := hg72; (try simp at h80); have h81 := hg73; (try simp at h81); have h82 := hg74; (try simp at h82); simp [h80, h81, h82]; done) | exact (decide_eq_false (fun h9 => hg72 h9.1)).symm | exact (decide_eq_false (fun h9 => hg73 h9.1)).symm | exact (decide_eq_false (fun h9 => hg74 h9.1)).symm)) .nil))))), hM⟩
    ·
     clear hA; intro hg72 hA
     refine S.no (dj := 65) hA (by kernel_rfl) rfl rfl rfl ?_; clear hA a; intro a hA
     refine S.no (dj := 65) hA (by kernel_rfl) rfl rfl rfl ?_; clear hA a; intro a hA
     refine S.valg (dj := 61) hA (by kernel_rfl) rfl (R.pickF rfl rfl) rfl ?_; clear hA a; intro a hA
     refine S.val hA (R.pickF rfl rfl) rfl ?_; clear hA a; intro a hA
     refine S.val hA (R.move rfl) rfl ?_; clear hA a; intro a hA
     refine S.valg (dj := 70) hA (by kernel_rfl) rfl (R.move rfl) rfl ?_; clear hA a; intro a hA
     refine S.valg (dj := 70) hA (by kernel_rfl) rfl (R.move rfl) rfl ?_; clear hA a; intro a hA
     refine S.valg (dj := 70) hA (by kernel_rfl) rfl (R.gtr rfl rfl) rfl ?_; clear hA a; intro a hA
     refine S.valg (dj := 70) hA (by kernel_rfl) rfl (R.move rfl) rfl ?_; clear hA a; intro a hA
     refine hA.split (d := 74) rfl ?_ ?_
     ·
      clear hA; intro hg76 hA
      refine S.valg (dj := 74) hA (by kernel_rfl) rfl (R.move rfl) rfl ?_; clear hA a; intro a hA
      refine S.valg (dj := 74) hA (by kernel_rfl) rfl (R.neq rfl rfl) rfl ?_; clear hA a; intro a hA
      refine S.valg (dj := 74) hA (by kernel_rfl) rfl (R.move rfl) rfl ?_; clear hA a; intro a hA
      refine hA.split (d := 77) rfl ?_ ?_
      ·
       clear hA; intro hg77 hA
       refine S.no (dj := 77) hA (by kernel_rfl) rfl rfl rfl ?_; clear hA a; intro a hA
       refine S.no (dj := 77) hA (by kernel_rfl) rfl rfl rfl ?_; clear hA a; intro a hA
       refine S.no (dj := 77) hA (by kernel_rfl) rfl rfl rfl ?_; clear hA a; intro a hA
       refine S.no (dj := 77) hA (by kernel_rfl) rfl rfl rfl ?_; clear hA a; intro a hA
       refine S.valg (dj := 74) hA (by kernel_rfl) rfl (R.pickT rfl rfl) rfl ?_; clear hA a; intro a hA
       refine S.valg (dj := 70) hA (by kernel_rfl) rfl (R.pickT rfl rfl) rfl ?_; clear hA a; intro a hA
       refine S.val hA (R.pickF rfl rfl) rfl ?_; clear hA a; intro a hA
       refine S.done ?_
       replace hA : St 101 [(13, _), (14, _), (15, _), (16, _), (84, _)] a := hA.sub ((.cons rfl (.cons rfl (.cons rfl (.cons rfl (.cons rfl .nil))))))
       exact hJ _ _ ⟨hA.sub (.cons rfl (.cons rfl (.cons rfl (.cons rfl (.cons (by first | rfl | exact congrArg (fun b => some (Value.bool b)) (by first | exact decide_eq_decide.2 (by omega) | exact or_bool (by omega) | exact and_bool (by omega) | (simp; done) | (simp [hg72, hg76, hg77]; done) | (have h80 := hg72; (try simp at h80); have h81 := hg76; (try simp at h81); have h82 := hg77; (try simp at h82); simp [h80, h81, h82]; done) | exact (decide_eq_false (fun h9 => hg72 h9.1)).symm | exact (decide_eq_false (fun h9 => hg76 h9.1)).symm | exact (decide_eq_false (fun h9 => hg77 h9.1)).symm)) .nil))))), hM⟩
      ·
       clear hA; intro hg77 hA
       refine S.valg (dj := 77) hA (by kernel_rfl) rfl (R.move rfl) rfl ?_; clear hA a; intro a hA
       refine S.valg (dj := 77) hA (by kernel_rfl) rfl (R.move rfl) rfl ?_; clear hA a; intro a hA
       refine S.valg (dj := 77) hA (by kernel_rfl) rfl (R.to (v := .int .i64 4) (R.lenStr Tryd.underlying9 rfl rfl) rfl) rfl ?_; clear hA a; intro a hA
       refine S.valg (dj := 77) hA (by kernel_rfl) rfl (R.neq rfl rfl) rfl ?_; clear hA a; intro a hA
       refine S.valg (dj := 74) hA (by kernel_rfl) rfl (R.pickF rfl rfl) rfl ?_; clear hA a; intro a hA
       refine S.valg (dj := 70) hA (by kernel_rfl) rfl (R.pickT rfl rfl) rfl ?_; clear hA a; intro a hA
       refine S.val hA (R.pickF rfl rfl) rfl ?_; clear hA a; intro a hA
       refine S.done ?_
       replace hA : St 101 [(13, _), (14, _), (15, _), (16, _), (84, _)] a := hA.sub ((.cons rfl (.cons rfl (.cons rfl (.cons rfl (.cons rfl .nil))))))
       exact hJ _ _ ⟨hA.sub (.cons rfl (.cons rfl (.cons rfl (.cons rfl (.cons (by first | rfl | exact congrArg (fun b => some (Value.bool b)) (by first | exact decide_eq_decide.2 (by omega) | exact or_bool (by omega) | exact and_bool (by omega) | (simp; done) | (simp [hg72, hg76, hg77]; done) | (have h80 := hg72; (try simp at h80); have h81 := hg76; (try simp at h81); have h82 := hg77; (try simp at h82); simp [h80, h81, h82]; done) | exact (decide_eq_false (fun h9 => hg72 h9.1)).symm | exact (decide_eq_false (fun h9 => hg76 h9.1)).symm | exact (decide_eq_false (fun h9 => hg77 h9.1)).symm)) .nil))))), hM⟩
     ·
      clear hA; intro hg76 hA
      refine S.no (dj := 74) hA (by kernel_rfl) rfl rfl rfl ?_; clear hA a; intro a hA
      refine S.no (dj := 74) hA (by kernel_rfl) rfl rfl rfl ?_; clear hA a; intro a hA
      refine S.no (dj := 74) hA (by kernel_rfl) rfl rfl rfl ?_; clear hA a; intro a hA
      refine S.noU (dj := 77) hA (by kernel_rfl) rfl rfl ?_; clear hA a; intro a hA
      refine S.noU (dj := 77) hA (by kernel_rfl) rfl rfl ?_; clear hA a; intro a hA
      refine S.noU (dj := 77) hA (by kernel_rfl) rfl rfl ?_; clear hA a; intro a hA
      refine S.noU (dj := 77) hA (by kernel_rfl) rfl rfl ?_; clear hA a; intro a hA
      refine S.no (dj := 74) hA (by kernel_rfl) rfl rfl rfl ?_; clear hA a; intro a hA
      refine S.valg (dj := 70) hA (by kernel_rfl) rfl (R.pickF rfl rfl) rfl ?_; clear hA a; intro a hA
      refine S.val hA (R.pickF rfl rfl) rfl ?_; clear hA a; intro a hA
      refine S.done ?_
      replace hA : St 101 [(13, _), (14, _), (15, _), (16, _), (84, _)] a := hA.sub ((.cons rfl (.cons rfl (.cons rfl (.cons rfl (.cons rfl .nil))))))
      exact hJ _ _ ⟨hA.sub (.cons rfl (.cons rfl (.cons rfl (.cons rfl (.cons (by first | rfl | exact congrArg (fun b => some (Value.bool b)) (by first | exact decide_eq_decide.2 (by omega) | exact or_bool (by omega) | exact and_bool (by omega) | (simp; done) | (simp [hg72, hg76]; done) | (have h80 := hg72; (try simp at h80); have h81 := hg76; (try simp at h81); simp [h80, h81]; done) | exact (decide_eq_false (fun h9 => hg72 h9.1)).symm | exact (decide_eq_false (fun h9 => hg76 h9.1)).symm)) .nil))))), hM⟩
theorem parseLimits_any (n0 n1 n2 : Int) (_h0 : (Lit.int .i64 n0).wf = true) (_h1 : (Lit.int .i64 n1).wf = true) (_h2 : (Lit.int .i64 n2).wf = true) (w : World) (htab : U8T w) : Calls Tryd.prog 9 #[.int .i64 n0, .int .i64 n1, .int .i64 n2] w fun e w' => e = .returned (.bool true) ∧ Below w.heap.size w w' := parseLimits_w n0 n1 n2 w htab
end Go.Proofs.YtakfcekfmdjklaaDoor
