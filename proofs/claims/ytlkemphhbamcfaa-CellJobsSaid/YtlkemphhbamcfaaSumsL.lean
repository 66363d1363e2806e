/-
  arith.Sum; the law ArithSums.
-/
import Derived.Test.YtlkemphhbamcfaaSums
import Derived.Test.YtlkemphhbamcfaaAddsL
namespace Go.Proofs.Ytlkemphhbamcfaa
open Go.RowKit

set_option maxRecDepth 100000 in
set_option maxHeartbeats 400000 in
theorem sum_any (ad : Option Addr) (n cap : Nat) (l : List Int) (hall : AllI l) (hlen : l.length ≤ 1000) (hn : n = l.length) (w : World) (hsl : IntSl w (.slice ad n cap) l) :
    Calls Try.prog 27 #[.slice ad n cap] w fun e w' => e = .returned (.tuple #[.int .i64 (intN l.sum), .bool (intB l.sum)]) ∧ Below w.heap.size w w' := by
  have hM := Mem.start w
  refine Calls.of_ends (vs := [.slice ad n cap]) Try.func27 rfl Try.ntmps27 rfl ?_
  intro a hA
  replace hA : St 27 [(0, _)] a := hA
  refine Ends.seq ?_
  refine Ends.region ?_
  refine S.val hA (R.assign rfl) rfl ?_; clear hA a; intro a hA
  refine S.val hA (R.assign rfl) rfl ?_; clear hA a; intro a hA
  refine S.done ?_
  replace hA : St 27 [(0, _), (2, _), (3, _)] a := hA.sub ((.cons rfl (.cons rfl (.cons rfl .nil))))
  refine Ends.seq ?_
  refine Ends.region ?_
  refine S.alloc hA hM info98 rfl rfl ?_; clear hA hM a; intro b1 w1 hb2 hM a hA
  replace hM : Mem _ _ [pt b1 #[.int .u64 0, .int .u64 0] 98] _ := hM
  refine S.done ?_
  replace hA : St 27 [(0, _), (2, _), (3, _), (4, _)] a := hA.sub ((.cons rfl (.cons rfl (.cons rfl (.cons rfl .nil)))))
  refine Ends.seq ?_
  refine Ends.seq ?_
  refine Ends.region ?_
  refine S.val hA (R.move rfl) rfl ?_; clear hA a; intro a hA
  refine S.val hA (R.lenS Try.underlying40 rfl rfl) rfl ?_; clear hA a; intro a hA
  refine S.val hA (R.move rfl) rfl ?_; clear hA a; intro a hA
  refine S.done ?_
  replace hA : St 27 [(2, _), (3, _), (4, _), (8, _), (9, _), (10, _)] a := hA.sub ((.cons rfl (.cons rfl (.cons rfl (.cons rfl (.cons rfl (.cons rfl .nil)))))))
  refine Ends.block ?_
  refine Ends.loop (σ := Nat) (fun k (a : Act) (wv : World) => St 27 [(2, .int .i64 0), (3, .bool false), (4, .pointer (some ⟨b1, 0, none⟩)), (8, .slice ad n cap), (9, .int .i64 ((n : Int))), (10, .int .i64 ((k : Int)))] a ∧ Mem w nof [pt b1 ((wdA (l.take k).sum)) 98] wv ∧ (k ≤ l.length)) (fun k => l.length - k) 0 ⟨hA.sub ((.cons rfl (.cons rfl (.cons rfl (.cons rfl (.cons rfl (.cons rfl .nil))))))), hM, (by omega)⟩ ?_
  clear hA hM a
  rintro k a w2 ⟨hA, hM, hk⟩ hNext
  refine Ends.seq ?_
  refine Ends.region ?_
  refine S.val hA (R.lss rfl rfl) rfl ?_; clear hA a; intro a hA
  refine S.done ?_
  replace hA : St 27 [(2, _), (3, _), (4, _), (8, _), (9, _), (10, _), (11, _)] a := hA.sub ((.cons rfl (.cons rfl (.cons rfl (.cons rfl (.cons rfl (.cons rfl (.cons rfl .nil))))))))
  refine Ends.seq ?_
  refine Ends.ite hA rfl (fun hc3 => ?_) (fun hc3 => ?_)
  ·
    have hi := hall.at (i := k) (by omega)
    refine Ends.skip ?_
    refine Ends.seq ?_
    refine Ends.block ?_
    refine Ends.seq ?_
    obtain ⟨g, off, hg, hcell⟩ := hsl.at (i := k) (by omega)
    subst hg
    refine Ends.region ?_
    refine S.val hA (R.indexAddr (q := off + k) sl40 rfl rfl (by omega) (by omega)) rfl ?_; clear hA a; intro a hA
    refine S.val hA (R.load sz3 rfl (hM.cell0 hcell (fun h => h))) rfl ?_; clear hA a; intro a hA
    refine S.val hA (R.assign rfl) rfl ?_; clear hA a; intro a hA
    refine S.done ?_
    replace hA : St 27 [(2, _), (3, _), (4, _), (6, _), (8, _), (9, _), (10, _), (11, _), (12, _), (13, _)] a := hA.sub ((.cons rfl (.cons rfl (.cons rfl (.cons rfl (.cons rfl (.cons rfl (.cons rfl (.cons rfl (.cons rfl (.cons rfl .nil)))))))))))
    refine Ends.drawn (Mem w nof [pt b1 ((wdA (l.take k).sum)) 98]) [(0, true), (1, true), (2, false), (3, false), (4, false)] 4 mixed (by kernel_rfl) (by kernel_rfl) (by kernel_rfl) hM.drew ?_
    replace hM := hM.drew
    refine D.val hA rfl (by kernel_rfl) (fun _ hM => R.loadW (k := 0) hM sz98 rfl rfl rfl) rfl ?_; clear hA a; intro a hA
    refine D.valF hA rfl (fun _ => R.move rfl) rfl ?_; clear hA a; intro a hA
    refine D.call hA rfl (R.callF Try.func64 rfl rfl rfl) rfl (widen_any (l.getD k 0) (by omega) (by omega) _) ?_; clear hA a
    rintro e w3 ⟨rfl, hb⟩
    replace hM := hM.callB hb; clear hb
    refine ⟨.agg (wdA (l.getD k 0)), rfl, hM, fun a hA => ?_⟩
    refine D.call hA rfl (R.callF Try.func63 rfl rfl rfl) rfl (wplus_any (l.take k).sum (l.getD k 0) _) ?_; clear hA a
    rintro e w4 ⟨rfl, hb⟩
    replace hM := hM.callB hb; clear hb
    refine ⟨.agg (wdA (((l.take k).sum) + ((l.getD k 0)))), rfl, hM, fun a hA => ?_⟩
    refine D.storeW (k := 0) hA hM rfl sz98 rfl rfl rfl rfl rfl rfl ?_; clear hM
    intro w5 hM; refine ⟨fun hne => absurd rfl hne, ?_⟩
    replace hM : Mem _ _ [pt b1 (wdA (((l.take k).sum) + ((l.getD k 0)))) 98] _ := hM
    refine D.done ?_
    replace hA : St 27 [(2, _), (3, _), (4, _), (6, _), (8, _), (9, _), (10, _), (11, _), (12, _), (13, _), (14, _), (15, _), (16, _), (17, _)] a := hA.sub ((.cons rfl (.cons rfl (.cons rfl (.cons rfl (.cons rfl (.cons rfl (.cons rfl (.cons rfl (.cons rfl (.cons rfl (.cons rfl (.cons rfl (.cons rfl (.cons rfl .nil)))))))))))))))
    refine Ends.inBlock ?_
    refine Ends.region ?_
    refine S.val hA (R.addI rfl rfl (r := ((k : Int)) + 1) rfl (by omega)) rfl ?_; clear hA a; intro a hA
    refine S.val hA (R.move rfl) rfl ?_; clear hA a; intro a hA
    refine S.done ?_
    replace hA : St 27 [(2, _), (3, _), (4, _), (6, _), (8, _), (9, _), (10, _), (11, _), (12, _), (13, _), (14, _), (15, _), (16, _), (17, _), (18, _)] a := hA.sub ((.cons rfl (.cons rfl (.cons rfl (.cons rfl (.cons rfl (.cons rfl (.cons rfl (.cons rfl (.cons rfl (.cons rfl (.cons rfl (.cons rfl (.cons rfl (.cons rfl (.cons rfl .nil))))))))))))))))
    have hs := sum_take l k (by omega)
    rw [hs] at hM
    exact hNext ((k + 1)) _ _ (by omega) ⟨hA.sub ((.cons rfl (.cons rfl (.cons rfl (.cons rfl (.cons rfl (.cons rfl .nil))))))), hM, (by omega)⟩
  ·
    obtain rfl : k = l.length := by omega
    rw [List.take_length] at hM
    have hbd := sum_bd2 hall hlen l.length
    rw [List.take_length] at hbd
    have hwr := wrap_bd (wLo l.sum)
    refine Ends.exit rfl ?_
    replace hA : St 27 [(2, _), (3, _), (4, _)] a := hA.sub ((.cons rfl (.cons rfl (.cons rfl .nil))))
    refine Ends.seq ?_
    refine Ends.seq ?_
    refine Ends.region ?_
    refine S.val hA (R.fieldAddr (q := 1) fi98_1 rfl rfl rfl) rfl ?_; clear hA a; intro a hA
    refine S.val hA (R.load sz22 rfl (hM.cell (k := 0) rfl rfl)) rfl ?_; clear hA a; intro a hA
    refine S.val hA (R.conv Try.underlying3 Try.underlying22 rfl) rfl ?_; clear hA a; intro a hA
    refine S.val hA (R.assign rfl) rfl ?_; clear hA a; intro a hA
    refine S.done ?_
    replace hA : St 27 [(2, _), (3, _), (4, _), (7, _)] a := hA.sub ((.cons rfl (.cons rfl (.cons rfl (.cons rfl .nil)))))
    refine Ends.seq ?_
    refine Ends.drawn (Mem w nof [pt b1 ((wdA l.sum)) 98]) [(0, true), (2, true), (1, false), (3, true)] 4 mixed (by kernel_rfl) (by kernel_rfl) (by kernel_rfl) hM.drew ?_
    replace hM := hM.drew
    refine D.valF hA rfl (fun _ => R.move rfl) rfl ?_; clear hA a; intro a hA
    refine D.val hA rfl (by kernel_rfl) (fun _ hM => R.loadW (k := 0) hM sz98 rfl rfl rfl) rfl ?_; clear hA a; intro a hA
    refine D.call hA rfl (R.callF Try.func64 rfl rfl rfl) rfl (widen_any (IntKind.i64.wrap (wLo l.sum)) (by omega) (by omega) _) ?_; clear hA a
    rintro e w6 ⟨rfl, hb⟩
    replace hM := hM.callB hb; clear hb
    refine ⟨.agg (wdA (IntKind.i64.wrap (wLo l.sum))), rfl, hM, fun a hA => ?_⟩
    refine D.valF hA rfl (fun _ => R.to (v := .bool (intB l.sum)) (R.eqlS Try.eqGuardType98 (fun w => eq_wide _ _ _ _ w) rfl rfl) (congrArg Value.bool (wide_eq _ hbd))) rfl ?_; clear hA a; intro a hA
    refine D.done ?_
    replace hA : St 27 [(2, _), (3, _), (7, _), (25, _)] a := hA.sub ((.cons rfl (.cons rfl (.cons rfl (.cons rfl .nil)))))
    refine Ends.iteB hA rfl (fun hc4 => ?_) (fun hc4 => ?_)
    ·
      refine Ends.seq ?_
      refine Ends.region ?_
      refine S.val hA (R.move rfl) rfl ?_; clear hA a; intro a hA
      refine S.val hA (R.assign rfl) rfl ?_; clear hA a; intro a hA
      refine S.val hA (R.assign rfl) rfl ?_; clear hA a; intro a hA
      refine S.done ?_
      replace hA : St 27 [(2, _), (3, _)] a := hA.sub ((.cons rfl (.cons rfl .nil)))
      refine Ends.ret2 Try.func27 Try.results27 hA rfl rfl ?_
      exact ⟨by rw [hc4, wide_int _ hc4], hM.nilL.below⟩
    ·
      refine Ends.skip ?_
      refine Ends.seq ?_
      refine Ends.region ?_
      refine S.val hA (R.assign rfl) rfl ?_; clear hA a; intro a hA
      refine S.val hA (R.assign rfl) rfl ?_; clear hA a; intro a hA
      refine S.done ?_
      replace hA : St 27 [(2, _), (3, _)] a := hA.sub ((.cons rfl (.cons rfl .nil)))
      refine Ends.ret2 Try.func27 Try.results27 hA rfl rfl ?_
      exact ⟨by rw [hc4, wide_no _ hc4], hM.nilL.below⟩
set_option maxRecDepth 100000 in
set_option maxHeartbeats 400000 in
theorem arithSums_w (ad : Option Addr) (n m cap : Nat) (l : List Int) (hall : AllI l) (hlen : l.length ≤ 1000) (hm : m = l.length) (hmn : m = min n 1000) (hc : m ≤ cap) (w : World) (hcut : IntSl w (.slice ad m cap) l) :
    Calls Try.prog 7 #[.slice ad n cap] w fun e w' => e = .returned (.bool true) ∧ Below w.heap.size w w' := by
  have hM := Mem.start w
  refine Calls.of_ends (vs := [.slice ad n cap]) Try.func7 rfl Try.ntmps7 rfl ?_
  intro a hA
  replace hA : St 38 [(0, _)] a := hA
  refine Ends.seq ?_
  refine Ends.region ?_
  refine S.val hA (R.assign rfl) rfl ?_; clear hA a; intro a hA
  refine S.done ?_
  replace hA : St 38 [(0, _), (2, _)] a := hA.sub ((.cons rfl (.cons rfl .nil)))
  refine Ends.seq ?_
  refine Ends.region ?_
  refine S.val hA (R.move rfl) rfl ?_; clear hA a; intro a hA
  refine S.val hA (R.move rfl) rfl ?_; clear hA a; intro a hA
  refine S.val hA (R.lenS Try.underlying40 rfl rfl) rfl ?_; clear hA a; intro a hA
  refine S.val hA (R.min rfl rfl) rfl ?_; clear hA a; intro a hA
  refine S.val hA (R.sliceH (h := m) Try.underlying40 info3 rfl rfl (by omega) (by omega)) rfl ?_; clear hA a; intro a hA
  refine S.val hA (R.assign rfl) rfl ?_; clear hA a; intro a hA
  refine S.done ?_
  replace hA : St 38 [(0, _), (2, _)] a := hA.sub ((.cons rfl (.cons rfl .nil)))
  refine Ends.seq ?_
  refine Ends.region ?_
  refine S.call hA (R.callF Try.func22 rfl rfl rfl) rfl (num_v 0 (by omega) (by omega) _) ?_; clear hA a
  rintro e w1 ⟨x1, rfl, sg2, hb⟩
  replace hM := hM.callB hb; clear hb
  refine ⟨.agg x1, rfl, fun a hA => ?_⟩
  refine S.alloc hA hM info32 rfl rfl ?_; clear hA hM a; intro b3 w2 hb4 hM a hA
  replace hM : Mem _ _ [pt b3 #[.bool false, .int .i64 0, .int .i64 0, .int .i64 0, .int .i64 0, .int .i64 0, .int .i64 0, .int .i64 0, .int .i64 0, .int .i64 0] 32] _ := hM
  refine S.storeW (k := 0) hA hM sz32 rfl rfl sg2.size sg2.one rfl rfl ?_; clear hM
  intro w3 hM
  replace hM : Mem _ _ [pt b3 x1 32] _ := hM
  refine S.done ?_
  replace hA : St 38 [(0, _), (2, _), (3, _)] a := hA.sub ((.cons rfl (.cons rfl (.cons rfl .nil))))
  refine Ends.seq ?_
  refine Ends.seq ?_
  refine Ends.region ?_
  refine S.val hA (R.assign rfl) rfl ?_; clear hA a; intro a hA
  refine S.done ?_
  replace hA : St 38 [(0, _), (2, _), (3, _), (4, _)] a := hA.sub ((.cons rfl (.cons rfl (.cons rfl (.cons rfl .nil)))))
  refine Ends.block ?_
  refine Ends.loop (σ := Nat × Array Value) (fun (k, x) (a : Act) (wv : World) => St 38 [(0, .slice ad m cap), (2, .bool false), (3, .pointer (some ⟨b3, 0, none⟩)), (4, .int .i64 ((k : Int)))] a ∧ Mem w nof [pt b3 x 32] wv ∧ (k ≤ l.length) ∧ (Sg (l.take k).sum x)) (fun (k, x) => l.length - k) ((0, x1)) ⟨hA.sub ((.cons rfl (.cons rfl (.cons rfl (.cons rfl .nil))))), hM, (by omega), sg2⟩ ?_
  clear hA hM a
  rintro ⟨k, x⟩ a w4 ⟨hA, hM, hk, hx⟩ hNext
  refine Ends.seq ?_
  refine Ends.seq ?_
  refine Ends.region ?_
  refine S.val hA (R.move rfl) rfl ?_; clear hA a; intro a hA
  refine S.val hA (R.move rfl) rfl ?_; clear hA a; intro a hA
  refine S.val hA (R.lenS Try.underlying40 rfl rfl) rfl ?_; clear hA a; intro a hA
  refine S.val hA (R.lss rfl rfl) rfl ?_; clear hA a; intro a hA
  refine S.done ?_
  replace hA : St 38 [(0, _), (2, _), (3, _), (4, _), (13, _), (14, _), (15, _), (16, _)] a := hA.sub ((.cons rfl (.cons rfl (.cons rfl (.cons rfl (.cons rfl (.cons rfl (.cons rfl (.cons rfl .nil)))))))))
  refine Ends.ite hA rfl (fun hc5 => ?_) (fun hc5 => ?_)
  ·
    have hbk := sum_bd2 hall hlen k
    have hi := hall.at (i := k) (by omega)
    refine Ends.skip ?_
    refine Ends.seq ?_
    refine Ends.block ?_
    obtain ⟨g, off, hg, hcell⟩ := hcut.at (i := k) (by omega)
    subst hg
    refine Ends.drawn (Mem w nof [pt b3 x 32]) [(0, true), (1, true), (2, true), (3, true), (4, true), (5, false), (6, false), (7, false)] 7 mixed (by kernel_rfl) (by kernel_rfl) (by kernel_rfl) hM.drew ?_
    replace hM := hM.drew
    refine D.val hA rfl (by kernel_rfl) (fun _ hM => R.loadW (k := 0) hM sz32 rfl rfl hx.size) rfl ?_; clear hA a; intro a hA
    refine D.valF hA rfl (fun _ => R.move rfl) rfl ?_; clear hA a; intro a hA
    refine D.valF hA rfl (fun _ => R.move rfl) rfl ?_; clear hA a; intro a hA
    refine D.valF hA rfl (fun _ => R.indexAddr (q := off + k) sl40 rfl rfl (by omega) (by omega)) rfl ?_; clear hA a; intro a hA
    refine D.val hA rfl (by kernel_rfl) (fun _ hM => R.load sz3 rfl (hM.cell0 hcell (fun h => h))) rfl ?_; clear hA a; intro a hA
    refine D.call hA rfl (R.callF Try.func22 rfl rfl rfl) rfl (num_v (l.getD k 0) (by omega) (by omega) _) ?_; clear hA a
    rintro e w5 ⟨x6, rfl, sg7, hb⟩
    replace hM := hM.callB hb; clear hb
    refine ⟨.agg x6, rfl, hM, fun a hA => ?_⟩
    refine D.call hA rfl (R.callF Try.func20 rfl rfl rfl) rfl (add_v hx sg7 ((Lt.sum hbk).up (by decide)) ((Lt.int (by omega) (by omega)).up (by decide)) _) ?_; clear hA a
    rintro e w6 ⟨x8, rfl, sg9, hb⟩
    replace hM := hM.callB hb; clear hb
    refine ⟨.agg x8, rfl, hM, fun a hA => ?_⟩
    refine D.storeW (k := 0) hA hM rfl sz32 rfl rfl sg9.size sg9.one rfl hx.size ?_; clear hM
    intro w7 hM; refine ⟨fun hne => absurd rfl hne, ?_⟩
    replace hM : Mem _ _ [pt b3 x8 32] _ := hM
    refine D.done ?_
    replace hA : St 38 [(0, _), (2, _), (3, _), (4, _), (13, _), (14, _), (15, _), (16, _), (19, _), (20, _), (21, _), (22, _), (23, _), (24, _), (25, _)] a := hA.sub ((.cons rfl (.cons rfl (.cons rfl (.cons rfl (.cons rfl (.cons rfl (.cons rfl (.cons rfl (.cons rfl (.cons rfl (.cons rfl (.cons rfl (.cons rfl (.cons rfl (.cons rfl .nil))))))))))))))))
    refine Ends.inBlock ?_
    refine Ends.region ?_
    refine S.val hA (R.move rfl) rfl ?_; clear hA a; intro a hA
    refine S.val hA (R.addI rfl rfl (r := ((k : Int)) + 1) rfl (by omega)) rfl ?_; clear hA a; intro a hA
    refine S.val hA (R.assign rfl) rfl ?_; clear hA a; intro a hA
    refine S.done ?_
    replace hA : St 38 [(0, _), (2, _), (3, _), (4, _), (13, _), (14, _), (15, _), (16, _), (17, _), (18, _), (19, _), (20, _), (21, _), (22, _), (23, _), (24, _), (25, _)] a := hA.sub ((.cons rfl (.cons rfl (.cons rfl (.cons rfl (.cons rfl (.cons rfl (.cons rfl (.cons rfl (.cons rfl (.cons rfl (.cons rfl (.cons rfl (.cons rfl (.cons rfl (.cons rfl (.cons rfl (.cons rfl .nil))))))))))))))))))
    rw [sum_take l k (by omega)] at sg9
    exact hNext ((k + 1, x8)) _ _ ((by show l.length - (k + 1) < l.length - k; omega)) ⟨hA.sub ((.cons rfl (.cons rfl (.cons rfl (.cons rfl .nil))))), hM, (by omega), sg9⟩
  ·
    obtain rfl : k = l.length := by omega
    rw [List.take_length] at hx
    have hbk := sum_bd2 hall hlen l.length
    rw [List.take_length] at hbk
    refine Ends.exit rfl ?_
    replace hA : St 38 [(0, _), (2, _), (3, _)] a := hA.sub ((.cons rfl (.cons rfl (.cons rfl .nil))))
    refine Ends.seq ?_
    refine Ends.region ?_
    refine S.val hA (R.move rfl) rfl ?_; clear hA a; intro a hA
    refine S.call hA (R.callF Try.func27 rfl rfl rfl) rfl (sum_any ad m cap l hall hlen hm _ (hcut.mem hM)) ?_; clear hA a
    rintro e w8 ⟨rfl, hb⟩
    replace hM := hM.callB hb; clear hb
    refine ⟨.tuple #[.int .i64 (intN l.sum), .bool ((intB l.sum))], rfl, fun a hA => ?_⟩
    refine S.val hA (R.move rfl) rfl ?_; clear hA a; intro a hA
    refine S.val hA (R.extract (v := .int .i64 (intN l.sum)) rfl rfl) rfl ?_; clear hA a; intro a hA
    refine S.val hA (R.extract (v := .bool ((intB l.sum))) rfl rfl) rfl ?_; clear hA a; intro a hA
    refine S.val hA (R.assign rfl) rfl ?_; clear hA a; intro a hA
    refine S.val hA (R.assign rfl) rfl ?_; clear hA a; intro a hA
    refine S.done ?_
    replace hA : St 38 [(2, _), (3, _), (5, _), (6, _)] a := hA.sub ((.cons rfl (.cons rfl (.cons rfl (.cons rfl .nil)))))
    refine Ends.seq ?_
    refine Ends.region ?_
    refine S.call hA (R.callF Try.func19 rfl rfl rfl) rfl (counts_any _) ?_; clear hA a
    rintro e w9 ⟨rfl, hb⟩
    replace hM := hM.callB hb; clear hb
    refine ⟨.bool true, rfl, fun a hA => ?_⟩
    refine S.val hA (R.move rfl) rfl ?_; clear hA a; intro a hA
    refine S.valg (dj := 32) hA (by kernel_rfl) rfl (R.move rfl) rfl ?_; clear hA a; intro a hA
    refine S.valg (dj := 32) hA (by kernel_rfl) rfl (R.move rfl) rfl ?_; clear hA a; intro a hA
    refine S.valg (dj := 32) hA (by kernel_rfl) rfl (R.loadW (k := 0) hM sz32 rfl rfl hx.size) rfl ?_; clear hA a; intro a hA
    refine S.callg (dj := 32) hA (by kernel_rfl) rfl (R.callF Try.func28 rfl rfl rfl) rfl (same_v hx ((Lt.sum hbk).up (by decide)) _) ?_; clear hA a
    rintro e w10 ⟨rfl, hb⟩
    replace hM := hM.callB hb; clear hb
    refine ⟨.bool true, rfl, fun a hA => ?_⟩
    refine S.val hA (R.pickT rfl rfl) rfl ?_; clear hA a; intro a hA
    refine S.val hA (R.assign rfl) rfl ?_; clear hA a; intro a hA
    refine S.done ?_
    replace hA : St 38 [(2, _)] a := hA.sub ((.cons rfl .nil))
    refine Ends.ret1 Try.func7 Try.results7 hA rfl ?_
    exact ⟨rfl, hM.nilL.below⟩
theorem arithSums_any (v : Value) (l : List Int) (w : World) (hsl : IntSl w v l) (hl : ∀ x ∈ l, (Lit.int .i64 x).wf = true) :
    Calls Try.prog 7 #[v] w fun e w' => e = .returned (.bool true) ∧ Below w.heap.size w w' := by
  obtain ⟨ad, cap, rfl⟩ := hsl.form
  have h1 := hsl.len
  have hall : AllI (l.take (min l.length 1000)) := fun x hx => bd_i64 (hl x (List.mem_of_mem_take hx))
  exact arithSums_w ad l.length (min l.length 1000) cap (l.take (min l.length 1000)) hall (by rw [List.length_take]; omega) (by rw [List.length_take]; omega) rfl (by omega) w (hsl.cut _ (by omega))

end Go.Proofs.Ytlkemphhbamcfaa
