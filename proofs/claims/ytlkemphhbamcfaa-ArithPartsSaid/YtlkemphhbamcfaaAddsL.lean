/-
  kurganlaw01.same; the law ArithAdds.
-/
import Derived.Test.YtlkemphhbamcfaaSg
import Derived.Test.YtlkemphhbamcfaaArith2
namespace Go.Proofs.Ytlkemphhbamcfaa
open Go.RowKit

set_option maxRecDepth 100000 in
set_option maxHeartbeats 400000 in
theorem same_v {v : Int} {x : Array Value} (hx : Sg v x) (hv : Lt 200 v) (w : World) :
    Calls Try.prog 28 #[.int .i64 (intN v), .bool ((intB v)), .agg x] w fun e w' => e = .returned (.bool true) ∧ Below w.heap.size w w' := by
  have hM := Mem.start w
  refine Calls.of_ends (vs := [.int .i64 (intN v), .bool ((intB v)), .agg x]) Try.func28 rfl Try.ntmps28 rfl ?_
  intro a hA
  replace hA : St 22 [(0, _), (1, _), (2, _)] a := hA
  refine Ends.seq ?_
  refine Ends.region ?_
  refine S.box hA hM rfl rfl ?_; clear hA hM a; intro b1 w1 hb2 hM a hA
  replace hM : Mem _ _ [pt b1 x 32] _ := hM
  refine S.val hA (R.assign rfl) rfl ?_; clear hA a; intro a hA
  refine S.done ?_
  replace hA : St 22 [(0, _), (1, _), (5, _), (6, _)] a := hA.sub ((.cons rfl (.cons rfl (.cons rfl (.cons rfl .nil)))))
  refine Ends.seq ?_
  refine Ends.region ?_
  refine S.val hA (R.loadW (k := 0) hM sz32 rfl rfl hx.size) rfl ?_; clear hA a; intro a hA
  refine S.call hA (R.callF Try.func26 rfl rfl rfl) rfl (int_v hx hv _) ?_; clear hA a
  rintro e w2 ⟨rfl, hb⟩
  replace hM := hM.callB hb; clear hb
  refine ⟨.tuple #[.int .i64 (intN v), .bool ((intB v))], rfl, fun a hA => ?_⟩
  refine S.val hA (R.move rfl) rfl ?_; clear hA a; intro a hA
  refine S.val hA (R.extract (v := .int .i64 (intN v)) rfl rfl) rfl ?_; clear hA a; intro a hA
  refine S.val hA (R.extract (v := .bool ((intB v))) rfl rfl) rfl ?_; clear hA a; intro a hA
  refine S.val hA (R.assign rfl) rfl ?_; clear hA a; intro a hA
  refine S.val hA (R.assign rfl) rfl ?_; clear hA a; intro a hA
  refine S.done ?_
  replace hA : St 22 [(0, _), (1, _), (6, _), (7, _), (8, _)] a := hA.sub ((.cons rfl (.cons rfl (.cons rfl (.cons rfl (.cons rfl .nil))))))
  refine Ends.seq ?_
  refine Ends.region ?_
  refine S.val hA (R.move rfl) rfl ?_; clear hA a; intro a hA
  refine S.val hA (R.move rfl) rfl ?_; clear hA a; intro a hA
  refine S.val hA (R.to (v := .bool true) (R.eqlB Try.underlying4 rfl rfl) (congrArg Value.bool (by simp))) rfl ?_; clear hA a; intro a hA
  refine S.val hA (R.move rfl) rfl ?_; clear hA a; intro a hA
  refine S.valg (dj := 17) hA (by kernel_rfl) rfl (R.move rfl) rfl ?_; clear hA a; intro a hA
  refine S.valg (dj := 17) hA (by kernel_rfl) rfl (R.move rfl) rfl ?_; clear hA a; intro a hA
  refine S.valg (dj := 17) hA (by kernel_rfl) rfl (R.tt (R.eql rfl rfl) (rfl)) rfl ?_; clear hA a; intro a hA
  refine S.val hA (R.pickT rfl rfl) rfl ?_; clear hA a; intro a hA
  refine S.val hA (R.assign rfl) rfl ?_; clear hA a; intro a hA
  refine S.done ?_
  replace hA : St 22 [(6, _)] a := hA.sub ((.cons rfl .nil))
  refine Ends.ret1 Try.func28 Try.results28 hA rfl ?_
  exact ⟨rfl, hM.nilL.below⟩
set_option maxRecDepth 100000 in
set_option maxHeartbeats 400000 in
theorem arithAdds_any (p q : Int) (ha : (Lit.int .i64 p).wf = true) (hb_ : (Lit.int .i64 q).wf = true) (w : World) :
    Calls Try.prog 8 #[.int .i64 p, .int .i64 q] w fun e w' => e = .returned (.bool true) ∧ Below w.heap.size w w' := by
  obtain ⟨a0, a1⟩ := bd_i64 ha
  obtain ⟨b0, b1⟩ := bd_i64 hb_
  have hM := Mem.start w
  refine Calls.of_ends (vs := [.int .i64 p, .int .i64 q]) Try.func8 rfl Try.ntmps8 rfl ?_
  intro a hA
  replace hA : St 75 [(0, _), (1, _)] a := hA
  refine Ends.seq ?_
  refine Ends.region ?_
  refine S.val hA (R.assign rfl) rfl ?_; clear hA a; intro a hA
  refine S.done ?_
  replace hA : St 75 [(0, _), (1, _), (4, _)] a := hA.sub ((.cons rfl (.cons rfl (.cons rfl .nil))))
  refine Ends.seq ?_
  refine Ends.region ?_
  refine S.val hA (R.move rfl) rfl ?_; clear hA a; intro a hA
  refine S.val hA (R.move rfl) rfl ?_; clear hA a; intro a hA
  refine S.call hA (R.callF Try.func29 rfl rfl rfl) rfl (a_add p q a0 a1 b0 b1 _) ?_; clear hA a
  rintro e w1 ⟨rfl, rfl⟩
  refine ⟨.tuple #[.int .i64 (intN (p + q)), .bool ((intB (p + q)))], rfl, fun a hA => ?_⟩
  refine S.val hA (R.move rfl) rfl ?_; clear hA a; intro a hA
  refine S.val hA (R.extract (v := .int .i64 (intN (p + q))) rfl rfl) rfl ?_; clear hA a; intro a hA
  refine S.val hA (R.extract (v := .bool ((intB (p + q)))) rfl rfl) rfl ?_; clear hA a; intro a hA
  refine S.val hA (R.assign rfl) rfl ?_; clear hA a; intro a hA
  refine S.val hA (R.assign rfl) rfl ?_; clear hA a; intro a hA
  refine S.done ?_
  replace hA : St 75 [(0, _), (1, _), (4, _), (5, _), (6, _)] a := hA.sub ((.cons rfl (.cons rfl (.cons rfl (.cons rfl (.cons rfl .nil))))))
  refine Ends.seq ?_
  refine Ends.region ?_
  refine S.val hA (R.move rfl) rfl ?_; clear hA a; intro a hA
  refine S.val hA (R.move rfl) rfl ?_; clear hA a; intro a hA
  refine S.call hA (R.callF Try.func30 rfl rfl rfl) rfl (a_sub p q a0 a1 b0 b1 _) ?_; clear hA a
  rintro e w2 ⟨rfl, rfl⟩
  refine ⟨.tuple #[.int .i64 (intN (p - q)), .bool ((intB (p - q)))], rfl, fun a hA => ?_⟩
  refine S.val hA (R.move rfl) rfl ?_; clear hA a; intro a hA
  refine S.val hA (R.extract (v := .int .i64 (intN (p - q))) rfl rfl) rfl ?_; clear hA a; intro a hA
  refine S.val hA (R.extract (v := .bool ((intB (p - q)))) rfl rfl) rfl ?_; clear hA a; intro a hA
  refine S.val hA (R.assign rfl) rfl ?_; clear hA a; intro a hA
  refine S.val hA (R.assign rfl) rfl ?_; clear hA a; intro a hA
  refine S.done ?_
  replace hA : St 75 [(0, _), (1, _), (4, _), (5, _), (6, _), (7, _), (8, _)] a := hA.sub ((.cons rfl (.cons rfl (.cons rfl (.cons rfl (.cons rfl (.cons rfl (.cons rfl .nil))))))))
  refine Ends.seq ?_
  refine Ends.region ?_
  refine S.val hA (R.move rfl) rfl ?_; clear hA a; intro a hA
  refine S.val hA (R.move rfl) rfl ?_; clear hA a; intro a hA
  refine S.call hA (R.callF Try.func31 rfl rfl rfl) rfl (a_mul p q a0 a1 b0 b1 _) ?_; clear hA a
  rintro e w3 ⟨rfl, rfl⟩
  refine ⟨.tuple #[.int .i64 (intN (p * q)), .bool ((intB (p * q)))], rfl, fun a hA => ?_⟩
  refine S.val hA (R.move rfl) rfl ?_; clear hA a; intro a hA
  refine S.val hA (R.extract (v := .int .i64 (intN (p * q))) rfl rfl) rfl ?_; clear hA a; intro a hA
  refine S.val hA (R.extract (v := .bool ((intB (p * q)))) rfl rfl) rfl ?_; clear hA a; intro a hA
  refine S.val hA (R.assign rfl) rfl ?_; clear hA a; intro a hA
  refine S.val hA (R.assign rfl) rfl ?_; clear hA a; intro a hA
  refine S.done ?_
  replace hA : St 75 [(0, _), (1, _), (4, _), (5, _), (6, _), (7, _), (8, _), (9, _), (10, _)] a := hA.sub ((.cons rfl (.cons rfl (.cons rfl (.cons rfl (.cons rfl (.cons rfl (.cons rfl (.cons rfl (.cons rfl .nil))))))))))
  refine Ends.seq ?_
  refine Ends.region ?_
  refine S.val hA (R.move rfl) rfl ?_; clear hA a; intro a hA
  refine S.call hA (R.callF Try.func32 rfl rfl rfl) rfl (a_neg p a0 a1 _) ?_; clear hA a
  rintro e w4 ⟨rfl, rfl⟩
  refine ⟨.tuple #[.int .i64 (intN (-p)), .bool ((intB (-p)))], rfl, fun a hA => ?_⟩
  refine S.val hA (R.move rfl) rfl ?_; clear hA a; intro a hA
  refine S.val hA (R.extract (v := .int .i64 (intN (-p))) rfl rfl) rfl ?_; clear hA a; intro a hA
  refine S.val hA (R.extract (v := .bool ((intB (-p)))) rfl rfl) rfl ?_; clear hA a; intro a hA
  refine S.val hA (R.assign rfl) rfl ?_; clear hA a; intro a hA
  refine S.val hA (R.assign rfl) rfl ?_; clear hA a; intro a hA
  refine S.done ?_
  replace hA : St 75 [(0, _), (1, _), (4, _), (5, _), (6, _), (7, _), (8, _), (9, _), (10, _), (11, _), (12, _)] a := hA.sub ((.cons rfl (.cons rfl (.cons rfl (.cons rfl (.cons rfl (.cons rfl (.cons rfl (.cons rfl (.cons rfl (.cons rfl (.cons rfl .nil))))))))))))
  refine Ends.seq ?_
  refine Ends.region ?_
  refine S.val hA (R.move rfl) rfl ?_; clear hA a; intro a hA
  refine S.call hA (R.callF Try.func22 rfl rfl rfl) rfl (num_v p (by omega) (by omega) _) ?_; clear hA a
  rintro e w5 ⟨x1, rfl, sg2, hb⟩
  replace hM := hM.callB hb; clear hb
  refine ⟨.agg x1, rfl, fun a hA => ?_⟩
  refine S.val hA (R.move rfl) rfl ?_; clear hA a; intro a hA
  refine S.call hA (R.callF Try.func22 rfl rfl rfl) rfl (num_v q (by omega) (by omega) _) ?_; clear hA a
  rintro e w6 ⟨x3, rfl, sg4, hb⟩
  replace hM := hM.callB hb; clear hb
  refine ⟨.agg x3, rfl, fun a hA => ?_⟩
  refine S.alloc hA hM info32 rfl rfl ?_; clear hA hM a; intro b5 w7 hb6 hM a hA
  replace hM : Mem _ _ [pt b5 #[.bool false, .int .i64 0, .int .i64 0, .int .i64 0, .int .i64 0, .int .i64 0, .int .i64 0, .int .i64 0, .int .i64 0, .int .i64 0] 32] _ := hM
  refine S.alloc hA hM info32 rfl rfl ?_; clear hA hM a; intro b7 w8 hb8 hM a hA
  replace hM : Mem _ _ [pt b7 #[.bool false, .int .i64 0, .int .i64 0, .int .i64 0, .int .i64 0, .int .i64 0, .int .i64 0, .int .i64 0, .int .i64 0, .int .i64 0] 32, pt b5 #[.bool false, .int .i64 0, .int .i64 0, .int .i64 0, .int .i64 0, .int .i64 0, .int .i64 0, .int .i64 0, .int .i64 0, .int .i64 0] 32] _ := hM
  refine S.storeW (k := 1) hA hM sz32 rfl rfl sg2.size sg2.one rfl rfl ?_; clear hM
  intro w9 hM
  replace hM : Mem _ _ [pt b7 #[.bool false, .int .i64 0, .int .i64 0, .int .i64 0, .int .i64 0, .int .i64 0, .int .i64 0, .int .i64 0, .int .i64 0, .int .i64 0] 32, pt b5 x1 32] _ := hM
  refine S.storeW (k := 0) hA hM sz32 rfl rfl sg4.size sg4.one rfl rfl ?_; clear hM
  intro w10 hM
  replace hM : Mem _ _ [pt b7 x3 32, pt b5 x1 32] _ := hM
  refine S.done ?_
  replace hA : St 75 [(4, _), (5, _), (6, _), (7, _), (8, _), (9, _), (10, _), (11, _), (12, _), (13, _), (14, _)] a := hA.sub ((.cons rfl (.cons rfl (.cons rfl (.cons rfl (.cons rfl (.cons rfl (.cons rfl (.cons rfl (.cons rfl (.cons rfl (.cons rfl .nil))))))))))))
  refine Ends.seq ?_
  refine Ends.drawn (Mem w nof [pt b7 x3 32, pt b5 x1 32]) (.cons (0, false) (.cons (1, true) (.cons (2, true) (.cons (3, true) (.cons (4, true) (.cons (5, true) (.cons (6, false) (.cons (7, false) (.cons (8, true) (.cons (9, true) (.cons (10, true) (.cons (11, true) (.cons (12, true) (.cons (13, true) (.cons (14, false) (.cons (15, false) (.cons (16, false) (.cons (17, true) (.cons (18, true) (.cons (19, true) (.cons (20, true) (.cons (21, true) (.cons (22, true) (.cons (23, false) (.cons (24, false) (.cons (25, true) (.cons (26, true) (.cons (27, true) (.cons (28, true) (.cons (29, true) (.cons (30, false) (.cons (31, false) (.cons (32, true) (.cons (33, true) .nil)))))))))))))))))))))))))))))))))) 34 mixed (by kernel_rfl) (by kernel_rfl) (by kernel_rfl) hM.drew ?_
  replace hM := hM.drew
  refine D.call hA rfl (R.callF Try.func19 rfl rfl rfl) rfl (counts_any _) ?_; clear hA a
  rintro e w11 ⟨rfl, hb⟩
  replace hM := hM.callB hb; clear hb
  refine ⟨.bool true, rfl, hM, fun a hA => ?_⟩
  refine D.valF hA rfl (fun _ => R.move rfl) rfl ?_; clear hA a; intro a hA
  refine D.valgF (dj := 43) hA rfl (by kernel_rfl) rfl (fun _ => R.move rfl) rfl ?_; clear hA a; intro a hA
  refine D.valgF (dj := 43) hA rfl (by kernel_rfl) rfl (fun _ => R.move rfl) rfl ?_; clear hA a; intro a hA
  refine D.valg (dj := 43) hA rfl (by kernel_rfl) (by kernel_rfl) rfl (fun _ hM => R.loadW (k := 1) hM sz32 rfl rfl sg2.size) rfl ?_; clear hA a; intro a hA
  refine D.valg (dj := 43) hA rfl (by kernel_rfl) (by kernel_rfl) rfl (fun _ hM => R.loadW (k := 0) hM sz32 rfl rfl sg4.size) rfl ?_; clear hA a; intro a hA
  refine D.callg (dj := 43) hA rfl (by kernel_rfl) rfl (R.callF Try.func20 rfl rfl rfl) rfl (add_v sg2 sg4 ((Lt.int a0 a1).up (by decide)) ((Lt.int b0 b1).up (by decide)) _) ?_; clear hA a
  rintro e w12 ⟨x9, rfl, sg10, hb⟩
  replace hM := hM.callB hb; clear hb
  refine ⟨.agg x9, rfl, hM, fun a hA => ?_⟩
  refine D.callg (dj := 43) hA rfl (by kernel_rfl) rfl (R.callF Try.func28 rfl rfl rfl) rfl (same_v sg10 ((Lt.add (Lt.int a0 a1) (Lt.int b0 b1)).up (by decide)) _) ?_; clear hA a
  rintro e w13 ⟨rfl, hb⟩
  replace hM := hM.callB hb; clear hb
  refine ⟨.bool true, rfl, hM, fun a hA => ?_⟩
  refine D.valF hA rfl (fun _ => R.pickT rfl rfl) rfl ?_; clear hA a; intro a hA
  refine D.valF hA rfl (fun _ => R.move rfl) rfl ?_; clear hA a; intro a hA
  refine D.valgF (dj := 51) hA rfl (by kernel_rfl) rfl (fun _ => R.move rfl) rfl ?_; clear hA a; intro a hA
  refine D.valgF (dj := 51) hA rfl (by kernel_rfl) rfl (fun _ => R.move rfl) rfl ?_; clear hA a; intro a hA
  refine D.valg (dj := 51) hA rfl (by kernel_rfl) (by kernel_rfl) rfl (fun _ hM => R.loadW (k := 1) hM sz32 rfl rfl sg2.size) rfl ?_; clear hA a; intro a hA
  refine D.valg (dj := 51) hA rfl (by kernel_rfl) (by kernel_rfl) rfl (fun _ hM => R.loadW (k := 0) hM sz32 rfl rfl sg4.size) rfl ?_; clear hA a; intro a hA
  refine D.callg (dj := 51) hA rfl (by kernel_rfl) rfl (R.callF Try.func33 rfl rfl rfl) rfl (neg_v sg4 _) ?_; clear hA a
  rintro e w14 ⟨x11, rfl, sg12, hb⟩
  replace hM := hM.callB hb; clear hb
  refine ⟨.agg x11, rfl, hM, fun a hA => ?_⟩
  refine D.callg (dj := 51) hA rfl (by kernel_rfl) rfl (R.callF Try.func20 rfl rfl rfl) rfl (add_v sg2 sg12 ((Lt.int a0 a1).up (by decide)) ((Lt.int b0 b1).neg.up (by decide)) _) ?_; clear hA a
  rintro e w15 ⟨x13, rfl, sg14, hb⟩
  replace hM := hM.callB hb; clear hb
  refine ⟨.agg x13, rfl, hM, fun a hA => ?_⟩
  refine D.callg (dj := 51) hA rfl (by kernel_rfl) rfl (R.callF Try.func28 rfl rfl rfl) rfl (same_v sg14 ((Lt.add (Lt.int a0 a1) (Lt.int b0 b1).neg).up (by decide)) _) ?_; clear hA a
  rintro e w16 ⟨rfl, hb⟩
  replace hM := hM.callB hb; clear hb
  refine ⟨.bool true, rfl, hM, fun a hA => ?_⟩
  refine D.valF hA rfl (fun _ => R.pickT rfl rfl) rfl ?_; clear hA a; intro a hA
  refine D.valF hA rfl (fun _ => R.move rfl) rfl ?_; clear hA a; intro a hA
  refine D.valgF (dj := 60) hA rfl (by kernel_rfl) rfl (fun _ => R.move rfl) rfl ?_; clear hA a; intro a hA
  refine D.valgF (dj := 60) hA rfl (by kernel_rfl) rfl (fun _ => R.move rfl) rfl ?_; clear hA a; intro a hA
  refine D.valg (dj := 60) hA rfl (by kernel_rfl) (by kernel_rfl) rfl (fun _ hM => R.loadW (k := 1) hM sz32 rfl rfl sg2.size) rfl ?_; clear hA a; intro a hA
  refine D.valg (dj := 60) hA rfl (by kernel_rfl) (by kernel_rfl) rfl (fun _ hM => R.loadW (k := 0) hM sz32 rfl rfl sg4.size) rfl ?_; clear hA a; intro a hA
  refine D.callg (dj := 60) hA rfl (by kernel_rfl) rfl (R.callF Try.func21 rfl rfl rfl) rfl (mul_v sg2 sg4 ((Lt.int a0 a1).up (by decide)) ((Lt.int b0 b1).up (by decide)) _) ?_; clear hA a
  rintro e w17 ⟨x15, rfl, sg16, hb⟩
  replace hM := hM.callB hb; clear hb
  refine ⟨.agg x15, rfl, hM, fun a hA => ?_⟩
  refine D.callg (dj := 60) hA rfl (by kernel_rfl) rfl (R.callF Try.func28 rfl rfl rfl) rfl (same_v sg16 (((Lt.int a0 a1).mul (Lt.int b0 b1)).up (by decide)) _) ?_; clear hA a
  rintro e w18 ⟨rfl, hb⟩
  replace hM := hM.callB hb; clear hb
  refine ⟨.bool true, rfl, hM, fun a hA => ?_⟩
  refine D.valF hA rfl (fun _ => R.pickT rfl rfl) rfl ?_; clear hA a; intro a hA
  refine D.valF hA rfl (fun _ => R.move rfl) rfl ?_; clear hA a; intro a hA
  refine D.valgF (dj := 68) hA rfl (by kernel_rfl) rfl (fun _ => R.move rfl) rfl ?_; clear hA a; intro a hA
  refine D.valgF (dj := 68) hA rfl (by kernel_rfl) rfl (fun _ => R.move rfl) rfl ?_; clear hA a; intro a hA
  refine D.valg (dj := 68) hA rfl (by kernel_rfl) (by kernel_rfl) rfl (fun _ hM => R.loadW (k := 1) hM sz32 rfl rfl sg2.size) rfl ?_; clear hA a; intro a hA
  refine D.callg (dj := 68) hA rfl (by kernel_rfl) rfl (R.callF Try.func33 rfl rfl rfl) rfl (neg_v sg2 _) ?_; clear hA a
  rintro e w19 ⟨x17, rfl, sg18, hb⟩
  replace hM := hM.callB hb; clear hb
  refine ⟨.agg x17, rfl, hM, fun a hA => ?_⟩
  refine D.callg (dj := 68) hA rfl (by kernel_rfl) rfl (R.callF Try.func28 rfl rfl rfl) rfl (same_v sg18 ((Lt.int a0 a1).neg.up (by decide)) _) ?_; clear hA a
  rintro e w20 ⟨rfl, hb⟩
  replace hM := hM.callB hb; clear hb
  refine ⟨.bool true, rfl, hM, fun a hA => ?_⟩
  refine D.valF hA rfl (fun _ => R.pickT rfl rfl) rfl ?_; clear hA a; intro a hA
  refine D.valF hA rfl (fun _ => R.assign rfl) rfl ?_; clear hA a; intro a hA
  refine D.done ?_
  replace hA : St 75 [(4, _)] a := hA.sub ((.cons rfl .nil))
  refine Ends.ret1 Try.func8 Try.results8 hA rfl ?_
  exact ⟨rfl, hM.nilL.below⟩
end Go.Proofs.Ytlkemphhbamcfaa
