/-
  The law CellPacks.
-/
import Derived.Test.YtlkemphhbamcfaaCellL
namespace Go.Proofs.Ytlkemphhbamcfaa
open Go.RowKit

theorem packback (v p : Int) : packI (packI v p / 4294967296 % 1073741824) (packI v p % 4294967296 - 1) = packI v p := by
  rw [packI_p, packI_v]
  have h := plc_bd p
  have : plc (plc p) = plc p := by unfold plc; split <;> (try split) <;> omega
  unfold packI
  rw [this, Int.emod_emod_of_dvd _ (by decide), Int.emod_emod_of_dvd _ (by decide)]

set_option maxRecDepth 100000 in
set_option maxHeartbeats 400000 in
theorem cellPacks_any (v p o : Int) (hv : (Lit.int .i64 v).wf = true) (_hp : (Lit.int .i64 p).wf = true) (_ho : (Lit.int .i64 o).wf = true) (w : World) :
    Calls Try.prog 12 #[.int .i64 v, .int .i64 p, .int .i64 o] w fun e w' => e = .returned (.bool true) ∧ Below w.heap.size w w' := by
  obtain ⟨hv0, hv1⟩ := bd_i64 hv
  have hM := Mem.start w
  have b1 := packI_bd v p
  have b2 := packI_v v p
  have b3 := packI_p v p
  have c1 := packI_bd (packI v p / 4294967296 % 1073741824 + 1) o
  have c2 := packI_v (packI v p / 4294967296 % 1073741824 + 1) o
  have c3 := packI_p (packI v p / 4294967296 % 1073741824 + 1) o
  have d1 := plc_bd p
  have d2 := plc_bd o
  have e1 : (0 ≤ p ∧ p ≤ 2147483646) → plc p = p := plc_in
  have e2 : ¬ (0 ≤ p ∧ p ≤ 2147483646) → plc p = -1 := plc_out
  have e3 : (0 ≤ o ∧ o ≤ 2147483646) → plc o = o := plc_in
  have e4 : ¬ (0 ≤ o ∧ o ≤ 2147483646) → plc o = -1 := plc_out
  have g := packback v p
  refine Calls.of_ends (vs := [.int .i64 v, .int .i64 p, .int .i64 o]) Try.func12 rfl Try.ntmps12 rfl ?_
  intro a hA
  replace hA : St 94 [(0, _), (1, _), (2, _)] a := hA
  refine Ends.seq ?_
  refine Ends.region ?_
  refine S.val hA (R.assign rfl) rfl ?_; clear hA a; intro a hA
  refine S.done ?_
  replace hA : St 94 [(0, _), (1, _), (2, _), (6, _)] a := hA.sub ((.cons rfl (.cons rfl (.cons rfl (.cons rfl .nil)))))
  refine Ends.seq ?_
  refine Ends.region ?_
  refine S.val hA (R.move rfl) rfl ?_; clear hA a; intro a hA
  refine S.val hA (R.move rfl) rfl ?_; clear hA a; intro a hA
  refine S.call hA (R.callF Try.func39 rfl rfl rfl) rfl (pack_any v p (by omega) (by omega) _) ?_; clear hA a
  rintro e w1 ⟨rfl, rfl⟩
  refine ⟨.int .i64 (packI v p), rfl, fun a hA => ?_⟩
  refine S.val hA (R.assign rfl) rfl ?_; clear hA a; intro a hA
  refine S.done ?_
  replace hA : St 94 [(0, _), (1, _), (2, _), (6, _), (7, _)] a := hA.sub ((.cons rfl (.cons rfl (.cons rfl (.cons rfl (.cons rfl .nil))))))
  refine Ends.seq ?_
  refine Ends.region ?_
  refine S.val hA (R.move rfl) rfl ?_; clear hA a; intro a hA
  refine S.call hA (R.callF Try.func40 rfl rfl rfl) rfl (unpack_any (packI v p) (by omega) (by omega) _) ?_; clear hA a
  rintro e w2 ⟨rfl, rfl⟩
  refine ⟨.tuple #[.int .i64 ((packI v p) / 4294967296 % 1073741824), .int .i64 ((packI v p) % 4294967296 - 1)], rfl, fun a hA => ?_⟩
  refine S.val hA (R.move rfl) rfl ?_; clear hA a; intro a hA
  refine S.val hA (R.extract rfl rfl) rfl ?_; clear hA a; intro a hA
  refine S.val hA (R.extract rfl rfl) rfl ?_; clear hA a; intro a hA
  refine S.val hA (R.assign rfl) rfl ?_; clear hA a; intro a hA
  refine S.val hA (R.assign rfl) rfl ?_; clear hA a; intro a hA
  refine S.done ?_
  replace hA : St 94 [(0, _), (1, _), (2, _), (6, _), (7, _), (8, _), (9, _)] a := hA.sub ((.cons rfl (.cons rfl (.cons rfl (.cons rfl (.cons rfl (.cons rfl (.cons rfl .nil))))))))
  refine Ends.seq ?_
  refine Ends.region ?_
  refine S.val hA (R.move rfl) rfl ?_; clear hA a; intro a hA
  refine S.val hA (R.move rfl) rfl ?_; clear hA a; intro a hA
  refine S.call hA (R.callF Try.func41 rfl rfl rfl) rfl (up_any (packI v p) o (by omega) (by omega) _) ?_; clear hA a
  rintro e w3 ⟨rfl, rfl⟩
  refine ⟨.int .i64 (packI ((packI v p) / 4294967296 % 1073741824 + 1) o), rfl, fun a hA => ?_⟩
  refine S.val hA (R.assign rfl) rfl ?_; clear hA a; intro a hA
  refine S.done ?_
  replace hA : St 94 [(0, _), (1, _), (2, _), (6, _), (7, _), (8, _), (9, _), (10, _)] a := hA.sub ((.cons rfl (.cons rfl (.cons rfl (.cons rfl (.cons rfl (.cons rfl (.cons rfl (.cons rfl .nil)))))))))
  refine Ends.seq ?_
  refine Ends.region ?_
  refine S.val hA (R.move rfl) rfl ?_; clear hA a; intro a hA
  refine S.call hA (R.callF Try.func40 rfl rfl rfl) rfl (unpack_any (packI ((packI v p) / 4294967296 % 1073741824 + 1) o) (by omega) (by omega) _) ?_; clear hA a
  rintro e w4 ⟨rfl, rfl⟩
  refine ⟨.tuple #[.int .i64 ((packI ((packI v p) / 4294967296 % 1073741824 + 1) o) / 4294967296 % 1073741824), .int .i64 ((packI ((packI v p) / 4294967296 % 1073741824 + 1) o) % 4294967296 - 1)], rfl, fun a hA => ?_⟩
  refine S.val hA (R.move rfl) rfl ?_; clear hA a; intro a hA
  refine S.val hA (R.extract rfl rfl) rfl ?_; clear hA a; intro a hA
  refine S.val hA (R.extract rfl rfl) rfl ?_; clear hA a; intro a hA
  refine S.val hA (R.assign rfl) rfl ?_; clear hA a; intro a hA
  refine S.val hA (R.assign rfl) rfl ?_; clear hA a; intro a hA
  refine S.done ?_
  replace hA : St 94 [(0, _), (1, _), (2, _), (6, _), (7, _), (8, _), (9, _), (10, _), (11, _), (12, _)] a := hA.sub ((.cons rfl (.cons rfl (.cons rfl (.cons rfl (.cons rfl (.cons rfl (.cons rfl (.cons rfl (.cons rfl (.cons rfl .nil)))))))))))
  refine Ends.seq ?_
  refine Ends.region ?_
  refine S.val hA (R.move rfl) rfl ?_; clear hA a; intro a hA
  refine S.val hA (R.assign rfl) rfl ?_; clear hA a; intro a hA
  refine S.done ?_
  replace hA : St 94 [(0, _), (1, _), (2, _), (6, _), (7, _), (8, _), (9, _), (10, _), (11, _), (12, _), (13, _)] a := hA.sub ((.cons rfl (.cons rfl (.cons rfl (.cons rfl (.cons rfl (.cons rfl (.cons rfl (.cons rfl (.cons rfl (.cons rfl (.cons rfl .nil))))))))))))
  refine Ends.seq ?_
  refine Ends.seq ?_
  refine Ends.cut (fun (a : Act) (wv : World) => St 94 [(0, .int .i64 v), (1, .int .i64 p), (2, .int .i64 o), (6, .bool false), (7, .int .i64 (packI v p)), (8, .int .i64 ((packI v p) / 4294967296 % 1073741824)), (9, .int .i64 ((packI v p) % 4294967296 - 1)), (10, .int .i64 (packI ((packI v p) / 4294967296 % 1073741824 + 1) o)), (11, .int .i64 ((packI ((packI v p) / 4294967296 % 1073741824 + 1) o) / 4294967296 % 1073741824)), (12, .int .i64 ((packI ((packI v p) / 4294967296 % 1073741824 + 1) o) % 4294967296 - 1)), (13, .int .i64 p), (37, .bool (decide ((p < 0 ∨ 2147483646 < p))))] a ∧ Mem w nof [] wv) ?_ (fun k2 hJ => ?_)
  · clear hA hM a; rintro a w5 ⟨hA, hM⟩
    refine Ends.ite hA rfl (fun hc1 => ?_) (fun hc1 => ?_)
    ·
      refine Ends.region ?_
      refine S.val hA (R.assign rfl) rfl ?_; clear hA a; intro a hA
      refine S.done ?_
      replace hA : St 94 [(0, _), (1, _), (2, _), (6, _), (7, _), (8, _), (9, _), (10, _), (11, _), (12, _), (13, _)] a := hA.sub ((.cons rfl (.cons rfl (.cons rfl (.cons rfl (.cons rfl (.cons rfl (.cons rfl (.cons rfl (.cons rfl (.cons rfl (.cons rfl .nil))))))))))))
      refine Ends.seq ?_
      refine Ends.region ?_
      refine S.val hA (R.move rfl) rfl ?_; clear hA a; intro a hA
      refine S.val hA (R.assign rfl) rfl ?_; clear hA a; intro a hA
      refine S.done ?_
      replace hA : St 94 [(0, _), (1, _), (2, _), (6, _), (7, _), (8, _), (9, _), (10, _), (11, _), (12, _), (13, _), (14, _)] a := hA.sub ((.cons rfl (.cons rfl (.cons rfl (.cons rfl (.cons rfl (.cons rfl (.cons rfl (.cons rfl (.cons rfl (.cons rfl (.cons rfl (.cons rfl .nil)))))))))))))
      refine Ends.seq ?_
      refine Ends.seq ?_
      refine Ends.cut (fun (a : Act) (wv : World) => St 94 [(0, .int .i64 v), (1, .int .i64 p), (2, .int .i64 o), (6, .bool false), (7, .int .i64 (packI v p)), (8, .int .i64 ((packI v p) / 4294967296 % 1073741824)), (9, .int .i64 ((packI v p) % 4294967296 - 1)), (10, .int .i64 (packI ((packI v p) / 4294967296 % 1073741824 + 1) o)), (11, .int .i64 ((packI ((packI v p) / 4294967296 % 1073741824 + 1) o) / 4294967296 % 1073741824)), (12, .int .i64 ((packI ((packI v p) / 4294967296 % 1073741824 + 1) o) % 4294967296 - 1)), (13, .int .i64 (-1)), (14, .int .i64 o), (44, .bool (decide ((o < 0 ∨ 2147483646 < o))))] a ∧ Mem w nof [] wv) ?_ (fun k2 hJ => ?_)
      · clear hA hM a; rintro a w6 ⟨hA, hM⟩
        refine Ends.ite hA rfl (fun hc2 => ?_) (fun hc2 => ?_)
        ·
          refine Ends.region ?_
          refine S.val hA (R.assign rfl) rfl ?_; clear hA a; intro a hA
          refine S.done ?_
          replace hA : St 94 [(0, _), (1, _), (2, _), (6, _), (7, _), (8, _), (9, _), (10, _), (11, _), (12, _), (13, _), (14, _)] a := hA.sub ((.cons rfl (.cons rfl (.cons rfl (.cons rfl (.cons rfl (.cons rfl (.cons rfl (.cons rfl (.cons rfl (.cons rfl (.cons rfl (.cons rfl .nil)))))))))))))
          refine Ends.seq ?_
          refine Ends.region ?_
          refine S.call hA (R.callF Try.func42 rfl rfl rfl) rfl (cells16 _) ?_; clear hA a
          rintro e w7 ⟨rfl, hb⟩
          replace hM := hM.callB hb; clear hb
          refine ⟨.bool true, rfl, fun a hA => ?_⟩
          refine S.val hA (R.move rfl) rfl ?_; clear hA a; intro a hA
          refine S.valg (dj := 46) hA (by kernel_rfl) rfl (R.move rfl) rfl ?_; clear hA a; intro a hA
          refine S.valg (dj := 46) hA (by kernel_rfl) rfl (R.move rfl) rfl ?_; clear hA a; intro a hA
          refine S.valg (dj := 46) hA (by kernel_rfl) rfl (R.move rfl) rfl ?_; clear hA a; intro a hA
          refine S.callg (dj := 46) hA (by kernel_rfl) rfl (R.callF Try.func43 rfl rfl rfl) rfl (rpack_any v p _) ?_; clear hA a
          rintro e w8 ⟨rfl, rfl⟩
          refine ⟨.int .i64 (packI v p), rfl, fun a hA => ?_⟩
          refine S.valg (dj := 46) hA (by kernel_rfl) rfl (R.tt (R.eql rfl rfl) (rfl)) rfl ?_; clear hA a; intro a hA
          refine S.val hA (R.pickT rfl rfl) rfl ?_; clear hA a; intro a hA
          refine S.val hA (R.move rfl) rfl ?_; clear hA a; intro a hA
          refine S.valg (dj := 53) hA (by kernel_rfl) rfl (R.move rfl) rfl ?_; clear hA a; intro a hA
          refine S.valg (dj := 53) hA (by kernel_rfl) rfl (R.move rfl) rfl ?_; clear hA a; intro a hA
          refine S.valg (dj := 53) hA (by kernel_rfl) rfl (R.addI rfl rfl (r := ((packI v p) / 4294967296 % 1073741824) + 1) rfl (by omega)) rfl ?_; clear hA a; intro a hA
          refine S.valg (dj := 53) hA (by kernel_rfl) rfl (R.move rfl) rfl ?_; clear hA a; intro a hA
          refine S.callg (dj := 53) hA (by kernel_rfl) rfl (R.callF Try.func43 rfl rfl rfl) rfl (rpack_any (((packI v p) / 4294967296 % 1073741824) + 1) o _) ?_; clear hA a
          rintro e w9 ⟨rfl, rfl⟩
          refine ⟨.int .i64 (packI (((packI v p) / 4294967296 % 1073741824) + 1) o), rfl, fun a hA => ?_⟩
          refine S.valg (dj := 53) hA (by kernel_rfl) rfl (R.tt (R.eql rfl rfl) (rfl)) rfl ?_; clear hA a; intro a hA
          refine S.val hA (R.pickT rfl rfl) rfl ?_; clear hA a; intro a hA
          refine S.val hA (R.move rfl) rfl ?_; clear hA a; intro a hA
          refine S.valg (dj := 61) hA (by kernel_rfl) rfl (R.move rfl) rfl ?_; clear hA a; intro a hA
          refine S.valg (dj := 61) hA (by kernel_rfl) rfl (R.move rfl) rfl ?_; clear hA a; intro a hA
          refine S.valg (dj := 61) hA (by kernel_rfl) rfl (R.tt (R.eql rfl rfl) (by omega)) rfl ?_; clear hA a; intro a hA
          refine S.val hA (R.pickT rfl rfl) rfl ?_; clear hA a; intro a hA
          refine S.val hA (R.move rfl) rfl ?_; clear hA a; intro a hA
          refine S.valg (dj := 66) hA (by kernel_rfl) rfl (R.move rfl) rfl ?_; clear hA a; intro a hA
          refine S.valg (dj := 66) hA (by kernel_rfl) rfl (R.move rfl) rfl ?_; clear hA a; intro a hA
          refine S.valg (dj := 66) hA (by kernel_rfl) rfl (R.tt (R.eql rfl rfl) (by omega)) rfl ?_; clear hA a; intro a hA
          refine S.val hA (R.pickT rfl rfl) rfl ?_; clear hA a; intro a hA
          refine S.val hA (R.move rfl) rfl ?_; clear hA a; intro a hA
          refine S.valg (dj := 71) hA (by kernel_rfl) rfl (R.move rfl) rfl ?_; clear hA a; intro a hA
          refine S.valg (dj := 71) hA (by kernel_rfl) rfl (R.move rfl) rfl ?_; clear hA a; intro a hA
          refine S.callg (dj := 71) hA (by kernel_rfl) rfl (R.callF Try.func39 rfl rfl rfl) rfl (pack_any ((packI v p) / 4294967296 % 1073741824) ((packI v p) % 4294967296 - 1) (by omega) (by omega) _) ?_; clear hA a
          rintro e w10 ⟨rfl, rfl⟩
          refine ⟨.int .i64 (packI ((packI v p) / 4294967296 % 1073741824) ((packI v p) % 4294967296 - 1)), rfl, fun a hA => ?_⟩
          refine S.valg (dj := 71) hA (by kernel_rfl) rfl (R.move rfl) rfl ?_; clear hA a; intro a hA
          refine S.valg (dj := 71) hA (by kernel_rfl) rfl (R.tt (R.eql rfl rfl) (g)) rfl ?_; clear hA a; intro a hA
          refine S.val hA (R.pickT rfl rfl) rfl ?_; clear hA a; intro a hA
          refine S.val hA (R.move rfl) rfl ?_; clear hA a; intro a hA
          refine S.valg (dj := 78) hA (by kernel_rfl) rfl (R.move rfl) rfl ?_; clear hA a; intro a hA
          refine S.valg (dj := 78) hA (by kernel_rfl) rfl (R.move rfl) rfl ?_; clear hA a; intro a hA
          refine S.valg (dj := 78) hA (by kernel_rfl) rfl (R.addI rfl rfl (r := ((packI v p) / 4294967296 % 1073741824) + 1) rfl (by omega)) rfl ?_; clear hA a; intro a hA
          refine S.valg (dj := 78) hA (by kernel_rfl) rfl (R.remI rfl rfl rfl (by omega)) rfl ?_; clear hA a; intro a hA
          refine S.valg (dj := 78) hA (by kernel_rfl) rfl (R.tt (R.eql rfl rfl) (by omega)) rfl ?_; clear hA a; intro a hA
          refine S.val hA (R.pickT rfl rfl) rfl ?_; clear hA a; intro a hA
          refine S.val hA (R.move rfl) rfl ?_; clear hA a; intro a hA
          refine S.valg (dj := 85) hA (by kernel_rfl) rfl (R.move rfl) rfl ?_; clear hA a; intro a hA
          refine S.valg (dj := 85) hA (by kernel_rfl) rfl (R.move rfl) rfl ?_; clear hA a; intro a hA
          refine S.valg (dj := 85) hA (by kernel_rfl) rfl (R.tt (R.neq rfl rfl) (by omega)) rfl ?_; clear hA a; intro a hA
          refine S.val hA (R.pickT rfl rfl) rfl ?_; clear hA a; intro a hA
          refine S.val hA (R.move rfl) rfl ?_; clear hA a; intro a hA
          refine S.valg (dj := 90) hA (by kernel_rfl) rfl (R.move rfl) rfl ?_; clear hA a; intro a hA
          refine S.valg (dj := 90) hA (by kernel_rfl) rfl (R.tt (R.geq rfl rfl) (by omega)) rfl ?_; clear hA a; intro a hA
          refine S.val hA (R.pickT rfl rfl) rfl ?_; clear hA a; intro a hA
          refine S.val hA (R.assign rfl) rfl ?_; clear hA a; intro a hA
          refine S.done ?_
          replace hA : St 94 [(6, _)] a := hA.sub ((.cons rfl .nil))
          refine Ends.ret1 Try.func12 Try.results12 hA rfl ?_
          exact ⟨rfl, hM.below⟩
        ·
          refine Ends.skip ?_
          refine Ends.seq ?_
          refine Ends.region ?_
          refine S.call hA (R.callF Try.func42 rfl rfl rfl) rfl (cells16 _) ?_; clear hA a
          rintro e w11 ⟨rfl, hb⟩
          replace hM := hM.callB hb; clear hb
          refine ⟨.bool true, rfl, fun a hA => ?_⟩
          refine S.val hA (R.move rfl) rfl ?_; clear hA a; intro a hA
          refine S.valg (dj := 46) hA (by kernel_rfl) rfl (R.move rfl) rfl ?_; clear hA a; intro a hA
          refine S.valg (dj := 46) hA (by kernel_rfl) rfl (R.move rfl) rfl ?_; clear hA a; intro a hA
          refine S.valg (dj := 46) hA (by kernel_rfl) rfl (R.move rfl) rfl ?_; clear hA a; intro a hA
          refine S.callg (dj := 46) hA (by kernel_rfl) rfl (R.callF Try.func43 rfl rfl rfl) rfl (rpack_any v p _) ?_; clear hA a
          rintro e w12 ⟨rfl, rfl⟩
          refine ⟨.int .i64 (packI v p), rfl, fun a hA => ?_⟩
          refine S.valg (dj := 46) hA (by kernel_rfl) rfl (R.tt (R.eql rfl rfl) (rfl)) rfl ?_; clear hA a; intro a hA
          refine S.val hA (R.pickT rfl rfl) rfl ?_; clear hA a; intro a hA
          refine S.val hA (R.move rfl) rfl ?_; clear hA a; intro a hA
          refine S.valg (dj := 53) hA (by kernel_rfl) rfl (R.move rfl) rfl ?_; clear hA a; intro a hA
          refine S.valg (dj := 53) hA (by kernel_rfl) rfl (R.move rfl) rfl ?_; clear hA a; intro a hA
          refine S.valg (dj := 53) hA (by kernel_rfl) rfl (R.addI rfl rfl (r := ((packI v p) / 4294967296 % 1073741824) + 1) rfl (by omega)) rfl ?_; clear hA a; intro a hA
          refine S.valg (dj := 53) hA (by kernel_rfl) rfl (R.move rfl) rfl ?_; clear hA a; intro a hA
          refine S.callg (dj := 53) hA (by kernel_rfl) rfl (R.callF Try.func43 rfl rfl rfl) rfl (rpack_any (((packI v p) / 4294967296 % 1073741824) + 1) o _) ?_; clear hA a
          rintro e w13 ⟨rfl, rfl⟩
          refine ⟨.int .i64 (packI (((packI v p) / 4294967296 % 1073741824) + 1) o), rfl, fun a hA => ?_⟩
          refine S.valg (dj := 53) hA (by kernel_rfl) rfl (R.tt (R.eql rfl rfl) (rfl)) rfl ?_; clear hA a; intro a hA
          refine S.val hA (R.pickT rfl rfl) rfl ?_; clear hA a; intro a hA
          refine S.val hA (R.move rfl) rfl ?_; clear hA a; intro a hA
          refine S.valg (dj := 61) hA (by kernel_rfl) rfl (R.move rfl) rfl ?_; clear hA a; intro a hA
          refine S.valg (dj := 61) hA (by kernel_rfl) rfl (R.move rfl) rfl ?_; clear hA a; intro a hA
          refine S.valg (dj := 61) hA (by kernel_rfl) rfl (R.tt (R.eql rfl rfl) (by omega)) rfl ?_; clear hA a; intro a hA
          refine S.val hA (R.pickT rfl rfl) rfl ?_; clear hA a; intro a hA
          refine S.val hA (R.move rfl) rfl ?_; clear hA a; intro a hA
          refine S.valg (dj := 66) hA (by kernel_rfl) rfl (R.move rfl) rfl ?_; clear hA a; intro a hA
          refine S.valg (dj := 66) hA (by kernel_rfl) rfl (R.move rfl) rfl ?_; clear hA a; intro a hA
          refine S.valg (dj := 66) hA (by kernel_rfl) rfl (R.tt (R.eql rfl rfl) (by omega)) rfl ?_; clear hA a; intro a hA
          refine S.val hA (R.pickT rfl rfl) rfl ?_; clear hA a; intro a hA
          refine S.val hA (R.move rfl) rfl ?_; clear hA a; intro a hA
          refine S.valg (dj := 71) hA (by kernel_rfl) rfl (R.move rfl) rfl ?_; clear hA a; intro a hA
          refine S.valg (dj := 71) hA (by kernel_rfl) rfl (R.move rfl) rfl ?_; clear hA a; intro a hA
          refine S.callg (dj := 71) hA (by kernel_rfl) rfl (R.callF Try.func39 rfl rfl rfl) rfl (pack_any ((packI v p) / 4294967296 % 1073741824) ((packI v p) % 4294967296 - 1) (by omega) (by omega) _) ?_; clear hA a
          rintro e w14 ⟨rfl, rfl⟩
          refine ⟨.int .i64 (packI ((packI v p) / 4294967296 % 1073741824) ((packI v p) % 4294967296 - 1)), rfl, fun a hA => ?_⟩
          refine S.valg (dj := 71) hA (by kernel_rfl) rfl (R.move rfl) rfl ?_; clear hA a; intro a hA
          refine S.valg (dj := 71) hA (by kernel_rfl) rfl (R.tt (R.eql rfl rfl) (g)) rfl ?_; clear hA a; intro a hA
          refine S.val hA (R.pickT rfl rfl) rfl ?_; clear hA a; intro a hA
          refine S.val hA (R.move rfl) rfl ?_; clear hA a; intro a hA
          refine S.valg (dj := 78) hA (by kernel_rfl) rfl (R.move rfl) rfl ?_; clear hA a; intro a hA
          refine S.valg (dj := 78) hA (by kernel_rfl) rfl (R.move rfl) rfl ?_; clear hA a; intro a hA
          refine S.valg (dj := 78) hA (by kernel_rfl) rfl (R.addI rfl rfl (r := ((packI v p) / 4294967296 % 1073741824) + 1) rfl (by omega)) rfl ?_; clear hA a; intro a hA
          refine S.valg (dj := 78) hA (by kernel_rfl) rfl (R.remI rfl rfl rfl (by omega)) rfl ?_; clear hA a; intro a hA
          refine S.valg (dj := 78) hA (by kernel_rfl) rfl (R.tt (R.eql rfl rfl) (by omega)) rfl ?_; clear hA a; intro a hA
          refine S.val hA (R.pickT rfl rfl) rfl ?_; clear hA a; intro a hA
          refine S.val hA (R.move rfl) rfl ?_; clear hA a; intro a hA
          refine S.valg (dj := 85) hA (by kernel_rfl) rfl (R.move rfl) rfl ?_; clear hA a; intro a hA
          refine S.valg (dj := 85) hA (by kernel_rfl) rfl (R.move rfl) rfl ?_; clear hA a; intro a hA
          refine S.valg (dj := 85) hA (by kernel_rfl) rfl (R.tt (R.neq rfl rfl) (by omega)) rfl ?_; clear hA a; intro a hA
          refine S.val hA (R.pickT rfl rfl) rfl ?_; clear hA a; intro a hA
          refine S.val hA (R.move rfl) rfl ?_; clear hA a; intro a hA
          refine S.valg (dj := 90) hA (by kernel_rfl) rfl (R.move rfl) rfl ?_; clear hA a; intro a hA
          refine S.valg (dj := 90) hA (by kernel_rfl) rfl (R.tt (R.geq rfl rfl) (by omega)) rfl ?_; clear hA a; intro a hA
          refine S.val hA (R.pickT rfl rfl) rfl ?_; clear hA a; intro a hA
          refine S.val hA (R.assign rfl) rfl ?_; clear hA a; intro a hA
          refine S.done ?_
          replace hA : St 94 [(6, _)] a := hA.sub ((.cons rfl .nil))
          refine Ends.ret1 Try.func12 Try.results12 hA rfl ?_
          exact ⟨rfl, hM.below⟩
      ·
        refine Ends.region ?_
        refine S.val hA (R.move rfl) rfl ?_; clear hA a; intro a hA
        refine S.val hA (R.lss rfl rfl) rfl ?_; clear hA a; intro a hA
        refine S.val hA (R.move rfl) rfl ?_; clear hA a; intro a hA
        refine hA.split (d := 41) rfl ?_ ?_
        · clear hA; intro hg3 hA
          refine S.no (dj := 41) hA (by kernel_rfl) rfl rfl rfl ?_; clear hA a; intro a hA
          refine S.no (dj := 41) hA (by kernel_rfl) rfl rfl rfl ?_; clear hA a; intro a hA
          refine S.val hA (R.pickT rfl rfl) rfl ?_; clear hA a; intro a hA
          refine S.done ?_
          replace hA : St 94 [(0, _), (1, _), (2, _), (6, _), (7, _), (8, _), (9, _), (10, _), (11, _), (12, _), (13, _), (14, _), (44, _)] a := hA.sub ((.cons rfl (.cons rfl (.cons rfl (.cons rfl (.cons rfl (.cons rfl (.cons rfl (.cons rfl (.cons rfl (.cons rfl (.cons rfl (.cons rfl (.cons rfl .nil))))))))))))))
          exact hJ _ _ ⟨hA.sub (.cons rfl (.cons rfl (.cons rfl (.cons rfl (.cons rfl (.cons rfl (.cons rfl (.cons rfl (.cons rfl (.cons rfl (.cons rfl (.cons rfl (.cons (by first | rfl | exact congrArg (fun b => some (Value.bool b)) (by simp [hg3])) .nil))))))))))))), hM⟩
        · clear hA; intro hg3 hA
          refine S.valg (dj := 41) hA (by kernel_rfl) rfl (R.move rfl) rfl ?_; clear hA a; intro a hA
          refine S.valg (dj := 41) hA (by kernel_rfl) rfl (R.gtr rfl rfl) rfl ?_; clear hA a; intro a hA
          refine S.val hA (R.pickF rfl rfl) rfl ?_; clear hA a; intro a hA
          refine S.done ?_
          replace hA : St 94 [(0, _), (1, _), (2, _), (6, _), (7, _), (8, _), (9, _), (10, _), (11, _), (12, _), (13, _), (14, _), (44, _)] a := hA.sub ((.cons rfl (.cons rfl (.cons rfl (.cons rfl (.cons rfl (.cons rfl (.cons rfl (.cons rfl (.cons rfl (.cons rfl (.cons rfl (.cons rfl (.cons rfl .nil))))))))))))))
          exact hJ _ _ ⟨hA.sub (.cons rfl (.cons rfl (.cons rfl (.cons rfl (.cons rfl (.cons rfl (.cons rfl (.cons rfl (.cons rfl (.cons rfl (.cons rfl (.cons rfl (.cons (by first | rfl | exact congrArg (fun b => some (Value.bool b)) (by simp [hg3])) .nil))))))))))))), hM⟩
    ·
      refine Ends.skip ?_
      refine Ends.seq ?_
      refine Ends.region ?_
      refine S.val hA (R.move rfl) rfl ?_; clear hA a; intro a hA
      refine S.val hA (R.assign rfl) rfl ?_; clear hA a; intro a hA
      refine S.done ?_
      replace hA : St 94 [(0, _), (1, _), (2, _), (6, _), (7, _), (8, _), (9, _), (10, _), (11, _), (12, _), (13, _), (14, _)] a := hA.sub ((.cons rfl (.cons rfl (.cons rfl (.cons rfl (.cons rfl (.cons rfl (.cons rfl (.cons rfl (.cons rfl (.cons rfl (.cons rfl (.cons rfl .nil)))))))))))))
      refine Ends.seq ?_
      refine Ends.seq ?_
      refine Ends.cut (fun (a : Act) (wv : World) => St 94 [(0, .int .i64 v), (1, .int .i64 p), (2, .int .i64 o), (6, .bool false), (7, .int .i64 (packI v p)), (8, .int .i64 ((packI v p) / 4294967296 % 1073741824)), (9, .int .i64 ((packI v p) % 4294967296 - 1)), (10, .int .i64 (packI ((packI v p) / 4294967296 % 1073741824 + 1) o)), (11, .int .i64 ((packI ((packI v p) / 4294967296 % 1073741824 + 1) o) / 4294967296 % 1073741824)), (12, .int .i64 ((packI ((packI v p) / 4294967296 % 1073741824 + 1) o) % 4294967296 - 1)), (13, .int .i64 p), (14, .int .i64 o), (44, .bool (decide ((o < 0 ∨ 2147483646 < o))))] a ∧ Mem w nof [] wv) ?_ (fun k2 hJ => ?_)
      · clear hA hM a; rintro a w15 ⟨hA, hM⟩
        refine Ends.ite hA rfl (fun hc4 => ?_) (fun hc4 => ?_)
        ·
          refine Ends.region ?_
          refine S.val hA (R.assign rfl) rfl ?_; clear hA a; intro a hA
          refine S.done ?_
          replace hA : St 94 [(0, _), (1, _), (2, _), (6, _), (7, _), (8, _), (9, _), (10, _), (11, _), (12, _), (13, _), (14, _)] a := hA.sub ((.cons rfl (.cons rfl (.cons rfl (.cons rfl (.cons rfl (.cons rfl (.cons rfl (.cons rfl (.cons rfl (.cons rfl (.cons rfl (.cons rfl .nil)))))))))))))
          refine Ends.seq ?_
          refine Ends.region ?_
          refine S.call hA (R.callF Try.func42 rfl rfl rfl) rfl (cells16 _) ?_; clear hA a
          rintro e w16 ⟨rfl, hb⟩
          replace hM := hM.callB hb; clear hb
          refine ⟨.bool true, rfl, fun a hA => ?_⟩
          refine S.val hA (R.move rfl) rfl ?_; clear hA a; intro a hA
          refine S.valg (dj := 46) hA (by kernel_rfl) rfl (R.move rfl) rfl ?_; clear hA a; intro a hA
          refine S.valg (dj := 46) hA (by kernel_rfl) rfl (R.move rfl) rfl ?_; clear hA a; intro a hA
          refine S.valg (dj := 46) hA (by kernel_rfl) rfl (R.move rfl) rfl ?_; clear hA a; intro a hA
          refine S.callg (dj := 46) hA (by kernel_rfl) rfl (R.callF Try.func43 rfl rfl rfl) rfl (rpack_any v p _) ?_; clear hA a
          rintro e w17 ⟨rfl, rfl⟩
          refine ⟨.int .i64 (packI v p), rfl, fun a hA => ?_⟩
          refine S.valg (dj := 46) hA (by kernel_rfl) rfl (R.tt (R.eql rfl rfl) (rfl)) rfl ?_; clear hA a; intro a hA
          refine S.val hA (R.pickT rfl rfl) rfl ?_; clear hA a; intro a hA
          refine S.val hA (R.move rfl) rfl ?_; clear hA a; intro a hA
          refine S.valg (dj := 53) hA (by kernel_rfl) rfl (R.move rfl) rfl ?_; clear hA a; intro a hA
          refine S.valg (dj := 53) hA (by kernel_rfl) rfl (R.move rfl) rfl ?_; clear hA a; intro a hA
          refine S.valg (dj := 53) hA (by kernel_rfl) rfl (R.addI rfl rfl (r := ((packI v p) / 4294967296 % 1073741824) + 1) rfl (by omega)) rfl ?_; clear hA a; intro a hA
          refine S.valg (dj := 53) hA (by kernel_rfl) rfl (R.move rfl) rfl ?_; clear hA a; intro a hA
          refine S.callg (dj := 53) hA (by kernel_rfl) rfl (R.callF Try.func43 rfl rfl rfl) rfl (rpack_any (((packI v p) / 4294967296 % 1073741824) + 1) o _) ?_; clear hA a
          rintro e w18 ⟨rfl, rfl⟩
          refine ⟨.int .i64 (packI (((packI v p) / 4294967296 % 1073741824) + 1) o), rfl, fun a hA => ?_⟩
          refine S.valg (dj := 53) hA (by kernel_rfl) rfl (R.tt (R.eql rfl rfl) (rfl)) rfl ?_; clear hA a; intro a hA
          refine S.val hA (R.pickT rfl rfl) rfl ?_; clear hA a; intro a hA
          refine S.val hA (R.move rfl) rfl ?_; clear hA a; intro a hA
          refine S.valg (dj := 61) hA (by kernel_rfl) rfl (R.move rfl) rfl ?_; clear hA a; intro a hA
          refine S.valg (dj := 61) hA (by kernel_rfl) rfl (R.move rfl) rfl ?_; clear hA a; intro a hA
          refine S.valg (dj := 61) hA (by kernel_rfl) rfl (R.tt (R.eql rfl rfl) (by omega)) rfl ?_; clear hA a; intro a hA
          refine S.val hA (R.pickT rfl rfl) rfl ?_; clear hA a; intro a hA
          refine S.val hA (R.move rfl) rfl ?_; clear hA a; intro a hA
          refine S.valg (dj := 66) hA (by kernel_rfl) rfl (R.move rfl) rfl ?_; clear hA a; intro a hA
          refine S.valg (dj := 66) hA (by kernel_rfl) rfl (R.move rfl) rfl ?_; clear hA a; intro a hA
          refine S.valg (dj := 66) hA (by kernel_rfl) rfl (R.tt (R.eql rfl rfl) (by omega)) rfl ?_; clear hA a; intro a hA
          refine S.val hA (R.pickT rfl rfl) rfl ?_; clear hA a; intro a hA
          refine S.val hA (R.move rfl) rfl ?_; clear hA a; intro a hA
          refine S.valg (dj := 71) hA (by kernel_rfl) rfl (R.move rfl) rfl ?_; clear hA a; intro a hA
          refine S.valg (dj := 71) hA (by kernel_rfl) rfl (R.move rfl) rfl ?_; clear hA a; intro a hA
          refine S.callg (dj := 71) hA (by kernel_rfl) rfl (R.callF Try.func39 rfl rfl rfl) rfl (pack_any ((packI v p) / 4294967296 % 1073741824) ((packI v p) % 4294967296 - 1) (by omega) (by omega) _) ?_; clear hA a
          rintro e w19 ⟨rfl, rfl⟩
          refine ⟨.int .i64 (packI ((packI v p) / 4294967296 % 1073741824) ((packI v p) % 4294967296 - 1)), rfl, fun a hA => ?_⟩
          refine S.valg (dj := 71) hA (by kernel_rfl) rfl (R.move rfl) rfl ?_; clear hA a; intro a hA
          refine S.valg (dj := 71) hA (by kernel_rfl) rfl (R.tt (R.eql rfl rfl) (g)) rfl ?_; clear hA a; intro a hA
          refine S.val hA (R.pickT rfl rfl) rfl ?_; clear hA a; intro a hA
          refine S.val hA (R.move rfl) rfl ?_; clear hA a; intro a hA
          refine S.valg (dj := 78) hA (by kernel_rfl) rfl (R.move rfl) rfl ?_; clear hA a; intro a hA
          refine S.valg (dj := 78) hA (by kernel_rfl) rfl (R.move rfl) rfl ?_; clear hA a; intro a hA
          refine S.valg (dj := 78) hA (by kernel_rfl) rfl (R.addI rfl rfl (r := ((packI v p) / 4294967296 % 1073741824) + 1) rfl (by omega)) rfl ?_; clear hA a; intro a hA
          refine S.valg (dj := 78) hA (by kernel_rfl) rfl (R.remI rfl rfl rfl (by omega)) rfl ?_; clear hA a; intro a hA
          refine S.valg (dj := 78) hA (by kernel_rfl) rfl (R.tt (R.eql rfl rfl) (by omega)) rfl ?_; clear hA a; intro a hA
          refine S.val hA (R.pickT rfl rfl) rfl ?_; clear hA a; intro a hA
          refine S.val hA (R.move rfl) rfl ?_; clear hA a; intro a hA
          refine S.valg (dj := 85) hA (by kernel_rfl) rfl (R.move rfl) rfl ?_; clear hA a; intro a hA
          refine S.valg (dj := 85) hA (by kernel_rfl) rfl (R.move rfl) rfl ?_; clear hA a; intro a hA
          refine S.valg (dj := 85) hA (by kernel_rfl) rfl (R.tt (R.neq rfl rfl) (by omega)) rfl ?_; clear hA a; intro a hA
          refine S.val hA (R.pickT rfl rfl) rfl ?_; clear hA a; intro a hA
          refine S.val hA (R.move rfl) rfl ?_; clear hA a; intro a hA
          refine S.valg (dj := 90) hA (by kernel_rfl) rfl (R.move rfl) rfl ?_; clear hA a; intro a hA
          refine S.valg (dj := 90) hA (by kernel_rfl) rfl (R.tt (R.geq rfl rfl) (by omega)) rfl ?_; clear hA a; intro a hA
          refine S.val hA (R.pickT rfl rfl) rfl ?_; clear hA a; intro a hA
          refine S.val hA (R.assign rfl) rfl ?_; clear hA a; intro a hA
          refine S.done ?_
          replace hA : St 94 [(6, _)] a := hA.sub ((.cons rfl .nil))
          refine Ends.ret1 Try.func12 Try.results12 hA rfl ?_
          exact ⟨rfl, hM.below⟩
        ·
          refine Ends.skip ?_
          refine Ends.seq ?_
          refine Ends.region ?_
          refine S.call hA (R.callF Try.func42 rfl rfl rfl) rfl (cells16 _) ?_; clear hA a
          rintro e w20 ⟨rfl, hb⟩
          replace hM := hM.callB hb; clear hb
          refine ⟨.bool true, rfl, fun a hA => ?_⟩
          refine S.val hA (R.move rfl) rfl ?_; clear hA a; intro a hA
          refine S.valg (dj := 46) hA (by kernel_rfl) rfl (R.move rfl) rfl ?_; clear hA a; intro a hA
          refine S.valg (dj := 46) hA (by kernel_rfl) rfl (R.move rfl) rfl ?_; clear hA a; intro a hA
          refine S.valg (dj := 46) hA (by kernel_rfl) rfl (R.move rfl) rfl ?_; clear hA a; intro a hA
          refine S.callg (dj := 46) hA (by kernel_rfl) rfl (R.callF Try.func43 rfl rfl rfl) rfl (rpack_any v p _) ?_; clear hA a
          rintro e w21 ⟨rfl, rfl⟩
          refine ⟨.int .i64 (packI v p), rfl, fun a hA => ?_⟩
          refine S.valg (dj := 46) hA (by kernel_rfl) rfl (R.tt (R.eql rfl rfl) (rfl)) rfl ?_; clear hA a; intro a hA
          refine S.val hA (R.pickT rfl rfl) rfl ?_; clear hA a; intro a hA
          refine S.val hA (R.move rfl) rfl ?_; clear hA a; intro a hA
          refine S.valg (dj := 53) hA (by kernel_rfl) rfl (R.move rfl) rfl ?_; clear hA a; intro a hA
          refine S.valg (dj := 53) hA (by kernel_rfl) rfl (R.move rfl) rfl ?_; clear hA a; intro a hA
          refine S.valg (dj := 53) hA (by kernel_rfl) rfl (R.addI rfl rfl (r := ((packI v p) / 4294967296 % 1073741824) + 1) rfl (by omega)) rfl ?_; clear hA a; intro a hA
          refine S.valg (dj := 53) hA (by kernel_rfl) rfl (R.move rfl) rfl ?_; clear hA a; intro a hA
          refine S.callg (dj := 53) hA (by kernel_rfl) rfl (R.callF Try.func43 rfl rfl rfl) rfl (rpack_any (((packI v p) / 4294967296 % 1073741824) + 1) o _) ?_; clear hA a
          rintro e w22 ⟨rfl, rfl⟩
          refine ⟨.int .i64 (packI (((packI v p) / 4294967296 % 1073741824) + 1) o), rfl, fun a hA => ?_⟩
          refine S.valg (dj := 53) hA (by kernel_rfl) rfl (R.tt (R.eql rfl rfl) (rfl)) rfl ?_; clear hA a; intro a hA
          refine S.val hA (R.pickT rfl rfl) rfl ?_; clear hA a; intro a hA
          refine S.val hA (R.move rfl) rfl ?_; clear hA a; intro a hA
          refine S.valg (dj := 61) hA (by kernel_rfl) rfl (R.move rfl) rfl ?_; clear hA a; intro a hA
          refine S.valg (dj := 61) hA (by kernel_rfl) rfl (R.move rfl) rfl ?_; clear hA a; intro a hA
          refine S.valg (dj := 61) hA (by kernel_rfl) rfl (R.tt (R.eql rfl rfl) (by omega)) rfl ?_; clear hA a; intro a hA
          refine S.val hA (R.pickT rfl rfl) rfl ?_; clear hA a; intro a hA
          refine S.val hA (R.move rfl) rfl ?_; clear hA a; intro a hA
          refine S.valg (dj := 66) hA (by kernel_rfl) rfl (R.move rfl) rfl ?_; clear hA a; intro a hA
          refine S.valg (dj := 66) hA (by kernel_rfl) rfl (R.move rfl) rfl ?_; clear hA a; intro a hA
          refine S.valg (dj := 66) hA (by kernel_rfl) rfl (R.tt (R.eql rfl rfl) (by omega)) rfl ?_; clear hA a; intro a hA
          refine S.val hA (R.pickT rfl rfl) rfl ?_; clear hA a; intro a hA
          refine S.val hA (R.move rfl) rfl ?_; clear hA a; intro a hA
          refine S.valg (dj := 71) hA (by kernel_rfl) rfl (R.move rfl) rfl ?_; clear hA a; intro a hA
          refine S.valg (dj := 71) hA (by kernel_rfl) rfl (R.move rfl) rfl ?_; clear hA a; intro a hA
          refine S.callg (dj := 71) hA (by kernel_rfl) rfl (R.callF Try.func39 rfl rfl rfl) rfl (pack_any ((packI v p) / 4294967296 % 1073741824) ((packI v p) % 4294967296 - 1) (by omega) (by omega) _) ?_; clear hA a
          rintro e w23 ⟨rfl, rfl⟩
          refine ⟨.int .i64 (packI ((packI v p) / 4294967296 % 1073741824) ((packI v p) % 4294967296 - 1)), rfl, fun a hA => ?_⟩
          refine S.valg (dj := 71) hA (by kernel_rfl) rfl (R.move rfl) rfl ?_; clear hA a; intro a hA
          refine S.valg (dj := 71) hA (by kernel_rfl) rfl (R.tt (R.eql rfl rfl) (g)) rfl ?_; clear hA a; intro a hA
          refine S.val hA (R.pickT rfl rfl) rfl ?_; clear hA a; intro a hA
          refine S.val hA (R.move rfl) rfl ?_; clear hA a; intro a hA
          refine S.valg (dj := 78) hA (by kernel_rfl) rfl (R.move rfl) rfl ?_; clear hA a; intro a hA
          refine S.valg (dj := 78) hA (by kernel_rfl) rfl (R.move rfl) rfl ?_; clear hA a; intro a hA
          refine S.valg (dj := 78) hA (by kernel_rfl) rfl (R.addI rfl rfl (r := ((packI v p) / 4294967296 % 1073741824) + 1) rfl (by omega)) rfl ?_; clear hA a; intro a hA
          refine S.valg (dj := 78) hA (by kernel_rfl) rfl (R.remI rfl rfl rfl (by omega)) rfl ?_; clear hA a; intro a hA
          refine S.valg (dj := 78) hA (by kernel_rfl) rfl (R.tt (R.eql rfl rfl) (by omega)) rfl ?_; clear hA a; intro a hA
          refine S.val hA (R.pickT rfl rfl) rfl ?_; clear hA a; intro a hA
          refine S.val hA (R.move rfl) rfl ?_; clear hA a; intro a hA
          refine S.valg (dj := 85) hA (by kernel_rfl) rfl (R.move rfl) rfl ?_; clear hA a; intro a hA
          refine S.valg (dj := 85) hA (by kernel_rfl) rfl (R.move rfl) rfl ?_; clear hA a; intro a hA
          refine S.valg (dj := 85) hA (by kernel_rfl) rfl (R.tt (R.neq rfl rfl) (by omega)) rfl ?_; clear hA a; intro a hA
          refine S.val hA (R.pickT rfl rfl) rfl ?_; clear hA a; intro a hA
          refine S.val hA (R.move rfl) rfl ?_; clear hA a; intro a hA
          refine S.valg (dj := 90) hA (by kernel_rfl) rfl (R.move rfl) rfl ?_; clear hA a; intro a hA
          refine S.valg (dj := 90) hA (by kernel_rfl) rfl (R.tt (R.geq rfl rfl) (by omega)) rfl ?_; clear hA a; intro a hA
          refine S.val hA (R.pickT rfl rfl) rfl ?_; clear hA a; intro a hA
          refine S.val hA (R.assign rfl) rfl ?_; clear hA a; intro a hA
          refine S.done ?_
          replace hA : St 94 [(6, _)] a := hA.sub ((.cons rfl .nil))
          refine Ends.ret1 Try.func12 Try.results12 hA rfl ?_
          exact ⟨rfl, hM.below⟩
      ·
        refine Ends.region ?_
        refine S.val hA (R.move rfl) rfl ?_; clear hA a; intro a hA
        refine S.val hA (R.lss rfl rfl) rfl ?_; clear hA a; intro a hA
        refine S.val hA (R.move rfl) rfl ?_; clear hA a; intro a hA
        refine hA.split (d := 41) rfl ?_ ?_
        · clear hA; intro hg5 hA
          refine S.no (dj := 41) hA (by kernel_rfl) rfl rfl rfl ?_; clear hA a; intro a hA
          refine S.no (dj := 41) hA (by kernel_rfl) rfl rfl rfl ?_; clear hA a; intro a hA
          refine S.val hA (R.pickT rfl rfl) rfl ?_; clear hA a; intro a hA
          refine S.done ?_
          replace hA : St 94 [(0, _), (1, _), (2, _), (6, _), (7, _), (8, _), (9, _), (10, _), (11, _), (12, _), (13, _), (14, _), (44, _)] a := hA.sub ((.cons rfl (.cons rfl (.cons rfl (.cons rfl (.cons rfl (.cons rfl (.cons rfl (.cons rfl (.cons rfl (.cons rfl (.cons rfl (.cons rfl (.cons rfl .nil))))))))))))))
          exact hJ _ _ ⟨hA.sub (.cons rfl (.cons rfl (.cons rfl (.cons rfl (.cons rfl (.cons rfl (.cons rfl (.cons rfl (.cons rfl (.cons rfl (.cons rfl (.cons rfl (.cons (by first | rfl | exact congrArg (fun b => some (Value.bool b)) (by simp [hg5])) .nil))))))))))))), hM⟩
        · clear hA; intro hg5 hA
          refine S.valg (dj := 41) hA (by kernel_rfl) rfl (R.move rfl) rfl ?_; clear hA a; intro a hA
          refine S.valg (dj := 41) hA (by kernel_rfl) rfl (R.gtr rfl rfl) rfl ?_; clear hA a; intro a hA
          refine S.val hA (R.pickF rfl rfl) rfl ?_; clear hA a; intro a hA
          refine S.done ?_
          replace hA : St 94 [(0, _), (1, _), (2, _), (6, _), (7, _), (8, _), (9, _), (10, _), (11, _), (12, _), (13, _), (14, _), (44, _)] a := hA.sub ((.cons rfl (.cons rfl (.cons rfl (.cons rfl (.cons rfl (.cons rfl (.cons rfl (.cons rfl (.cons rfl (.cons rfl (.cons rfl (.cons rfl (.cons rfl .nil))))))))))))))
          exact hJ _ _ ⟨hA.sub (.cons rfl (.cons rfl (.cons rfl (.cons rfl (.cons rfl (.cons rfl (.cons rfl (.cons rfl (.cons rfl (.cons rfl (.cons rfl (.cons rfl (.cons (by first | rfl | exact congrArg (fun b => some (Value.bool b)) (by simp [hg5])) .nil))))))))))))), hM⟩
  ·
    refine Ends.region ?_
    refine S.val hA (R.move rfl) rfl ?_; clear hA a; intro a hA
    refine S.val hA (R.lss rfl rfl) rfl ?_; clear hA a; intro a hA
    refine S.val hA (R.move rfl) rfl ?_; clear hA a; intro a hA
    refine hA.split (d := 34) rfl ?_ ?_
    · clear hA; intro hg6 hA
      refine S.no (dj := 34) hA (by kernel_rfl) rfl rfl rfl ?_; clear hA a; intro a hA
      refine S.no (dj := 34) hA (by kernel_rfl) rfl rfl rfl ?_; clear hA a; intro a hA
      refine S.val hA (R.pickT rfl rfl) rfl ?_; clear hA a; intro a hA
      refine S.done ?_
      replace hA : St 94 [(0, _), (1, _), (2, _), (6, _), (7, _), (8, _), (9, _), (10, _), (11, _), (12, _), (13, _), (37, _)] a := hA.sub ((.cons rfl (.cons rfl (.cons rfl (.cons rfl (.cons rfl (.cons rfl (.cons rfl (.cons rfl (.cons rfl (.cons rfl (.cons rfl (.cons rfl .nil)))))))))))))
      exact hJ _ _ ⟨hA.sub (.cons rfl (.cons rfl (.cons rfl (.cons rfl (.cons rfl (.cons rfl (.cons rfl (.cons rfl (.cons rfl (.cons rfl (.cons rfl (.cons (by first | rfl | exact congrArg (fun b => some (Value.bool b)) (by simp [hg6])) .nil)))))))))))), hM⟩
    · clear hA; intro hg6 hA
      refine S.valg (dj := 34) hA (by kernel_rfl) rfl (R.move rfl) rfl ?_; clear hA a; intro a hA
      refine S.valg (dj := 34) hA (by kernel_rfl) rfl (R.gtr rfl rfl) rfl ?_; clear hA a; intro a hA
      refine S.val hA (R.pickF rfl rfl) rfl ?_; clear hA a; intro a hA
      refine S.done ?_
      replace hA : St 94 [(0, _), (1, _), (2, _), (6, _), (7, _), (8, _), (9, _), (10, _), (11, _), (12, _), (13, _), (37, _)] a := hA.sub ((.cons rfl (.cons rfl (.cons rfl (.cons rfl (.cons rfl (.cons rfl (.cons rfl (.cons rfl (.cons rfl (.cons rfl (.cons rfl (.cons rfl .nil)))))))))))))
      exact hJ _ _ ⟨hA.sub (.cons rfl (.cons rfl (.cons rfl (.cons rfl (.cons rfl (.cons rfl (.cons rfl (.cons rfl (.cons rfl (.cons rfl (.cons rfl (.cons (by first | rfl | exact congrArg (fun b => some (Value.bool b)) (by simp [hg6])) .nil)))))))))))), hM⟩
end Go.Proofs.Ytlkemphhbamcfaa
