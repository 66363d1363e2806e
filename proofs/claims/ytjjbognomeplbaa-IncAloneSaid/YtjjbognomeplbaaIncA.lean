/-
  The law IncAlone: one worker alone.
-/
import Derived.Test.YtjjbognomeplbaaIncN
import Derived.Test.YtjjbognomeplbaaEng6
namespace Go.Proofs.Ytjjbognomeplbaa
open Go.RowKit

set_option maxRecDepth 100000 in
set_option maxHeartbeats 400000 in
theorem incAlone_w (f : Int) (ad : Option Addr) (n cap : Nat) (l : List Int) (hln : n = l.length) (w : World) (hsl : IntSl w (.slice ad n cap) l) :
    Calls Try.prog 8 #[.int .i64 f, .slice ad n cap] w fun e w' => e = .returned (.bool true) ∧ Below w.heap.size w w' := by
  have hM := Mem.start w
  refine Calls.of_ends (vs := [.int .i64 f, .slice ad n cap]) Try.func8 rfl Try.ntmps8 rfl ?_
  intro a hA
  replace hA : St 89 [(0, _), (1, _)] a := hA
  refine Ends.seq ?_
  refine Ends.region ?_
  refine S.val hA (R.assign rfl) rfl ?_; clear hA a; intro a hA
  refine S.done ?_
  replace hA : St 89 [(0, _), (1, _), (4, _)] a := hA.sub ((.cons rfl (.cons rfl (.cons rfl .nil))))
  refine Ends.seq ?_
  refine Ends.region ?_
  refine S.val hA (R.move rfl) rfl ?_; clear hA a; intro a hA
  refine S.val hA (R.conv Try.underlying22 Try.underlying3 rfl) rfl ?_; clear hA a; intro a hA
  refine S.val hA (R.remI rfl rfl rfl ⟨u64_nn _, by decide⟩) rfl ?_; clear hA a; intro a hA
  obtain ⟨n1, hn2, en3⟩ := umod_ex f 1125899906842624 (by decide)
  refine S.val hA (R.to (v := .int .i64 (n1 : Int)) (R.conv Try.underlying3 Try.underlying22 rfl) (congrArg (Value.int .i64) en3)) rfl ?_; clear hA a; intro a hA
  refine S.val hA (R.assign rfl) rfl ?_; clear hA a; intro a hA
  refine S.done ?_
  replace hA : St 89 [(0, _), (1, _), (4, _)] a := hA.sub ((.cons rfl (.cons rfl (.cons rfl .nil))))
  refine Ends.seq ?_
  refine Ends.region ?_
  refine S.val hA (R.move rfl) rfl ?_; clear hA a; intro a hA
  replace hM := hM.ownNil 3 1
  replace hM : Mem _ _ [own 3 1 (.slice none ((([] : List Int)).length) 0) ((([] : List Int)).length) ((([] : List Int)).map (Value.int .i64))] _ := hM
  refine S.call hA (R.callF Try.func38 rfl rfl rfl) rfl (ifresh_any 1 ((n1 : Int)) none (([] : List Int)) 0 (by first | omega | decide | (simp; done) | (simp; omega)) (by first | omega | decide | (simp; done) | (simp; omega)) (by first | omega | decide | (simp; done) | (simp; omega)) _ (hM.hereN 1)) ?_; clear hA a
  rintro e w1 ⟨q4, m5, c6, pl7, a8, c9, rfl, hm5c6, hn⟩
  replace hM : Mem _ _ [pt q4 #[.pointer (some ⟨m5, 0, none⟩), .int .i64 1, .int .i64 1, .slice (some ⟨pl7, 0, none⟩) 3 3] 119, pt pl7 #[.slice none 0 0, .slice none 0 0, .slice a8 ((([] : List Int)).length) c9] 43, own 3 1 (.slice a8 ((([] : List Int)).length) c9) ((([] : List Int)).length) ((([] : List Int)).map (Value.int .i64)), memO m5 c6 [0, ((n1 : Int)) * 64 + 2, 0] 1 ⟨2, 1, 0, ((n1 : Int)) * 64 + 2, true⟩] _ := hM.callL 1 hn; clear hn
  refine ⟨.tuple #[.pointer (some ⟨q4, 0, none⟩), .pointer (some ⟨m5, 0, none⟩), .bool true], rfl, fun a hA => ?_⟩
  refine S.val hA (R.move rfl) rfl ?_; clear hA a; intro a hA
  refine S.val hA (R.extract (v := .pointer (some ⟨q4, 0, none⟩)) rfl rfl) rfl ?_; clear hA a; intro a hA
  refine S.val hA (R.extract (v := .pointer (some ⟨m5, 0, none⟩)) rfl rfl) rfl ?_; clear hA a; intro a hA
  refine S.val hA (R.extract (v := .bool true) rfl rfl) rfl ?_; clear hA a; intro a hA
  refine S.val hA (R.assign rfl) rfl ?_; clear hA a; intro a hA
  refine S.val hA (R.assign rfl) rfl ?_; clear hA a; intro a hA
  refine S.val hA (R.assign rfl) rfl ?_; clear hA a; intro a hA
  refine S.done ?_
  replace hA : St 89 [(0, _), (1, _), (4, _), (5, _), (6, _), (7, _)] a := hA.sub ((.cons rfl (.cons rfl (.cons rfl (.cons rfl (.cons rfl (.cons rfl .nil)))))))
  refine Ends.seq ?_
  refine Ends.seq ?_
  refine Ends.region ?_
  refine S.call hA (R.callF Try.func31 rfl rfl rfl) rfl (iincs_any _) ?_; clear hA a
  rintro e w2 ⟨rfl, hb⟩
  replace hM := hM.callB hb; clear hb
  refine ⟨.bool true, rfl, fun a hA => ?_⟩
  refine S.val hA (R.not rfl) rfl ?_; clear hA a; intro a hA
  refine S.val hA (R.move rfl) rfl ?_; clear hA a; intro a hA
  refine S.valg (dj := 27) hA (by kernel_rfl) rfl (R.move rfl) rfl ?_; clear hA a; intro a hA
  refine S.valg (dj := 27) hA (by kernel_rfl) rfl (R.not rfl) rfl ?_; clear hA a; intro a hA
  refine S.val hA (R.pickF rfl rfl) rfl ?_; clear hA a; intro a hA
  refine S.done ?_
  replace hA : St 89 [(0, _), (1, _), (4, _), (5, _), (6, _), (30, _)] a := hA.sub ((.cons rfl (.cons rfl (.cons rfl (.cons rfl (.cons rfl (.cons rfl .nil)))))))
  refine Ends.condF hA rfl ?_
  refine Ends.skip ?_
  refine Ends.seq ?_
  refine Ends.region ?_
  refine S.val hA (R.move rfl) rfl ?_; clear hA a; intro a hA
  refine S.val hA (R.assign rfl) rfl ?_; clear hA a; intro a hA
  refine S.done ?_
  replace hA : St 89 [(1, _), (4, _), (5, _), (6, _), (8, _)] a := hA.sub ((.cons rfl (.cons rfl (.cons rfl (.cons rfl (.cons rfl .nil))))))
  refine Ends.seq ?_
  refine Ends.seq ?_
  refine Ends.region ?_
  refine S.val hA (R.assign rfl) rfl ?_; clear hA a; intro a hA
  refine S.done ?_
  replace hA : St 89 [(1, _), (4, _), (5, _), (6, _), (8, _), (9, _)] a := hA.sub ((.cons rfl (.cons rfl (.cons rfl (.cons rfl (.cons rfl (.cons rfl .nil)))))))
  refine Ends.block ?_
  refine Ends.loop (σ := Nat × Int × Int × Option Addr × List Int × Nat × List Value × Int × CellOp) (fun (k, lst, pp, bv, bX, bc, ls, s, op) (a : Act) (wv : World) => St 89 [(1, .slice ad n cap), (5, .pointer (some ⟨q4, 0, none⟩)), (6, .pointer (some ⟨m5, 0, none⟩)), (8, .int .i64 lst), (9, .int .i64 ((k : Int)))] a ∧ Mem w nof [pt q4 #[.pointer (some ⟨m5, 0, none⟩), .int .i64 1, .int .i64 1, .slice (some ⟨pl7, 0, none⟩) 3 3] 119, pt pl7 ((vals ls)) 43, own 3 1 (.slice bv bX.length bc) bX.length (bX.map (Value.int .i64)), memO m5 c6 [0, lst * 64 + pp, 0] s op] wv ∧ (k ≤ 50) ∧ (ls.length = 3) ∧ (ls[pp.toNat]? = some (.slice bv bX.length bc)) ∧ (0 ≤ pp ∧ pp ≤ 2) ∧ (0 ≤ lst ∧ lst < 1125899906842624) ∧ (1 ≤ s ∧ s ≤ 1 + 4 * k) ∧ (bX.length ≤ 1)) (fun (k, lst, pp, bv, bX, bc, ls, s, op) => n - k) ((0, ((n1 : Int)), 2, a8, ([] : List Int), c9, [.slice none 0 0, .slice none 0 0, .slice a8 ((([] : List Int)).length) c9], 1, ⟨2, 1, 0, ((n1 : Int)) * 64 + 2, true⟩)) ⟨hA.sub ((.cons rfl (.cons rfl (.cons rfl (.cons rfl (.cons rfl .nil)))))), hM, (by omega), rfl, rfl, (by omega), (by omega), (by omega), (by simp)⟩ ?_
  clear hA hM a
  rintro ⟨k, lst, pp, bv, bX, bc, ls, s, op⟩ a w3 ⟨hA, hM, hk, hlen, hls, hpp, hlst, hs, hbX⟩ hNext
  refine Ends.seq ?_
  refine Ends.seq ?_
  refine Ends.cut (fun (a : Act) (wv : World) => St 89 [(1, .slice ad n cap), (5, .pointer (some ⟨q4, 0, none⟩)), (6, .pointer (some ⟨m5, 0, none⟩)), (8, .int .i64 lst), (9, .int .i64 ((k : Int))), (39, .bool (decide ((((k : Int)) < ((n : Int)) ∧ ((k : Int)) < 50))))] a ∧ Mem w nof [pt q4 #[.pointer (some ⟨m5, 0, none⟩), .int .i64 1, .int .i64 1, .slice (some ⟨pl7, 0, none⟩) 3 3] 119, pt pl7 ((vals ls)) 43, own 3 1 (.slice bv bX.length bc) bX.length (bX.map (Value.int .i64)), memO m5 c6 [0, lst * 64 + pp, 0] s op] wv) ?_ (fun k2 hJ => ?_)
  · clear hA hM a; rintro a w4 ⟨hA, hM⟩
    refine Ends.ite hA rfl (fun hc10 => ?_) (fun hc10 => ?_)
    ·
      refine Ends.skip ?_
      refine Ends.seq ?_
      refine Ends.block ?_
      refine Ends.seq ?_
      obtain ⟨g, off, hg, hcell⟩ := hsl.at (i := k) (by omega)
      subst hg
      refine Ends.region ?_
      refine S.val hA (R.move rfl) rfl ?_; clear hA a; intro a hA
      refine S.val hA (R.move rfl) rfl ?_; clear hA a; intro a hA
      refine S.val hA (R.indexAddr (q := off + k) sl43 rfl rfl (by omega) (by omega)) rfl ?_; clear hA a; intro a hA
      refine S.val hA (R.load sz3 rfl (hM.cell0 hcell (fun h => h))) rfl ?_; clear hA a; intro a hA
      refine S.val hA (R.conv Try.underlying22 Try.underlying3 rfl) rfl ?_; clear hA a; intro a hA
      refine S.val hA (R.remI rfl rfl rfl ⟨u64_nn _, by decide⟩) rfl ?_; clear hA a; intro a hA
      obtain ⟨n11, hn12, en13⟩ := umod_ex (l.getD k 0) 1125899906842624 (by decide)
      refine S.val hA (R.to (v := .int .i64 (n11 : Int)) (R.conv Try.underlying3 Try.underlying22 rfl) (congrArg (Value.int .i64) en13)) rfl ?_; clear hA a; intro a hA
      refine S.val hA (R.assign rfl) rfl ?_; clear hA a; intro a hA
      refine S.done ?_
      replace hA : St 89 [(1, _), (5, _), (6, _), (8, _), (9, _), (10, _), (39, _), (42, _), (43, _), (44, _), (45, _), (46, _), (47, _), (48, _)] a := hA.sub ((.cons rfl (.cons rfl (.cons rfl (.cons rfl (.cons rfl (.cons rfl (.cons rfl (.cons rfl (.cons rfl (.cons rfl (.cons rfl (.cons rfl (.cons rfl (.cons rfl .nil)))))))))))))))
      refine Ends.seq ?_
      refine Ends.region ?_
      refine S.val hA (R.move rfl) rfl ?_; clear hA a; intro a hA
      refine S.val hA (R.move rfl) rfl ?_; clear hA a; intro a hA
      refine S.buildSl (cells := #[.int .i64 ((k : Int))]) hA hM Try.underlying43 info3 rfl rfl rfl rfl (by kernel_rfl) rfl ?_; clear hA hM a; intro b14 w5 hb15 hM a hA
      replace hM : Mem _ _ [pt b14 #[.int .i64 ((k : Int))] 3, pt q4 #[.pointer (some ⟨m5, 0, none⟩), .int .i64 1, .int .i64 1, .slice (some ⟨pl7, 0, none⟩) 3 3] 119, pt pl7 ((vals ls)) 43, own 3 1 (.slice bv bX.length bc) bX.length (bX.map (Value.int .i64)), memO m5 c6 [0, lst * 64 + pp, 0] s op] _ := hM
      refine S.val hA (R.move rfl) rfl ?_; clear hA a; intro a hA
      replace hM := hM.ownPt (cap := 1) (n := 1) (sz := 1) (xs := [.int .i64 ((k : Int))]) rfl (by decide) (by decide) rfl
      replace hM : Mem _ _ [own 3 1 (.slice (some ⟨b14, 0, none⟩) ((([(k : Int)] : List Int)).length) 1) ((([(k : Int)] : List Int)).length) ((([(k : Int)] : List Int)).map (Value.int .i64)), pt q4 #[.pointer (some ⟨m5, 0, none⟩), .int .i64 1, .int .i64 1, .slice (some ⟨pl7, 0, none⟩) 3 3] 119, pt pl7 ((vals ls)) 43, own 3 1 (.slice bv bX.length bc) bX.length (bX.map (Value.int .i64)), memO m5 c6 [0, lst * 64 + pp, 0] s op] _ := hM
      refine S.call hA (R.callF Try.func33 rfl rfl rfl) rfl (ioffer_ok q4 m5 pl7 3 1 1 0 ((n11 : Int)) (some ⟨b14, 0, none⟩) (([(k : Int)] : List Int)) 1 (by first | omega | decide | (simp; done) | (simp; omega)) (by first | omega | decide | (simp; done) | (simp; omega)) (by first | omega | decide | (simp; done) | (simp; omega)) _ (hM.hereN 2)) ?_; clear hA a
      rintro e w6 ⟨p16, a17, c18, rfl, hn⟩
      replace hM : Mem _ _ [pt p16 #[.pointer (some ⟨q4, 0, none⟩), .int .i64 0, .slice a17 ((([(k : Int)] : List Int)).length) c18, .int .i64 ((n11 : Int)), .bool false, .int .i64 0, .bool false, .bool false] 124, own 3 1 (.slice a17 ((([(k : Int)] : List Int)).length) c18) ((([(k : Int)] : List Int)).length) ((([(k : Int)] : List Int)).map (Value.int .i64)), pt q4 #[.pointer (some ⟨m5, 0, none⟩), .int .i64 1, .int .i64 1, .slice (some ⟨pl7, 0, none⟩) 3 3] 119, pt pl7 ((vals ls)) 43, own 3 1 (.slice bv bX.length bc) bX.length (bX.map (Value.int .i64)), memO m5 c6 [0, lst * 64 + pp, 0] s op] _ := hM.callL 2 hn; clear hn
      refine ⟨.pointer (some ⟨p16, 0, none⟩), rfl, fun a hA => ?_⟩
      refine S.val hA (R.assign rfl) rfl ?_; clear hA a; intro a hA
      refine S.done ?_
      replace hA : St 89 [(1, _), (5, _), (6, _), (8, _), (9, _), (10, _), (11, _), (39, _), (42, _), (43, _), (44, _), (45, _), (46, _), (47, _), (48, _), (49, _), (50, _), (51, _), (52, _), (53, _)] a := hA.sub ((.cons rfl (.cons rfl (.cons rfl (.cons rfl (.cons rfl (.cons rfl (.cons rfl (.cons rfl (.cons rfl (.cons rfl (.cons rfl (.cons rfl (.cons rfl (.cons rfl (.cons rfl (.cons rfl (.cons rfl (.cons rfl (.cons rfl (.cons rfl .nil)))))))))))))))))))))
      refine Ends.seq ?_
      refine Ends.seq ?_
      by_cases hs19 : (n11 : Int) < lst
      ·
        obtain ⟨np, hnp⟩ : ∃ np : Int, (pp = 2 * 0 ∧ np = 2 * 0 + 1) ∨ (pp ≠ 2 * 0 ∧ np = 2 * 0) := by
          by_cases h0 : pp = 0
          · exact ⟨1, .inl ⟨by omega, by omega⟩⟩
          · exact ⟨0, .inr ⟨by omega, by omega⟩⟩
        refine Ends.region ?_
        refine S.val hA (R.move rfl) rfl ?_; clear hA a; intro a hA
        replace hM := hM.front (k := 5) rfl
        replace hM := hM.front (k := 3) rfl
        replace hM := hM.front (k := 4) rfl
        replace hM := hM.front (k := 3) rfl
        replace hM : Mem _ _ [pt p16 #[.pointer (some ⟨q4, 0, none⟩), .int .i64 0, .slice a17 ((([(k : Int)] : List Int)).length) c18, .int .i64 ((n11 : Int)), .bool false, .int .i64 0, .bool false, .bool false] 124, pt pl7 ((vals ls)) 43, pt q4 #[.pointer (some ⟨m5, 0, none⟩), .int .i64 1, .int .i64 1, .slice (some ⟨pl7, 0, none⟩) 3 3] 119, memO m5 c6 [0, lst * 64 + pp, 0] s op, own 3 1 (.slice a17 ((([(k : Int)] : List Int)).length) c18) ((([(k : Int)] : List Int)).length) ((([(k : Int)] : List Int)).map (Value.int .i64)), own 3 1 (.slice bv bX.length bc) bX.length (bX.map (Value.int .i64))] _ := hM
        refine S.call hA (R.callF Try.func41 rfl rfl rfl) rfl (irun_take p16 q4 pl7 3 1 0 ((n11 : Int)) a17 ((([(k : Int)] : List Int))) c18 ls m5 c6 s op hm5c6 lst pp (by first | omega | decide | (simp; done) | (simp; omega)) (by first | omega | decide | (simp; done) | (simp; omega)) (by first | omega | decide | (simp; done) | (simp; omega)) np (by first | omega | decide | (simp; done) | (simp; omega)) (by first | omega | decide | (simp; done) | (simp; omega)) (by first | omega | decide | (simp; done) | (simp; omega)) hlen hnp (by omega) _ (hM.hereN 4)) ?_; clear hA a
        rintro e w7 ⟨rfl, hn⟩
        replace hM : Mem _ _ [pt p16 #[.pointer (some ⟨q4, 0, none⟩), .int .i64 0, .slice a17 ((([(k : Int)] : List Int)).length) c18, .int .i64 ((n11 : Int)), .bool false, .int .i64 (lst * 64 + pp), .bool true, .bool true] 124, pt pl7 ((vals (ls.set np.toNat (.slice a17 ((([(k : Int)] : List Int)).length) c18)))) 43, pt q4 #[.pointer (some ⟨m5, 0, none⟩), .int .i64 1, .int .i64 1, .slice (some ⟨pl7, 0, none⟩) 3 3] 119, memO m5 c6 [0, ((n11 : Int)) * 64 + np, 0] (s + 1 + 1) ⟨3, 1, lst * 64 + pp, ((n11 : Int)) * 64 + np, true⟩, own 3 1 (.slice a17 ((([(k : Int)] : List Int)).length) c18) ((([(k : Int)] : List Int)).length) ((([(k : Int)] : List Int)).map (Value.int .i64)), own 3 1 (.slice bv bX.length bc) bX.length (bX.map (Value.int .i64))] _ := hM.callL 4 hn; clear hn
        refine ⟨.bool true, rfl, fun a hA => ?_⟩
        refine S.val hA (R.not rfl) rfl ?_; clear hA a; intro a hA
        refine S.val hA (R.move rfl) rfl ?_; clear hA a; intro a hA
        refine S.valg (dj := 57) hA (by kernel_rfl) rfl (R.move rfl) rfl ?_; clear hA a; intro a hA
        refine S.callg (dj := 57) hA (by kernel_rfl) rfl (R.callF Try.func36 rfl rfl rfl) rfl (iact_taken p16 q4 0 a17 ((([(k : Int)] : List Int))) c18 ((n11 : Int)) (lst * 64 + pp) false true true _ (hM.block (k := 0) rfl)) ?_; clear hA a
        rintro e w8 ⟨rfl, rfl⟩
        refine ⟨.bool true, rfl, fun a hA => ?_⟩
        refine S.valg (dj := 57) hA (by kernel_rfl) rfl (R.move rfl) rfl ?_; clear hA a; intro a hA
        refine S.valg (dj := 57) hA (by kernel_rfl) rfl (R.move rfl) rfl ?_; clear hA a; intro a hA
        refine S.valg (dj := 57) hA (by kernel_rfl) rfl (R.lss rfl rfl) rfl ?_; clear hA a; intro a hA
        refine S.valg (dj := 57) hA (by kernel_rfl) rfl (R.to (v := .bool false) (R.neqB Try.underlying4 rfl rfl) (congrArg Value.bool (by first | (rw [decide_eq_true (by omega)]; rfl) | (rw [decide_eq_false (by omega)]; rfl)))) rfl ?_; clear hA a; intro a hA
        refine S.val hA (R.pickF rfl rfl) rfl ?_; clear hA a; intro a hA
        refine S.done ?_
        replace hA : St 89 [(1, _), (5, _), (6, _), (8, _), (9, _), (10, _), (11, _), (39, _), (42, _), (43, _), (44, _), (45, _), (46, _), (47, _), (48, _), (49, _), (50, _), (51, _), (52, _), (53, _), (54, _), (55, _), (56, _), (57, _), (58, _), (59, _), (60, _), (61, _), (62, _), (63, _), (64, _)] a := hA.sub ((.cons rfl (.cons rfl (.cons rfl (.cons rfl (.cons rfl (.cons rfl (.cons rfl (.cons rfl (.cons rfl (.cons rfl (.cons rfl (.cons rfl (.cons rfl (.cons rfl (.cons rfl (.cons rfl (.cons rfl (.cons rfl (.cons rfl (.cons rfl (.cons rfl (.cons rfl (.cons rfl (.cons rfl (.cons rfl (.cons rfl (.cons rfl (.cons rfl (.cons rfl (.cons rfl (.cons rfl .nil))))))))))))))))))))))))))))))))
        refine Ends.condF hA rfl ?_
        refine Ends.skip ?_
        refine Ends.seq ?_
        refine Ends.region ?_
        refine S.val hA (R.move rfl) rfl ?_; clear hA a; intro a hA
        refine S.val hA (R.move rfl) rfl ?_; clear hA a; intro a hA
        refine S.val hA (R.to (v := .int .i64 ((n11 : Int))) (R.min rfl rfl) (congrArg (Value.int .i64) (by omega))) rfl ?_; clear hA a; intro a hA
        refine S.val hA (R.assign rfl) rfl ?_; clear hA a; intro a hA
        refine S.done ?_
        replace hA : St 89 [(1, _), (5, _), (6, _), (8, _), (9, _), (10, _), (11, _), (39, _), (42, _), (43, _), (44, _), (45, _), (46, _), (47, _), (48, _), (49, _), (50, _), (51, _), (52, _), (53, _), (54, _), (55, _), (56, _), (57, _), (58, _), (59, _), (60, _), (61, _), (62, _), (63, _), (64, _), (65, _), (66, _), (67, _)] a := hA.sub ((.cons rfl (.cons rfl (.cons rfl (.cons rfl (.cons rfl (.cons rfl (.cons rfl (.cons rfl (.cons rfl (.cons rfl (.cons rfl (.cons rfl (.cons rfl (.cons rfl (.cons rfl (.cons rfl (.cons rfl (.cons rfl (.cons rfl (.cons rfl (.cons rfl (.cons rfl (.cons rfl (.cons rfl (.cons rfl (.cons rfl (.cons rfl (.cons rfl (.cons rfl (.cons rfl (.cons rfl (.cons rfl (.cons rfl (.cons rfl .nil)))))))))))))))))))))))))))))))))))
        refine Ends.seq ?_
        refine Ends.region ?_
        refine S.val hA (R.move rfl) rfl ?_; clear hA a; intro a hA
        refine S.call hA (R.callF Try.func27 rfl rfl rfl) rfl (steps_ok m5 c6 [0, ((n11 : Int)) * 64 + np, 0] (s + 1 + 1) ⟨3, 1, lst * 64 + pp, ((n11 : Int)) * 64 + np, true⟩ hm5c6 _ (hM.mem (k := 3) rfl)) ?_; clear hA a
        rintro e w9 ⟨rfl, rfl⟩
        refine ⟨.int .i64 (s + 1 + 1), rfl, fun a hA => ?_⟩
        refine S.val hA (R.assign rfl) rfl ?_; clear hA a; intro a hA
        refine S.done ?_
        replace hA : St 89 [(1, _), (5, _), (6, _), (8, _), (9, _), (10, _), (11, _), (12, _), (39, _), (42, _), (43, _), (44, _), (45, _), (46, _), (47, _), (48, _), (49, _), (50, _), (51, _), (52, _), (53, _), (54, _), (55, _), (56, _), (57, _), (58, _), (59, _), (60, _), (61, _), (62, _), (63, _), (64, _), (65, _), (66, _), (67, _), (68, _), (69, _)] a := hA.sub ((.cons rfl (.cons rfl (.cons rfl (.cons rfl (.cons rfl (.cons rfl (.cons rfl (.cons rfl (.cons rfl (.cons rfl (.cons rfl (.cons rfl (.cons rfl (.cons rfl (.cons rfl (.cons rfl (.cons rfl (.cons rfl (.cons rfl (.cons rfl (.cons rfl (.cons rfl (.cons rfl (.cons rfl (.cons rfl (.cons rfl (.cons rfl (.cons rfl (.cons rfl (.cons rfl (.cons rfl (.cons rfl (.cons rfl (.cons rfl (.cons rfl (.cons rfl (.cons rfl .nil))))))))))))))))))))))))))))))))))))))
        refine Ends.seq ?_
        refine Ends.region ?_
        refine S.val hA (R.move rfl) rfl ?_; clear hA a; intro a hA
        replace hM := hM.front (k := 3) rfl
        replace hM := hM.front (k := 3) rfl
        replace hM : Mem _ _ [pt q4 #[.pointer (some ⟨m5, 0, none⟩), .int .i64 1, .int .i64 1, .slice (some ⟨pl7, 0, none⟩) 3 3] 119, memO m5 c6 [0, ((n11 : Int)) * 64 + np, 0] (s + 1 + 1) ⟨3, 1, lst * 64 + pp, ((n11 : Int)) * 64 + np, true⟩, pt p16 #[.pointer (some ⟨q4, 0, none⟩), .int .i64 0, .slice a17 ((([(k : Int)] : List Int)).length) c18, .int .i64 ((n11 : Int)), .bool false, .int .i64 (lst * 64 + pp), .bool true, .bool true] 124, pt pl7 ((vals (ls.set np.toNat (.slice a17 ((([(k : Int)] : List Int)).length) c18)))) 43, own 3 1 (.slice a17 ((([(k : Int)] : List Int)).length) c18) ((([(k : Int)] : List Int)).length) ((([(k : Int)] : List Int)).map (Value.int .i64)), own 3 1 (.slice bv bX.length bc) bX.length (bX.map (Value.int .i64))] _ := hM
        refine S.call hA (R.callF Try.func32 rfl rfl rfl) rfl (ilook_ok q4 pl7 3 1 1 m5 c6 [0, ((n11 : Int)) * 64 + np, 0] (s + 1 + 1) ⟨3, 1, lst * 64 + pp, ((n11 : Int)) * 64 + np, true⟩ hm5c6 (by first | omega | decide | (simp; done) | (simp; omega)) (by first | omega | decide | (simp; done) | (simp; omega)) (by first | omega | decide | (simp; done) | (simp; omega)) (((n11 : Int))) np (by first | omega | decide | (simp; done) | (simp; omega)) rfl _ (hM.hereN 2)) ?_; clear hA a
        rintro e w10 ⟨rfl, hn⟩
        replace hM : Mem _ _ [pt q4 #[.pointer (some ⟨m5, 0, none⟩), .int .i64 1, .int .i64 1, .slice (some ⟨pl7, 0, none⟩) 3 3] 119, memO m5 c6 [0, ((n11 : Int)) * 64 + np, 0] (s + 1 + 1 + 1) ⟨1, 1, ((n11 : Int)) * 64 + np, ((n11 : Int)) * 64 + np, true⟩, pt p16 #[.pointer (some ⟨q4, 0, none⟩), .int .i64 0, .slice a17 ((([(k : Int)] : List Int)).length) c18, .int .i64 ((n11 : Int)), .bool false, .int .i64 (lst * 64 + pp), .bool true, .bool true] 124, pt pl7 ((vals (ls.set np.toNat (.slice a17 ((([(k : Int)] : List Int)).length) c18)))) 43, own 3 1 (.slice a17 ((([(k : Int)] : List Int)).length) c18) ((([(k : Int)] : List Int)).length) ((([(k : Int)] : List Int)).map (Value.int .i64)), own 3 1 (.slice bv bX.length bc) bX.length (bX.map (Value.int .i64))] _ := hM.callL 2 hn; clear hn
        refine ⟨.int .i64 (((n11 : Int))), rfl, fun a hA => ?_⟩
        refine S.val hA (R.move rfl) rfl ?_; clear hA a; intro a hA
        refine S.val hA (R.ff (R.neq rfl rfl) (by omega)) rfl ?_; clear hA a; intro a hA
        refine S.val hA (R.move rfl) rfl ?_; clear hA a; intro a hA
        refine S.valg (dj := 74) hA (by kernel_rfl) rfl (R.move rfl) rfl ?_; clear hA a; intro a hA
        refine S.callg (dj := 74) hA (by kernel_rfl) rfl (R.callF Try.func27 rfl rfl rfl) rfl (steps_ok m5 c6 [0, ((n11 : Int)) * 64 + np, 0] (s + 1 + 1 + 1) ⟨1, 1, ((n11 : Int)) * 64 + np, ((n11 : Int)) * 64 + np, true⟩ hm5c6 _ (hM.mem (k := 1) rfl)) ?_; clear hA a
        rintro e w11 ⟨rfl, rfl⟩
        refine ⟨.int .i64 (s + 1 + 1 + 1), rfl, fun a hA => ?_⟩
        refine S.valg (dj := 74) hA (by kernel_rfl) rfl (R.move rfl) rfl ?_; clear hA a; intro a hA
        refine S.valg (dj := 74) hA (by kernel_rfl) rfl (R.addI rfl rfl (r := (s + 1 + 1) + 1) rfl (by omega)) rfl ?_; clear hA a; intro a hA
        refine S.valg (dj := 74) hA (by kernel_rfl) rfl (R.ff (R.neq rfl rfl) (by omega)) rfl ?_; clear hA a; intro a hA
        refine S.val hA (R.pickF rfl rfl) rfl ?_; clear hA a; intro a hA
        refine S.done ?_
        replace hA : St 89 [(1, _), (5, _), (6, _), (8, _), (9, _), (10, _), (11, _), (12, _), (39, _), (42, _), (43, _), (44, _), (45, _), (46, _), (47, _), (48, _), (49, _), (50, _), (51, _), (52, _), (53, _), (54, _), (55, _), (56, _), (57, _), (58, _), (59, _), (60, _), (61, _), (62, _), (63, _), (64, _), (65, _), (66, _), (67, _), (68, _), (69, _), (70, _), (71, _), (72, _), (73, _), (74, _), (75, _), (76, _), (77, _), (78, _), (79, _), (80, _)] a := hA.sub ((.cons rfl (.cons rfl (.cons rfl (.cons rfl (.cons rfl (.cons rfl (.cons rfl (.cons rfl (.cons rfl (.cons rfl (.cons rfl (.cons rfl (.cons rfl (.cons rfl (.cons rfl (.cons rfl (.cons rfl (.cons rfl (.cons rfl (.cons rfl (.cons rfl (.cons rfl (.cons rfl (.cons rfl (.cons rfl (.cons rfl (.cons rfl (.cons rfl (.cons rfl (.cons rfl (.cons rfl (.cons rfl (.cons rfl (.cons rfl (.cons rfl (.cons rfl (.cons rfl (.cons rfl (.cons rfl (.cons rfl (.cons rfl (.cons rfl (.cons rfl (.cons rfl (.cons rfl (.cons rfl (.cons rfl (.cons rfl .nil)))))))))))))))))))))))))))))))))))))))))))))))))
        refine Ends.condF hA rfl ?_
        refine Ends.skip ?_
        refine Ends.inBlock ?_
        refine Ends.region ?_
        refine S.val hA (R.move rfl) rfl ?_; clear hA a; intro a hA
        refine S.val hA (R.addI rfl rfl (r := ((k : Int)) + 1) rfl (by omega)) rfl ?_; clear hA a; intro a hA
        refine S.val hA (R.assign rfl) rfl ?_; clear hA a; intro a hA
        refine S.done ?_
        replace hA : St 89 [(1, _), (5, _), (6, _), (8, _), (9, _), (10, _), (11, _), (12, _), (39, _), (40, _), (41, _), (42, _), (43, _), (44, _), (45, _), (46, _), (47, _), (48, _), (49, _), (50, _), (51, _), (52, _), (53, _), (54, _), (55, _), (56, _), (57, _), (58, _), (59, _), (60, _), (61, _), (62, _), (63, _), (64, _), (65, _), (66, _), (67, _), (68, _), (69, _), (70, _), (71, _), (72, _), (73, _), (74, _), (75, _), (76, _), (77, _), (78, _), (79, _), (80, _)] a := hA.sub ((.cons rfl (.cons rfl (.cons rfl (.cons rfl (.cons rfl (.cons rfl (.cons rfl (.cons rfl (.cons rfl (.cons rfl (.cons rfl (.cons rfl (.cons rfl (.cons rfl (.cons rfl (.cons rfl (.cons rfl (.cons rfl (.cons rfl (.cons rfl (.cons rfl (.cons rfl (.cons rfl (.cons rfl (.cons rfl (.cons rfl (.cons rfl (.cons rfl (.cons rfl (.cons rfl (.cons rfl (.cons rfl (.cons rfl (.cons rfl (.cons rfl (.cons rfl (.cons rfl (.cons rfl (.cons rfl (.cons rfl (.cons rfl (.cons rfl (.cons rfl (.cons rfl (.cons rfl (.cons rfl (.cons rfl (.cons rfl (.cons rfl (.cons rfl .nil)))))))))))))))))))))))))))))))))))))))))))))))))))
        replace hM := hM.front (k := 1) rfl
        replace hM := hM.front (k := 4) rfl
        replace hM := hM.front (k := 4) rfl
        replace hM := hM.front (k := 3) rfl
        replace hM : Mem _ _ [pt q4 #[.pointer (some ⟨m5, 0, none⟩), .int .i64 1, .int .i64 1, .slice (some ⟨pl7, 0, none⟩) 3 3] 119, pt pl7 ((vals (ls.set np.toNat (.slice a17 ((([(k : Int)] : List Int)).length) c18)))) 43, own 3 1 (.slice a17 ((([(k : Int)] : List Int)).length) c18) ((([(k : Int)] : List Int)).length) ((([(k : Int)] : List Int)).map (Value.int .i64)), memO m5 c6 [0, ((n11 : Int)) * 64 + np, 0] (s + 1 + 1 + 1) ⟨1, 1, ((n11 : Int)) * 64 + np, ((n11 : Int)) * 64 + np, true⟩, pt p16 #[.pointer (some ⟨q4, 0, none⟩), .int .i64 0, .slice a17 ((([(k : Int)] : List Int)).length) c18, .int .i64 ((n11 : Int)), .bool false, .int .i64 (lst * 64 + pp), .bool true, .bool true] 124, own 3 1 (.slice bv bX.length bc) bX.length (bX.map (Value.int .i64))] _ := hM
        replace hM : Mem _ _ [pt q4 #[.pointer (some ⟨m5, 0, none⟩), .int .i64 1, .int .i64 1, .slice (some ⟨pl7, 0, none⟩) 3 3] 119, pt pl7 ((vals (ls.set np.toNat (.slice a17 ((([(k : Int)] : List Int)).length) c18)))) 43, own 3 1 (.slice a17 ((([(k : Int)] : List Int)).length) c18) ((([(k : Int)] : List Int)).length) ((([(k : Int)] : List Int)).map (Value.int .i64)), memO m5 c6 [0, ((n11 : Int)) * 64 + np, 0] (s + 1 + 1 + 1) ⟨1, 1, ((n11 : Int)) * 64 + np, ((n11 : Int)) * 64 + np, true⟩] _ := hM.firstN 4
        exact hNext ((k + 1, ((n11 : Int)), np, a17, ([(k : Int)] : List Int), c18, (ls.set np.toNat (.slice a17 ((([(k : Int)] : List Int)).length) c18)), s + 1 + 1 + 1, ⟨1, 1, ((n11 : Int)) * 64 + np, ((n11 : Int)) * 64 + np, true⟩)) _ _ ((by show n - (k + 1) < n - k; omega)) ⟨hA.sub ((.cons rfl (.cons rfl (.cons rfl (.cons rfl (.cons rfl .nil)))))), hM, (by omega), (by simp only [List.length_set]; exact hlen), (by rw [List.getElem?_set_self (by omega)]), (by omega), (by omega), (by omega), (by simp)⟩
      ·
        refine Ends.region ?_
        refine S.val hA (R.move rfl) rfl ?_; clear hA a; intro a hA
        replace hM := hM.front (k := 5) rfl
        replace hM := hM.front (k := 3) rfl
        replace hM := hM.front (k := 4) rfl
        replace hM := hM.front (k := 3) rfl
        replace hM : Mem _ _ [pt p16 #[.pointer (some ⟨q4, 0, none⟩), .int .i64 0, .slice a17 ((([(k : Int)] : List Int)).length) c18, .int .i64 ((n11 : Int)), .bool false, .int .i64 0, .bool false, .bool false] 124, pt pl7 ((vals ls)) 43, pt q4 #[.pointer (some ⟨m5, 0, none⟩), .int .i64 1, .int .i64 1, .slice (some ⟨pl7, 0, none⟩) 3 3] 119, memO m5 c6 [0, lst * 64 + pp, 0] s op, own 3 1 (.slice a17 ((([(k : Int)] : List Int)).length) c18) ((([(k : Int)] : List Int)).length) ((([(k : Int)] : List Int)).map (Value.int .i64)), own 3 1 (.slice bv bX.length bc) bX.length (bX.map (Value.int .i64))] _ := hM
        refine S.call hA (R.callF Try.func41 rfl rfl rfl) rfl (irun_leave p16 q4 pl7 3 1 0 ((n11 : Int)) a17 ((([(k : Int)] : List Int))) c18 ls m5 c6 s op hm5c6 lst pp (by first | omega | decide | (simp; done) | (simp; omega)) (by first | omega | decide | (simp; done) | (simp; omega)) (by first | omega | decide | (simp; done) | (simp; omega)) (by omega) _ (hM.hereN 4)) ?_; clear hA a
        rintro e w12 ⟨rfl, hn⟩
        replace hM : Mem _ _ [pt p16 #[.pointer (some ⟨q4, 0, none⟩), .int .i64 0, .slice a17 ((([(k : Int)] : List Int)).length) c18, .int .i64 ((n11 : Int)), .bool true, .int .i64 (lst * 64 + pp), .bool true, .bool false] 124, pt pl7 ((vals ls)) 43, pt q4 #[.pointer (some ⟨m5, 0, none⟩), .int .i64 1, .int .i64 1, .slice (some ⟨pl7, 0, none⟩) 3 3] 119, memO m5 c6 [0, lst * 64 + pp, 0] (s + 1) ⟨1, 1, lst * 64 + pp, lst * 64 + pp, true⟩, own 3 1 (.slice a17 ((([(k : Int)] : List Int)).length) c18) ((([(k : Int)] : List Int)).length) ((([(k : Int)] : List Int)).map (Value.int .i64)), own 3 1 (.slice bv bX.length bc) bX.length (bX.map (Value.int .i64))] _ := hM.callL 4 hn; clear hn
        refine ⟨.bool true, rfl, fun a hA => ?_⟩
        refine S.val hA (R.not rfl) rfl ?_; clear hA a; intro a hA
        refine S.val hA (R.move rfl) rfl ?_; clear hA a; intro a hA
        refine S.valg (dj := 57) hA (by kernel_rfl) rfl (R.move rfl) rfl ?_; clear hA a; intro a hA
        refine S.callg (dj := 57) hA (by kernel_rfl) rfl (R.callF Try.func36 rfl rfl rfl) rfl (iact_taken p16 q4 0 a17 ((([(k : Int)] : List Int))) c18 ((n11 : Int)) (lst * 64 + pp) true true false _ (hM.block (k := 0) rfl)) ?_; clear hA a
        rintro e w13 ⟨rfl, rfl⟩
        refine ⟨.bool false, rfl, fun a hA => ?_⟩
        refine S.valg (dj := 57) hA (by kernel_rfl) rfl (R.move rfl) rfl ?_; clear hA a; intro a hA
        refine S.valg (dj := 57) hA (by kernel_rfl) rfl (R.move rfl) rfl ?_; clear hA a; intro a hA
        refine S.valg (dj := 57) hA (by kernel_rfl) rfl (R.lss rfl rfl) rfl ?_; clear hA a; intro a hA
        refine S.valg (dj := 57) hA (by kernel_rfl) rfl (R.to (v := .bool false) (R.neqB Try.underlying4 rfl rfl) (congrArg Value.bool (by first | (rw [decide_eq_true (by omega)]; rfl) | (rw [decide_eq_false (by omega)]; rfl)))) rfl ?_; clear hA a; intro a hA
        refine S.val hA (R.pickF rfl rfl) rfl ?_; clear hA a; intro a hA
        refine S.done ?_
        replace hA : St 89 [(1, _), (5, _), (6, _), (8, _), (9, _), (10, _), (11, _), (39, _), (42, _), (43, _), (44, _), (45, _), (46, _), (47, _), (48, _), (49, _), (50, _), (51, _), (52, _), (53, _), (54, _), (55, _), (56, _), (57, _), (58, _), (59, _), (60, _), (61, _), (62, _), (63, _), (64, _)] a := hA.sub ((.cons rfl (.cons rfl (.cons rfl (.cons rfl (.cons rfl (.cons rfl (.cons rfl (.cons rfl (.cons rfl (.cons rfl (.cons rfl (.cons rfl (.cons rfl (.cons rfl (.cons rfl (.cons rfl (.cons rfl (.cons rfl (.cons rfl (.cons rfl (.cons rfl (.cons rfl (.cons rfl (.cons rfl (.cons rfl (.cons rfl (.cons rfl (.cons rfl (.cons rfl (.cons rfl (.cons rfl .nil))))))))))))))))))))))))))))))))
        refine Ends.condF hA rfl ?_
        refine Ends.skip ?_
        refine Ends.seq ?_
        refine Ends.region ?_
        refine S.val hA (R.move rfl) rfl ?_; clear hA a; intro a hA
        refine S.val hA (R.move rfl) rfl ?_; clear hA a; intro a hA
        refine S.val hA (R.to (v := .int .i64 lst) (R.min rfl rfl) (congrArg (Value.int .i64) (by omega))) rfl ?_; clear hA a; intro a hA
        refine S.val hA (R.assign rfl) rfl ?_; clear hA a; intro a hA
        refine S.done ?_
        replace hA : St 89 [(1, _), (5, _), (6, _), (8, _), (9, _), (10, _), (11, _), (39, _), (42, _), (43, _), (44, _), (45, _), (46, _), (47, _), (48, _), (49, _), (50, _), (51, _), (52, _), (53, _), (54, _), (55, _), (56, _), (57, _), (58, _), (59, _), (60, _), (61, _), (62, _), (63, _), (64, _), (65, _), (66, _), (67, _)] a := hA.sub ((.cons rfl (.cons rfl (.cons rfl (.cons rfl (.cons rfl (.cons rfl (.cons rfl (.cons rfl (.cons rfl (.cons rfl (.cons rfl (.cons rfl (.cons rfl (.cons rfl (.cons rfl (.cons rfl (.cons rfl (.cons rfl (.cons rfl (.cons rfl (.cons rfl (.cons rfl (.cons rfl (.cons rfl (.cons rfl (.cons rfl (.cons rfl (.cons rfl (.cons rfl (.cons rfl (.cons rfl (.cons rfl (.cons rfl (.cons rfl .nil)))))))))))))))))))))))))))))))))))
        refine Ends.seq ?_
        refine Ends.region ?_
        refine S.val hA (R.move rfl) rfl ?_; clear hA a; intro a hA
        refine S.call hA (R.callF Try.func27 rfl rfl rfl) rfl (steps_ok m5 c6 [0, lst * 64 + pp, 0] (s + 1) ⟨1, 1, lst * 64 + pp, lst * 64 + pp, true⟩ hm5c6 _ (hM.mem (k := 3) rfl)) ?_; clear hA a
        rintro e w14 ⟨rfl, rfl⟩
        refine ⟨.int .i64 (s + 1), rfl, fun a hA => ?_⟩
        refine S.val hA (R.assign rfl) rfl ?_; clear hA a; intro a hA
        refine S.done ?_
        replace hA : St 89 [(1, _), (5, _), (6, _), (8, _), (9, _), (10, _), (11, _), (12, _), (39, _), (42, _), (43, _), (44, _), (45, _), (46, _), (47, _), (48, _), (49, _), (50, _), (51, _), (52, _), (53, _), (54, _), (55, _), (56, _), (57, _), (58, _), (59, _), (60, _), (61, _), (62, _), (63, _), (64, _), (65, _), (66, _), (67, _), (68, _), (69, _)] a := hA.sub ((.cons rfl (.cons rfl (.cons rfl (.cons rfl (.cons rfl (.cons rfl (.cons rfl (.cons rfl (.cons rfl (.cons rfl (.cons rfl (.cons rfl (.cons rfl (.cons rfl (.cons rfl (.cons rfl (.cons rfl (.cons rfl (.cons rfl (.cons rfl (.cons rfl (.cons rfl (.cons rfl (.cons rfl (.cons rfl (.cons rfl (.cons rfl (.cons rfl (.cons rfl (.cons rfl (.cons rfl (.cons rfl (.cons rfl (.cons rfl (.cons rfl (.cons rfl (.cons rfl .nil))))))))))))))))))))))))))))))))))))))
        refine Ends.seq ?_
        refine Ends.region ?_
        refine S.val hA (R.move rfl) rfl ?_; clear hA a; intro a hA
        replace hM := hM.front (k := 3) rfl
        replace hM := hM.front (k := 3) rfl
        replace hM : Mem _ _ [pt q4 #[.pointer (some ⟨m5, 0, none⟩), .int .i64 1, .int .i64 1, .slice (some ⟨pl7, 0, none⟩) 3 3] 119, memO m5 c6 [0, lst * 64 + pp, 0] (s + 1) ⟨1, 1, lst * 64 + pp, lst * 64 + pp, true⟩, pt p16 #[.pointer (some ⟨q4, 0, none⟩), .int .i64 0, .slice a17 ((([(k : Int)] : List Int)).length) c18, .int .i64 ((n11 : Int)), .bool true, .int .i64 (lst * 64 + pp), .bool true, .bool false] 124, pt pl7 ((vals ls)) 43, own 3 1 (.slice a17 ((([(k : Int)] : List Int)).length) c18) ((([(k : Int)] : List Int)).length) ((([(k : Int)] : List Int)).map (Value.int .i64)), own 3 1 (.slice bv bX.length bc) bX.length (bX.map (Value.int .i64))] _ := hM
        refine S.call hA (R.callF Try.func32 rfl rfl rfl) rfl (ilook_ok q4 pl7 3 1 1 m5 c6 [0, lst * 64 + pp, 0] (s + 1) ⟨1, 1, lst * 64 + pp, lst * 64 + pp, true⟩ hm5c6 (by first | omega | decide | (simp; done) | (simp; omega)) (by first | omega | decide | (simp; done) | (simp; omega)) (by first | omega | decide | (simp; done) | (simp; omega)) lst pp (by first | omega | decide | (simp; done) | (simp; omega)) rfl _ (hM.hereN 2)) ?_; clear hA a
        rintro e w15 ⟨rfl, hn⟩
        replace hM : Mem _ _ [pt q4 #[.pointer (some ⟨m5, 0, none⟩), .int .i64 1, .int .i64 1, .slice (some ⟨pl7, 0, none⟩) 3 3] 119, memO m5 c6 [0, lst * 64 + pp, 0] (s + 1 + 1) ⟨1, 1, lst * 64 + pp, lst * 64 + pp, true⟩, pt p16 #[.pointer (some ⟨q4, 0, none⟩), .int .i64 0, .slice a17 ((([(k : Int)] : List Int)).length) c18, .int .i64 ((n11 : Int)), .bool true, .int .i64 (lst * 64 + pp), .bool true, .bool false] 124, pt pl7 ((vals ls)) 43, own 3 1 (.slice a17 ((([(k : Int)] : List Int)).length) c18) ((([(k : Int)] : List Int)).length) ((([(k : Int)] : List Int)).map (Value.int .i64)), own 3 1 (.slice bv bX.length bc) bX.length (bX.map (Value.int .i64))] _ := hM.callL 2 hn; clear hn
        refine ⟨.int .i64 lst, rfl, fun a hA => ?_⟩
        refine S.val hA (R.move rfl) rfl ?_; clear hA a; intro a hA
        refine S.val hA (R.ff (R.neq rfl rfl) (by omega)) rfl ?_; clear hA a; intro a hA
        refine S.val hA (R.move rfl) rfl ?_; clear hA a; intro a hA
        refine S.valg (dj := 74) hA (by kernel_rfl) rfl (R.move rfl) rfl ?_; clear hA a; intro a hA
        refine S.callg (dj := 74) hA (by kernel_rfl) rfl (R.callF Try.func27 rfl rfl rfl) rfl (steps_ok m5 c6 [0, lst * 64 + pp, 0] (s + 1 + 1) ⟨1, 1, lst * 64 + pp, lst * 64 + pp, true⟩ hm5c6 _ (hM.mem (k := 1) rfl)) ?_; clear hA a
        rintro e w16 ⟨rfl, rfl⟩
        refine ⟨.int .i64 (s + 1 + 1), rfl, fun a hA => ?_⟩
        refine S.valg (dj := 74) hA (by kernel_rfl) rfl (R.move rfl) rfl ?_; clear hA a; intro a hA
        refine S.valg (dj := 74) hA (by kernel_rfl) rfl (R.addI rfl rfl (r := (s + 1) + 1) rfl (by omega)) rfl ?_; clear hA a; intro a hA
        refine S.valg (dj := 74) hA (by kernel_rfl) rfl (R.ff (R.neq rfl rfl) (by omega)) rfl ?_; clear hA a; intro a hA
        refine S.val hA (R.pickF rfl rfl) rfl ?_; clear hA a; intro a hA
        refine S.done ?_
        replace hA : St 89 [(1, _), (5, _), (6, _), (8, _), (9, _), (10, _), (11, _), (12, _), (39, _), (42, _), (43, _), (44, _), (45, _), (46, _), (47, _), (48, _), (49, _), (50, _), (51, _), (52, _), (53, _), (54, _), (55, _), (56, _), (57, _), (58, _), (59, _), (60, _), (61, _), (62, _), (63, _), (64, _), (65, _), (66, _), (67, _), (68, _), (69, _), (70, _), (71, _), (72, _), (73, _), (74, _), (75, _), (76, _), (77, _), (78, _), (79, _), (80, _)] a := hA.sub ((.cons rfl (.cons rfl (.cons rfl (.cons rfl (.cons rfl (.cons rfl (.cons rfl (.cons rfl (.cons rfl (.cons rfl (.cons rfl (.cons rfl (.cons rfl (.cons rfl (.cons rfl (.cons rfl (.cons rfl (.cons rfl (.cons rfl (.cons rfl (.cons rfl (.cons rfl (.cons rfl (.cons rfl (.cons rfl (.cons rfl (.cons rfl (.cons rfl (.cons rfl (.cons rfl (.cons rfl (.cons rfl (.cons rfl (.cons rfl (.cons rfl (.cons rfl (.cons rfl (.cons rfl (.cons rfl (.cons rfl (.cons rfl (.cons rfl (.cons rfl (.cons rfl (.cons rfl (.cons rfl (.cons rfl (.cons rfl .nil)))))))))))))))))))))))))))))))))))))))))))))))))
        refine Ends.condF hA rfl ?_
        refine Ends.skip ?_
        refine Ends.inBlock ?_
        refine Ends.region ?_
        refine S.val hA (R.move rfl) rfl ?_; clear hA a; intro a hA
        refine S.val hA (R.addI rfl rfl (r := ((k : Int)) + 1) rfl (by omega)) rfl ?_; clear hA a; intro a hA
        refine S.val hA (R.assign rfl) rfl ?_; clear hA a; intro a hA
        refine S.done ?_
        replace hA : St 89 [(1, _), (5, _), (6, _), (8, _), (9, _), (10, _), (11, _), (12, _), (39, _), (40, _), (41, _), (42, _), (43, _), (44, _), (45, _), (46, _), (47, _), (48, _), (49, _), (50, _), (51, _), (52, _), (53, _), (54, _), (55, _), (56, _), (57, _), (58, _), (59, _), (60, _), (61, _), (62, _), (63, _), (64, _), (65, _), (66, _), (67, _), (68, _), (69, _), (70, _), (71, _), (72, _), (73, _), (74, _), (75, _), (76, _), (77, _), (78, _), (79, _), (80, _)] a := hA.sub ((.cons rfl (.cons rfl (.cons rfl (.cons rfl (.cons rfl (.cons rfl (.cons rfl (.cons rfl (.cons rfl (.cons rfl (.cons rfl (.cons rfl (.cons rfl (.cons rfl (.cons rfl (.cons rfl (.cons rfl (.cons rfl (.cons rfl (.cons rfl (.cons rfl (.cons rfl (.cons rfl (.cons rfl (.cons rfl (.cons rfl (.cons rfl (.cons rfl (.cons rfl (.cons rfl (.cons rfl (.cons rfl (.cons rfl (.cons rfl (.cons rfl (.cons rfl (.cons rfl (.cons rfl (.cons rfl (.cons rfl (.cons rfl (.cons rfl (.cons rfl (.cons rfl (.cons rfl (.cons rfl (.cons rfl (.cons rfl (.cons rfl (.cons rfl .nil)))))))))))))))))))))))))))))))))))))))))))))))))))
        replace hM := hM.front (k := 1) rfl
        replace hM := hM.front (k := 5) rfl
        replace hM := hM.front (k := 4) rfl
        replace hM := hM.front (k := 3) rfl
        replace hM : Mem _ _ [pt q4 #[.pointer (some ⟨m5, 0, none⟩), .int .i64 1, .int .i64 1, .slice (some ⟨pl7, 0, none⟩) 3 3] 119, pt pl7 ((vals ls)) 43, own 3 1 (.slice bv bX.length bc) bX.length (bX.map (Value.int .i64)), memO m5 c6 [0, lst * 64 + pp, 0] (s + 1 + 1) ⟨1, 1, lst * 64 + pp, lst * 64 + pp, true⟩, pt p16 #[.pointer (some ⟨q4, 0, none⟩), .int .i64 0, .slice a17 ((([(k : Int)] : List Int)).length) c18, .int .i64 ((n11 : Int)), .bool true, .int .i64 (lst * 64 + pp), .bool true, .bool false] 124, own 3 1 (.slice a17 ((([(k : Int)] : List Int)).length) c18) ((([(k : Int)] : List Int)).length) ((([(k : Int)] : List Int)).map (Value.int .i64))] _ := hM
        replace hM : Mem _ _ [pt q4 #[.pointer (some ⟨m5, 0, none⟩), .int .i64 1, .int .i64 1, .slice (some ⟨pl7, 0, none⟩) 3 3] 119, pt pl7 ((vals ls)) 43, own 3 1 (.slice bv bX.length bc) bX.length (bX.map (Value.int .i64)), memO m5 c6 [0, lst * 64 + pp, 0] (s + 1 + 1) ⟨1, 1, lst * 64 + pp, lst * 64 + pp, true⟩] _ := hM.firstN 4
        exact hNext ((k + 1, lst, pp, bv, bX, bc, ls, s + 1 + 1, ⟨1, 1, lst * 64 + pp, lst * 64 + pp, true⟩)) _ _ ((by show n - (k + 1) < n - k; omega)) ⟨hA.sub ((.cons rfl (.cons rfl (.cons rfl (.cons rfl (.cons rfl .nil)))))), hM, (by omega), hlen, hls, (by omega), (by omega), (by omega), hbX⟩
    ·
      refine Ends.exit rfl ?_
      replace hA : St 89 [(5, _), (8, _)] a := hA.sub ((.cons rfl (.cons rfl .nil)))
      refine Ends.seq ?_
      refine Ends.region ?_
      refine S.val hA (R.move rfl) rfl ?_; clear hA a; intro a hA
      replace hM := hM.front (k := 3) rfl
      replace hM := hM.front (k := 1) rfl
      replace hM := hM.front (k := 2) rfl
      replace hM := hM.front (k := 3) rfl
      replace hM : Mem _ _ [own 3 1 (.slice bv bX.length bc) bX.length (bX.map (Value.int .i64)), pt pl7 ((vals ls)) 43, pt q4 #[.pointer (some ⟨m5, 0, none⟩), .int .i64 1, .int .i64 1, .slice (some ⟨pl7, 0, none⟩) 3 3] 119, memO m5 c6 [0, lst * 64 + pp, 0] s op] _ := hM
      refine S.call hA (R.callF Try.func30 rfl rfl rfl) rfl (ibest_ok q4 pl7 3 1 ls bv bX bc m5 c6 s op hm5c6 lst pp (by first | omega | decide | (simp; done) | (simp; omega)) (by first | omega | decide | (simp; done) | (simp; omega)) (by first | omega | decide | (simp; done) | (simp; omega)) (by first | omega | decide | (simp; done) | (simp; omega)) hls _ (hM.hereN 4)) ?_; clear hA a
      rintro e w17 ⟨a20, c21, rfl, hn⟩
      replace hM : Mem _ _ [own 3 1 (.slice a20 bX.length c21) bX.length (bX.map (Value.int .i64)), own 3 1 (.slice bv bX.length bc) bX.length (bX.map (Value.int .i64)), pt pl7 ((vals ls)) 43, pt q4 #[.pointer (some ⟨m5, 0, none⟩), .int .i64 1, .int .i64 1, .slice (some ⟨pl7, 0, none⟩) 3 3] 119, memO m5 c6 [0, lst * 64 + pp, 0] s op] _ := hM.callL 4 hn; clear hn
      refine ⟨.tuple #[.slice a20 bX.length c21, .int .i64 lst], rfl, fun a hA => ?_⟩
      refine S.val hA (R.move rfl) rfl ?_; clear hA a; intro a hA
      refine S.val hA (R.extract (v := .slice a20 bX.length c21) rfl rfl) rfl ?_; clear hA a; intro a hA
      refine S.val hA (R.extract (v := .int .i64 lst) rfl rfl) rfl ?_; clear hA a; intro a hA
      refine S.val hA (R.assign rfl) rfl ?_; clear hA a; intro a hA
      refine S.val hA (R.assign rfl) rfl ?_; clear hA a; intro a hA
      refine S.done ?_
      replace hA : St 89 [(8, _), (14, _)] a := hA.sub ((.cons rfl (.cons rfl .nil)))
      refine Ends.seq ?_
      refine Ends.region ?_
      refine S.val hA (R.move rfl) rfl ?_; clear hA a; intro a hA
      refine S.val hA (R.move rfl) rfl ?_; clear hA a; intro a hA
      refine S.val hA (R.tt (R.eql rfl rfl) (by omega)) rfl ?_; clear hA a; intro a hA
      refine S.val hA (R.assign rfl) rfl ?_; clear hA a; intro a hA
      refine S.done ?_
      replace hA : St 89 [(4, _)] a := hA.sub ((.cons rfl .nil))
      refine Ends.ret1 Try.func8 Try.results8 hA rfl ?_
      exact ⟨rfl, hM.nilL.below⟩
  ·
    refine Ends.region ?_
    refine S.val hA (R.move rfl) rfl ?_; clear hA a; intro a hA
    refine S.val hA (R.move rfl) rfl ?_; clear hA a; intro a hA
    refine S.val hA (R.lenS Try.underlying43 rfl rfl) rfl ?_; clear hA a; intro a hA
    refine S.val hA (R.lss rfl rfl) rfl ?_; clear hA a; intro a hA
    refine S.val hA (R.move rfl) rfl ?_; clear hA a; intro a hA
    refine hA.split (d := 36) rfl ?_ ?_
    · clear hA; intro hg22 hA
      refine S.valg (dj := 36) hA (by kernel_rfl) rfl (R.move rfl) rfl ?_; clear hA a; intro a hA
      refine S.valg (dj := 36) hA (by kernel_rfl) rfl (R.lss rfl rfl) rfl ?_; clear hA a; intro a hA
      refine S.val hA (R.pickT rfl rfl) rfl ?_; clear hA a; intro a hA
      refine S.done ?_
      replace hA : St 89 [(1, _), (5, _), (6, _), (8, _), (9, _), (39, _)] a := hA.sub ((.cons rfl (.cons rfl (.cons rfl (.cons rfl (.cons rfl (.cons rfl .nil)))))))
      exact hJ _ _ ⟨hA.sub (.cons rfl (.cons rfl (.cons rfl (.cons rfl (.cons rfl (.cons (by first | rfl | exact congrArg (fun b => some (Value.bool b)) (by simp [hg22])) .nil)))))), hM⟩
    · clear hA; intro hg22 hA
      refine S.no (dj := 36) hA (by kernel_rfl) rfl rfl rfl ?_; clear hA a; intro a hA
      refine S.no (dj := 36) hA (by kernel_rfl) rfl rfl rfl ?_; clear hA a; intro a hA
      refine S.val hA (R.pickF rfl rfl) rfl ?_; clear hA a; intro a hA
      refine S.done ?_
      replace hA : St 89 [(1, _), (5, _), (6, _), (8, _), (9, _), (39, _)] a := hA.sub ((.cons rfl (.cons rfl (.cons rfl (.cons rfl (.cons rfl (.cons rfl .nil)))))))
      exact hJ _ _ ⟨hA.sub (.cons rfl (.cons rfl (.cons rfl (.cons rfl (.cons rfl (.cons (by first | rfl | exact congrArg (fun b => some (Value.bool b)) (by simp [hg22])) .nil)))))), hM⟩
theorem incAlone_any (f : Int) (v : Value) (l : List Int) (w : World) (_hf : (Lit.int .i64 f).wf = true) (hsl : IntSl w v l) (_hl : ∀ x ∈ l, (Lit.int .i64 x).wf = true) :
    Calls Try.prog 8 #[.int .i64 f, v] w fun e w' => e = .returned (.bool true) ∧ Below w.heap.size w w' := by
  obtain ⟨ad, cap, rfl⟩ := hsl.form
  exact incAlone_w f ad l.length cap l rfl w hsl
end Go.Proofs.Ytjjbognomeplbaa
