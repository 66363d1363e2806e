/-
  The law PoolAlone: one worker alone.
-/
import Derived.Test.YtjjbognomeplbaaPoolR
import Derived.Test.YtjjbognomeplbaaEngO
namespace Go.Proofs.Ytjjbognomeplbaa
open Go.RowKit

set_option maxRecDepth 100000 in
set_option maxHeartbeats 400000 in
theorem poolAlone_w (f_ : Int) (ad : Option Addr) (nr cap0 : Nat) (ol : List Int) (hln : nr = ol.length) (w : World) (hsl : IntSl w (.slice ad nr cap0) ol) :
    Calls Try.prog 11 #[.int .i64 f_, .slice ad nr cap0] w fun e w' => e = .returned (.bool true) ∧ Below w.heap.size w w' := by
  have hM := Mem.start w
  refine Calls.of_ends (vs := [.int .i64 f_, .slice ad nr cap0]) Try.func11 rfl Try.ntmps11 rfl ?_
  intro a hA
  replace hA : St 145 [(0, _), (1, _)] a := hA
  refine Ends.seq ?_
  refine Ends.region ?_
  refine S.val hA (R.assign rfl) rfl ?_; clear hA a; intro a hA
  refine S.done ?_
  replace hA : St 145 [(0, _), (1, _), (4, _)] a := hA.sub ((.cons rfl (.cons rfl (.cons rfl .nil))))
  refine Ends.seq ?_
  refine Ends.region ?_
  refine S.val hA (R.move rfl) rfl ?_; clear hA a; intro a hA
  refine S.val hA (R.conv Try.underlying22 Try.underlying3 rfl) rfl ?_; clear hA a; intro a hA
  refine S.val hA (R.remI rfl rfl rfl ⟨u64_nn _, by decide⟩) rfl ?_; clear hA a; intro a hA
  obtain ⟨n1, hn2, en3⟩ := umod_ex f_ 30 (by decide)
  refine S.val hA (R.to (v := .int .i64 (n1 : Int)) (R.conv Try.underlying3 Try.underlying22 rfl) (congrArg (Value.int .i64) en3)) rfl ?_; clear hA a; intro a hA
  obtain ⟨n, hnN⟩ : ∃ n : Int, n = 1 + (n1 : Int) := ⟨_, rfl⟩
  refine S.val hA (R.addI rfl rfl (r := n) (by first | omega | (simp; done)) (by first | omega | (simp; done))) rfl ?_; clear hA a; intro a hA
  refine S.val hA (R.assign rfl) rfl ?_; clear hA a; intro a hA
  refine S.done ?_
  replace hA : St 145 [(0, _), (1, _), (4, _)] a := hA.sub ((.cons rfl (.cons rfl (.cons rfl .nil))))
  refine Ends.seq ?_
  refine Ends.region ?_
  refine S.val hA (R.move rfl) rfl ?_; clear hA a; intro a hA
  refine S.call hA (R.callF Try.func42 rfl rfl rfl) rfl (pfresh_any n 1 (by first | omega | decide | (simp; done) | (simp; omega)) (by first | omega | decide | (simp; done) | (simp; omega)) _) ?_; clear hA a
  rintro e w1 ⟨q4, m5, c6, nb7, ob8, op9, rfl, hm5c6, hn⟩
  replace hM : Mem _ _ [pt q4 #[.pointer (some ⟨m5, 0, none⟩), .int .i64 3, .slice (some ⟨nb7, 0, none⟩) n.toNat n.toNat, .slice (some ⟨ob8, 0, none⟩) 1 1] 128, pt nb7 ((madeCells #[.slice none 0 0, .int .i64 0] (n.toNat * 2))) 77, pt ob8 #[.slice none 0 0] 43, memO m5 c6 ((linkL (List.replicate (3 + (n + 1)).toNat 0) 3 n n.toNat)) (0 + 1 + n) op9] _ := hM.call hn; clear hn
  refine ⟨.tuple #[.pointer (some ⟨q4, 0, none⟩), .pointer (some ⟨m5, 0, none⟩), .bool true], rfl, fun a hA => ?_⟩
  refine S.val hA (R.move rfl) rfl ?_; clear hA a; intro a hA
  refine S.val hA (R.extract (v := .pointer (some ⟨q4, 0, none⟩)) rfl rfl) rfl ?_; clear hA a; intro a hA
  refine S.val hA (R.extract (v := .pointer (some ⟨m5, 0, none⟩)) rfl rfl) rfl ?_; clear hA a; intro a hA
  refine S.val hA (R.extract (v := .bool true) rfl rfl) rfl ?_; clear hA a; intro a hA
  refine S.val hA (R.assign rfl) rfl ?_; clear hA a; intro a hA
  refine S.val hA (R.assign rfl) rfl ?_; clear hA a; intro a hA
  refine S.val hA (R.assign rfl) rfl ?_; clear hA a; intro a hA
  refine S.done ?_
  replace hA : St 145 [(0, _), (1, _), (4, _), (5, _), (7, _)] a := hA.sub ((.cons rfl (.cons rfl (.cons rfl (.cons rfl (.cons rfl .nil))))))
  refine Ends.seq ?_
  refine Ends.seq ?_
  refine Ends.region ?_
  refine S.call hA (R.callF Try.func43 rfl rfl rfl) rfl (ppools_any _) ?_; clear hA a
  rintro e w2 ⟨rfl, hb⟩
  replace hM := hM.callB hb; clear hb
  refine ⟨.bool true, rfl, fun a hA => ?_⟩
  refine S.val hA (R.not rfl) rfl ?_; clear hA a; intro a hA
  refine S.val hA (R.move rfl) rfl ?_; clear hA a; intro a hA
  refine S.valg (dj := 29) hA (by kernel_rfl) rfl (R.move rfl) rfl ?_; clear hA a; intro a hA
  refine S.valg (dj := 29) hA (by kernel_rfl) rfl (R.not rfl) rfl ?_; clear hA a; intro a hA
  refine S.val hA (R.pickF rfl rfl) rfl ?_; clear hA a; intro a hA
  refine S.done ?_
  replace hA : St 145 [(0, _), (1, _), (4, _), (5, _), (32, _)] a := hA.sub ((.cons rfl (.cons rfl (.cons rfl (.cons rfl (.cons rfl .nil))))))
  refine Ends.condF hA rfl ?_
  refine Ends.skip ?_
  refine Ends.seq ?_
  refine Ends.region ?_
  refine S.val hA (R.move rfl) rfl ?_; clear hA a; intro a hA
  refine S.call hA (R.callF Try.func58 rfl rfl rfl) rfl (rnew18 n (by omega) _) ?_; clear hA a
  rintro e w3 ⟨wb10, a11, c12, rfl, hn⟩
  replace hM : Mem _ _ [pt wb10 #[.slice a11 ((List.replicate n.toNat (-1) : List Int).length) c12] 93, own 3 1 (.slice a11 (((List.replicate n.toNat (-1) : List Int)).length) c12) (((List.replicate n.toNat (-1) : List Int)).length) (((List.replicate n.toNat (-1) : List Int)).map (Value.int .i64)), pt q4 #[.pointer (some ⟨m5, 0, none⟩), .int .i64 3, .slice (some ⟨nb7, 0, none⟩) n.toNat n.toNat, .slice (some ⟨ob8, 0, none⟩) 1 1] 128, pt nb7 ((madeCells #[.slice none 0 0, .int .i64 0] (n.toNat * 2))) 77, pt ob8 #[.slice none 0 0] 43, memO m5 c6 ((linkL (List.replicate (3 + (n + 1)).toNat 0) 3 n n.toNat)) (0 + 1 + n) op9] _ := hM.call hn; clear hn
  refine ⟨.pointer (some ⟨wb10, 0, none⟩), rfl, fun a hA => ?_⟩
  refine S.val hA (R.assign rfl) rfl ?_; clear hA a; intro a hA
  refine S.done ?_
  replace hA : St 145 [(0, _), (1, _), (4, _), (5, _), (8, _)] a := hA.sub ((.cons rfl (.cons rfl (.cons rfl (.cons rfl (.cons rfl .nil))))))
  refine Ends.seq ?_
  refine Ends.seq ?_
  obtain ⟨gH, hgH⟩ := hM.ownAt (k := 1) rfl (by rw [List.length_replicate]; omega)
  subst hgH
  replace hM : Mem _ _ [pt wb10 #[.slice (some ⟨gH, 0, none⟩) ((List.replicate n.toNat (-1) : List Int).length) c12] 93, own 3 1 (.slice (some ⟨gH, 0, none⟩) (((List.replicate n.toNat (-1) : List Int)).length) c12) (((List.replicate n.toNat (-1) : List Int)).length) (((List.replicate n.toNat (-1) : List Int)).map (Value.int .i64)), pt q4 #[.pointer (some ⟨m5, 0, none⟩), .int .i64 3, .slice (some ⟨nb7, 0, none⟩) n.toNat n.toNat, .slice (some ⟨ob8, 0, none⟩) 1 1] 128, pt nb7 ((madeCells #[.slice none 0 0, .int .i64 0] (n.toNat * 2))) 77, pt ob8 #[.slice none 0 0] 43, memO m5 c6 ((linkL (List.replicate (3 + (n + 1)).toNat 0) 3 n n.toNat)) (0 + 1 + n) op9] _ := hM
  refine Ends.region ?_
  refine S.val hA (R.assign rfl) rfl ?_; clear hA a; intro a hA
  refine S.done ?_
  replace hA : St 145 [(0, _), (1, _), (4, _), (5, _), (8, _), (9, _)] a := hA.sub ((.cons rfl (.cons rfl (.cons rfl (.cons rfl (.cons rfl (.cons rfl .nil)))))))
  refine Ends.block ?_
  replace hM := hM.ownNil 3 1
  replace hM : Mem _ _ [own 3 1 (.slice none ((([] : List Int)).length) 0) ((([] : List Int)).length) ((([] : List Int)).map (Value.int .i64)), pt wb10 #[.slice (some ⟨gH, 0, none⟩) ((List.replicate n.toNat (-1) : List Int).length) c12] 93, own 3 1 (.slice (some ⟨gH, 0, none⟩) (((List.replicate n.toNat (-1) : List Int)).length) c12) (((List.replicate n.toNat (-1) : List Int)).length) (((List.replicate n.toNat (-1) : List Int)).map (Value.int .i64)), pt q4 #[.pointer (some ⟨m5, 0, none⟩), .int .i64 3, .slice (some ⟨nb7, 0, none⟩) n.toNat n.toNat, .slice (some ⟨ob8, 0, none⟩) 1 1] 128, pt nb7 ((madeCells #[.slice none 0 0, .int .i64 0] (n.toNat * 2))) 77, pt ob8 #[.slice none (([] : List Int).length) 0] 43, memO m5 c6 ((linkL (List.replicate (3 + (n + 1)).toNat 0) 3 n n.toNat)) (0 + 1 + n) op9] _ := hM
  replace hM := hM.front (k := 2) rfl
  replace hM := hM.front (k := 2) rfl
  replace hM := hM.front (k := 6) rfl
  replace hM := hM.front (k := 3) rfl
  replace hM := hM.front (k := 6) rfl
  replace hM := hM.front (k := 5) rfl
  replace hM : Mem _ _ [pt q4 #[.pointer (some ⟨m5, 0, none⟩), .int .i64 3, .slice (some ⟨nb7, 0, none⟩) n.toNat n.toNat, .slice (some ⟨ob8, 0, none⟩) 1 1] 128, pt ob8 #[.slice none (([] : List Int).length) 0] 43, own 3 1 (.slice none ((([] : List Int)).length) 0) ((([] : List Int)).length) ((([] : List Int)).map (Value.int .i64)), memO m5 c6 ((linkL (List.replicate (3 + (n + 1)).toNat 0) 3 n n.toNat)) (0 + 1 + n) op9, pt wb10 #[.slice (some ⟨gH, 0, none⟩) ((List.replicate n.toNat (-1) : List Int).length) c12] 93, own 3 1 (.slice (some ⟨gH, 0, none⟩) (((List.replicate n.toNat (-1) : List Int)).length) c12) (((List.replicate n.toNat (-1) : List Int)).length) (((List.replicate n.toNat (-1) : List Int)).map (Value.int .i64)), pt nb7 ((madeCells #[.slice none 0 0, .int .i64 0] (n.toNat * 2))) 77] _ := hM
  replace hM : Mem _ _ [pt q4 #[.pointer (some ⟨m5, 0, none⟩), .int .i64 3, .slice (some ⟨nb7, 0, none⟩) n.toNat n.toNat, .slice (some ⟨ob8, 0, none⟩) 1 1] 128, pt ob8 #[.slice none (([] : List Int).length) 0] 43, own 3 1 (.slice none ((([] : List Int)).length) 0) ((([] : List Int)).length) ((([] : List Int)).map (Value.int .i64)), memO m5 c6 ((linkL (List.replicate (3 + (n + 1)).toNat 0) 3 n n.toNat)) (0 + 1 + n) op9, pt wb10 #[.slice (some ⟨gH, 0, none⟩) ((List.replicate n.toNat (-1) : List Int).length) c12] 93, own 3 1 (.slice (some ⟨gH, 0, none⟩) (((List.replicate n.toNat (-1) : List Int)).length) c12) (((List.replicate n.toNat (-1) : List Int)).length) (((List.replicate n.toNat (-1) : List Int)).map (Value.int .i64))] _ := hM.firstN 6
  have hgi0 := gi_new (n := n) (N := (3 + (n + 1)).toNat) (ws := 1) (by omega) rfl
  refine Ends.loop (σ := Nat × Int × List Int × List Int × List Int × List Int × Option Addr × Nat × Int × CellOp) (fun (r, V, l, xs, Y, H, av, cap, s, op) (a : Act) (wv : World) => St 145 [(0, .int .i64 n), (1, .slice ad nr cap0), (5, .pointer (some ⟨q4, 0, none⟩)), (8, .pointer (some ⟨wb10, 0, none⟩)), (9, .int .i64 ((r : Int)))] a ∧ Mem w nof [pt q4 #[.pointer (some ⟨m5, 0, none⟩), .int .i64 3, .slice (some ⟨nb7, 0, none⟩) n.toNat n.toNat, .slice (some ⟨ob8, 0, none⟩) 1 1] 128, pt ob8 #[.slice av Y.length cap] 43, own 3 1 (.slice av Y.length cap) Y.length (Y.map (Value.int .i64)), memO m5 c6 l s op, pt wb10 #[.slice (some ⟨gH, 0, none⟩) H.length c12] 93, own 3 1 (.slice (some ⟨gH, 0, none⟩) H.length c12) H.length (H.map (Value.int .i64))] wv ∧ (r ≤ 2) ∧ (GI 3 n V l H xs [Y] [none]) ∧ (H.count (-1) = n.toNat) ∧ (Two H) ∧ (0 ≤ s ∧ s ≤ 100 + 400 * (r : Int)) ∧ (V ≤ 100 * (r : Int))) (fun (r, V, l, xs, Y, H, av, cap, s, op) => 2 - r) ((0, 0, (linkL (List.replicate (3 + (n + 1)).toNat 0) 3 n n.toNat), ((List.range' 0 n.toNat).map Int.ofNat), ([] : List Int), (List.replicate n.toNat (-1) : List Int), none, 0, 0 + 1 + n, op9)) ⟨hA.sub ((.cons rfl (.cons rfl (.cons rfl (.cons rfl (.cons rfl .nil)))))), hM, (by omega), hgi0, (cnt_new _), (two_new _), (by omega), (by omega)⟩ ?_
  clear hA hM a
  rintro ⟨r, V, l, xs, Y, H, av, cap, s, op⟩ a w4 ⟨hA, hM, hk, hg, hcn, htwo, hs, hV⟩ hNext
  refine Ends.seq ?_
  refine Ends.seq ?_
  refine Ends.region ?_
  refine S.val hA (R.move rfl) rfl ?_; clear hA a; intro a hA
  refine S.val hA (R.lss rfl rfl) rfl ?_; clear hA a; intro a hA
  refine S.done ?_
  replace hA : St 145 [(0, _), (1, _), (5, _), (8, _), (9, _), (35, _), (36, _)] a := hA.sub ((.cons rfl (.cons rfl (.cons rfl (.cons rfl (.cons rfl (.cons rfl (.cons rfl .nil))))))))
  refine Ends.ite hA rfl (fun hc13 => ?_) (fun hc13 => ?_)
  ·
    refine Ends.skip ?_
    refine Ends.seq ?_
    refine Ends.block ?_
    refine Ends.seq ?_
    refine Ends.seq ?_
    refine Ends.region ?_
    refine S.val hA (R.assign rfl) rfl ?_; clear hA a; intro a hA
    refine S.done ?_
    replace hA : St 145 [(0, _), (1, _), (5, _), (8, _), (9, _), (10, _), (35, _), (36, _)] a := hA.sub ((.cons rfl (.cons rfl (.cons rfl (.cons rfl (.cons rfl (.cons rfl (.cons rfl (.cons rfl .nil)))))))))
    refine Ends.block ?_
    replace hM : Mem _ _ [pt q4 #[.pointer (some ⟨m5, 0, none⟩), .int .i64 3, .slice (some ⟨nb7, 0, none⟩) n.toNat n.toNat, .slice (some ⟨ob8, 0, none⟩) 1 1] 128, pt ob8 #[.slice av Y.length cap] 43, own 3 1 (.slice av Y.length cap) Y.length (Y.map (Value.int .i64)), memO m5 c6 l s op, pt wb10 #[.slice (some ⟨gH, 0, none⟩) H.length c12] 93, own 3 1 (.slice (some ⟨gH, 0, none⟩) H.length c12) H.length (H.map (Value.int .i64))] _ := hM.firstN 6
    refine Ends.loop (σ := Nat × Int × List Int × List Int × List Int × List Int × Option Addr × Nat × Int × CellOp) (fun (k, V1, l1, xs1, Y1, H1, av1, cap1, s1, op1) (a : Act) (wv : World) => St 145 [(0, .int .i64 n), (1, .slice ad nr cap0), (5, .pointer (some ⟨q4, 0, none⟩)), (8, .pointer (some ⟨wb10, 0, none⟩)), (9, .int .i64 ((r : Int))), (10, .int .i64 ((k : Int))), (35, .int .i64 ((r : Int))), (36, .bool (decide (((r : Int)) < 2)))] a ∧ Mem w nof [pt q4 #[.pointer (some ⟨m5, 0, none⟩), .int .i64 3, .slice (some ⟨nb7, 0, none⟩) n.toNat n.toNat, .slice (some ⟨ob8, 0, none⟩) 1 1] 128, pt ob8 #[.slice av1 Y1.length cap1] 43, own 3 1 (.slice av1 Y1.length cap1) Y1.length (Y1.map (Value.int .i64)), memO m5 c6 l1 s1 op1, pt wb10 #[.slice (some ⟨gH, 0, none⟩) H1.length c12] 93, own 3 1 (.slice (some ⟨gH, 0, none⟩) H1.length c12) H1.length (H1.map (Value.int .i64))] wv ∧ ((k : Int) ≤ n) ∧ (GI 3 n V1 l1 H1 xs1 [Y1] [none]) ∧ (H1.count (-1) = n.toNat - k) ∧ (Two H1) ∧ (s ≤ s1 ∧ s1 ≤ s + 5 * (k : Int)) ∧ (V1 ≤ V + (k : Int))) (fun (k, V1, l1, xs1, Y1, H1, av1, cap1, s1, op1) => n.toNat - k) ((0, V, l, xs, Y, H, av, cap, s, op)) ⟨hA.sub ((.cons rfl (.cons rfl (.cons rfl (.cons rfl (.cons rfl (.cons rfl (.cons rfl (.cons rfl .nil))))))))), hM, (by omega), hg, (by omega), htwo, (by omega), (by omega)⟩ ?_
    clear hA hM a
    rintro ⟨k, V1, l1, xs1, Y1, H1, av1, cap1, s1, op1⟩ a w5 ⟨hA, hM, hk1, hg1, hcn1, htwo1, hs1, hV1⟩ hNext1
    refine Ends.seq ?_
    refine Ends.seq ?_
    refine Ends.region ?_
    refine S.val hA (R.move rfl) rfl ?_; clear hA a; intro a hA
    refine S.val hA (R.move rfl) rfl ?_; clear hA a; intro a hA
    refine S.val hA (R.lss rfl rfl) rfl ?_; clear hA a; intro a hA
    refine S.done ?_
    replace hA : St 145 [(0, _), (1, _), (5, _), (8, _), (9, _), (10, _), (35, _), (36, _), (39, _), (40, _), (41, _)] a := hA.sub ((.cons rfl (.cons rfl (.cons rfl (.cons rfl (.cons rfl (.cons rfl (.cons rfl (.cons rfl (.cons rfl (.cons rfl (.cons rfl .nil))))))))))))
    refine Ends.ite hA rfl (fun hc14 => ?_) (fun hc14 => ?_)
    ·
      refine Ends.skip ?_
      refine Ends.seq ?_
      refine Ends.block ?_
      refine Ends.seq ?_
      have hHl1 := hg1.held.1
      refine Ends.region ?_
      refine S.val hA (R.move rfl) rfl ?_; clear hA a; intro a hA
      refine S.call hA (R.callF Try.func50 rfl rfl rfl) rfl (ptake_ok q4 m5 nb7 ob8 n.toNat 1 3 0 (by first | omega | decide | (simp; done) | (simp; omega)) _ (hM.block (k := 0) rfl)) ?_; clear hA a
      rintro e w6 ⟨r15, rfl, hn⟩
      replace hM : Mem _ _ [pt r15 #[.pointer (some ⟨q4, 0, none⟩), .int .i64 0, .bool false, .int .i64 (-1), .int .i64 0, .int .i64 0, .int .i64 0] 131, pt q4 #[.pointer (some ⟨m5, 0, none⟩), .int .i64 3, .slice (some ⟨nb7, 0, none⟩) n.toNat n.toNat, .slice (some ⟨ob8, 0, none⟩) 1 1] 128, pt ob8 #[.slice av1 Y1.length cap1] 43, own 3 1 (.slice av1 Y1.length cap1) Y1.length (Y1.map (Value.int .i64)), memO m5 c6 l1 s1 op1, pt wb10 #[.slice (some ⟨gH, 0, none⟩) H1.length c12] 93, own 3 1 (.slice (some ⟨gH, 0, none⟩) H1.length c12) H1.length (H1.map (Value.int .i64))] _ := hM.call hn; clear hn
      refine ⟨.pointer (some ⟨r15, 0, none⟩), rfl, fun a hA => ?_⟩
      refine S.val hA (R.assign rfl) rfl ?_; clear hA a; intro a hA
      refine S.done ?_
      replace hA : St 145 [(0, _), (1, _), (5, _), (8, _), (9, _), (10, _), (11, _), (35, _), (36, _), (39, _), (40, _), (41, _), (44, _), (45, _)] a := hA.sub ((.cons rfl (.cons rfl (.cons rfl (.cons rfl (.cons rfl (.cons rfl (.cons rfl (.cons rfl (.cons rfl (.cons rfl (.cons rfl (.cons rfl (.cons rfl (.cons rfl .nil)))))))))))))))
      refine Ends.seq ?_
      refine Ends.seq ?_
      refine Ends.drawn (Mem w nof [pt wb10 #[.slice (some ⟨gH, 0, none⟩) H1.length c12] 93, own 3 1 (.slice (some ⟨gH, 0, none⟩) H1.length c12) H1.length (H1.map (Value.int .i64))]) (.cons (0, true) (.cons (1, false) (.cons (2, true) (.cons (3, true) (.cons (4, true) (.cons (5, false) (.cons (6, true) (.cons (7, true) (.cons (8, true) (.cons (9, true) (.cons (11, true) (.cons (10, false) (.cons (12, true) (.cons (13, true) (.cons (14, true) (.cons (15, true) (.cons (16, true) (.cons (17, true) (.cons (18, true) (.cons (19, true) (.cons (20, false) (.cons (21, true) (.cons (22, true) (.cons (23, true) (.cons (24, true) .nil))))))))))))))))))))))))) 25 mixed (by kernel_rfl) (by kernel_rfl) (by kernel_rfl) (((((hM.drop 4).drop 3).drop 2).drop 1).drop 0).drew ?_
      replace hM := hM.drew
      refine D.valF hA rfl (fun _ => R.move rfl) rfl ?_; clear hA a; intro a hA
      refine D.call hA rfl (R.callF Try.func59 rfl rfl rfl) rfl (prun_gi r15 q4 m5 nb7 n.toNat ob8 1 c6 3 0 n V1 [.slice none 0 0] av1 cap1 op1 hm5c6 (by decide) rfl ⟨false, -1, 0, 0, 0⟩ Y1 l1 s1 (by omega) H1 xs1 [Y1] [some ⟨false, -1, 0, 0, 0⟩] 0 (gi_begin (k := 0) hg1 (acti_take 3 n l1 H1 0)) (by omega) rfl rfl _ (hM.hereN 5)) ?_; clear hA a
      rintro e w7 ⟨a16, c17, o18, r19, ⟨t20, Y21, l22, s23⟩, rfl, hn, hss23, hrr19, hendt20⟩
      replace hM : Mem _ _ [pt r15 #[.pointer (some ⟨q4, 0, none⟩), .int .i64 0, .bool t20.give, .int .i64 t20.slot, .int .i64 t20.ph, .int .i64 t20.top, .int .i64 t20.next] 131, pt q4 #[.pointer (some ⟨m5, 0, none⟩), .int .i64 3, .slice (some ⟨nb7, 0, none⟩) n.toNat n.toNat, .slice (some ⟨ob8, 0, none⟩) 1 1] 128, pt ob8 #[.slice a16 Y21.length c17] 43, own 3 1 (.slice a16 Y21.length c17) Y21.length (Y21.map (Value.int .i64)), memO m5 c6 l22 s23 o18, pt wb10 #[.slice (some ⟨gH, 0, none⟩) H1.length c12] 93, own 3 1 (.slice (some ⟨gH, 0, none⟩) H1.length c12) H1.length (H1.map (Value.int .i64))] _ := hM.callL 5 hn; clear hn
      replace hrr19 : 0 ≤ r19 := hrr19 rfl
      replace hss23 : s1 ≤ s23 ∧ s23 ≤ s1 + 5 := hss23
      obtain ⟨xs24, hpht20, hslt20, hfrt20, hgit20⟩ := alone_take hendt20 (by omega)
      replace hfrt20 : H1.getD t20.slot.toNat 0 = -1 := hfrt20
      replace hslt20 : 0 ≤ t20.slot ∧ t20.slot < n := hslt20
      replace hgit20 : GI 3 n (V1 + 1) l22 (H1.set t20.slot.toNat 0) xs24 [Y21] [none] := hgit20
      have hct := cnt_take hfrt20 (show (0 : Int) ≠ -1 by decide)
      have hin : ((t20.slot.toNat : Nat) : Int) < n := by omega
      replace hpht20 : t20.ph = 3 := hpht20
      refine ⟨.int .i64 r19, rfl, (((((hM.drop 4).drop 3).drop 2).drop 1).drop 0), fun a hA => ?_⟩
      refine D.valF hA rfl (fun _ => R.ff (R.lss rfl rfl) (by first | omega | (simp; done))) rfl ?_; clear hA a; intro a hA
      refine D.valF hA rfl (fun _ => R.move rfl) rfl ?_; clear hA a; intro a hA
      refine D.valgF (dj := 49) hA rfl (by kernel_rfl) rfl (fun _ => R.move rfl) rfl ?_; clear hA a; intro a hA
      refine D.callg (dj := 49) hA rfl (by kernel_rfl) rfl (R.callF Try.func56 rfl rfl rfl) rfl (pact_slot r15 q4 0 ⟨t20.give, t20.slot, t20.ph, t20.top, t20.next⟩ hpht20 _ (hM.block (k := 0) rfl)) ?_; clear hA a
      rintro e w8 ⟨rfl, rfl⟩
      refine ⟨.int .i64 t20.slot, rfl, (((((hM.drop 4).drop 3).drop 2).drop 1).drop 0), fun a hA => ?_⟩
      refine D.valgF (dj := 49) hA rfl (by kernel_rfl) rfl (fun _ => R.ff (R.lss rfl rfl) (by first | omega | (simp; done))) rfl ?_; clear hA a; intro a hA
      refine D.valF hA rfl (fun _ => R.pickF rfl rfl) rfl ?_; clear hA a; intro a hA
      refine D.valF hA rfl (fun _ => R.move rfl) rfl ?_; clear hA a; intro a hA
      refine D.valgF (dj := 54) hA rfl (by kernel_rfl) rfl (fun _ => R.move rfl) rfl ?_; clear hA a; intro a hA
      refine D.valgF (dj := 54) hA rfl (by kernel_rfl) rfl (fun _ => R.move rfl) rfl ?_; clear hA a; intro a hA
      refine D.callg (dj := 54) hA rfl (by kernel_rfl) rfl (R.callF Try.func56 rfl rfl rfl) rfl (pact_slot r15 q4 0 ⟨t20.give, t20.slot, t20.ph, t20.top, t20.next⟩ hpht20 _ (hM.block (k := 0) rfl)) ?_; clear hA a
      rintro e w9 ⟨rfl, rfl⟩
      refine ⟨.int .i64 t20.slot, rfl, (((((hM.drop 4).drop 3).drop 2).drop 1).drop 0), fun a hA => ?_⟩
      refine D.valgF (dj := 54) hA rfl (by kernel_rfl) rfl (fun _ => R.ff (R.geq rfl rfl) (by first | omega | (simp; done))) rfl ?_; clear hA a; intro a hA
      refine D.valF hA rfl (fun _ => R.pickF rfl rfl) rfl ?_; clear hA a; intro a hA
      refine D.valF hA rfl (fun _ => R.move rfl) rfl ?_; clear hA a; intro a hA
      refine D.valgF (dj := 60) hA rfl (by kernel_rfl) rfl (fun _ => R.move rfl) rfl ?_; clear hA a; intro a hA
      refine D.valgF (dj := 60) hA rfl (by kernel_rfl) rfl (fun _ => R.nilCheck rfl) rfl ?_; clear hA a; intro a hA
      refine D.valgF (dj := 60) hA rfl (by kernel_rfl) rfl (fun _ => R.fieldAddr (q := 0) fi93_0 rfl rfl rfl) rfl ?_; clear hA a; intro a hA
      refine D.valg (dj := 60) hA rfl (by kernel_rfl) (by kernel_rfl) rfl (fun _ hM => R.load sz43 rfl (hM.cell (k := 0) rfl rfl)) rfl ?_; clear hA a; intro a hA
      refine D.valgF (dj := 60) hA rfl (by kernel_rfl) rfl (fun _ => R.move rfl) rfl ?_; clear hA a; intro a hA
      refine D.callg (dj := 60) hA rfl (by kernel_rfl) rfl (R.callF Try.func56 rfl rfl rfl) rfl (pact_slot r15 q4 0 ⟨t20.give, t20.slot, t20.ph, t20.top, t20.next⟩ hpht20 _ (hM.block (k := 0) rfl)) ?_; clear hA a
      rintro e w10 ⟨rfl, rfl⟩
      refine ⟨.int .i64 t20.slot, rfl, (((((hM.drop 4).drop 3).drop 2).drop 1).drop 0), fun a hA => ?_⟩
      refine D.valgF (dj := 60) hA rfl (by kernel_rfl) rfl (fun _ => R.indexAddr (q := t20.slot.toNat) sl43 rfl rfl (by first | omega | (simp; done)) (by first | omega | (simp; done))) rfl ?_; clear hA a; intro a hA
      refine D.valg (dj := 60) hA rfl (by kernel_rfl) (by kernel_rfl) rfl (fun _ hM => R.load sz3 rfl (hM.ownCell (k := 1) rfl (mapi_get _ _ (by first | omega | (simp; done))))) rfl ?_; clear hA a; intro a hA
      refine D.valgF (dj := 60) hA rfl (by kernel_rfl) rfl (fun _ => R.ff (R.neq rfl rfl) (by first | omega | (simp; done))) rfl ?_; clear hA a; intro a hA
      refine D.valF hA rfl (fun _ => R.pickF rfl rfl) rfl ?_; clear hA a; intro a hA
      refine D.done ?_
      replace hA : St 145 [(0, _), (1, _), (5, _), (8, _), (9, _), (10, _), (11, _), (35, _), (36, _), (39, _), (40, _), (41, _), (44, _), (45, _), (46, _), (47, _), (48, _), (49, _), (50, _), (51, _), (52, _), (53, _), (54, _), (55, _), (56, _), (57, _), (58, _), (59, _), (60, _), (61, _), (62, _), (63, _), (64, _), (65, _), (66, _), (67, _), (68, _), (69, _), (70, _)] a := hA.sub ((.cons rfl (.cons rfl (.cons rfl (.cons rfl (.cons rfl (.cons rfl (.cons rfl (.cons rfl (.cons rfl (.cons rfl (.cons rfl (.cons rfl (.cons rfl (.cons rfl (.cons rfl (.cons rfl (.cons rfl (.cons rfl (.cons rfl (.cons rfl (.cons rfl (.cons rfl (.cons rfl (.cons rfl (.cons rfl (.cons rfl (.cons rfl (.cons rfl (.cons rfl (.cons rfl (.cons rfl (.cons rfl (.cons rfl (.cons rfl (.cons rfl (.cons rfl (.cons rfl (.cons rfl (.cons rfl .nil))))))))))))))))))))))))))))))))))))))))
      refine Ends.condF hA rfl ?_
      refine Ends.skip ?_
      refine Ends.drawn (Mem w nof [pt wb10 #[.slice (some ⟨gH, 0, none⟩) H1.length c12] 93, own 3 1 (.slice (some ⟨gH, 0, none⟩) H1.length c12) H1.length (H1.map (Value.int .i64))]) (.cons (0, true) (.cons (1, true) (.cons (2, true) (.cons (3, true) (.cons (4, true) (.cons (5, false) (.cons (6, true) (.cons (7, false) .nil)))))))) 7 mixed (by kernel_rfl) (by kernel_rfl) (by kernel_rfl) (((((hM.drop 4).drop 3).drop 2).drop 1).drop 0).drew ?_
      replace hM := hM.drew
      refine D.valF hA rfl (fun _ => R.move rfl) rfl ?_; clear hA a; intro a hA
      refine D.valF hA rfl (fun _ => R.nilCheck rfl) rfl ?_; clear hA a; intro a hA
      refine D.valF hA rfl (fun _ => R.fieldAddr (q := 0) fi93_0 rfl rfl rfl) rfl ?_; clear hA a; intro a hA
      refine D.val hA rfl (by kernel_rfl) (fun _ hM => R.load sz43 rfl (hM.cell (k := 0) rfl rfl)) rfl ?_; clear hA a; intro a hA
      refine D.valF hA rfl (fun _ => R.move rfl) rfl ?_; clear hA a; intro a hA
      refine D.call hA rfl (R.callF Try.func56 rfl rfl rfl) rfl (pact_slot r15 q4 0 ⟨t20.give, t20.slot, t20.ph, t20.top, t20.next⟩ hpht20 _ (hM.block (k := 0) rfl)) ?_; clear hA a
      rintro e w11 ⟨rfl, rfl⟩
      refine ⟨.int .i64 t20.slot, rfl, (((((hM.drop 4).drop 3).drop 2).drop 1).drop 0), fun a hA => ?_⟩
      refine D.valF hA rfl (fun _ => R.indexAddr (q := t20.slot.toNat) sl43 rfl rfl (by first | omega | (simp; done)) (by first | omega | (simp; done))) rfl ?_; clear hA a; intro a hA
      refine D.storeO (k := 6) hA hM rfl sz3 rfl rfl rfl rfl (mapi_get H1 t20.slot.toNat (by first | omega | (simp; done))) ?_; clear hM; intro w12 hM; rw [mapi_set] at hM
      refine ⟨fun hne => absurd rfl hne, ?_⟩
      replace hM : Mem _ _ [pt r15 #[.pointer (some ⟨q4, 0, none⟩), .int .i64 0, .bool t20.give, .int .i64 t20.slot, .int .i64 t20.ph, .int .i64 t20.top, .int .i64 t20.next] 131, pt q4 #[.pointer (some ⟨m5, 0, none⟩), .int .i64 3, .slice (some ⟨nb7, 0, none⟩) n.toNat n.toNat, .slice (some ⟨ob8, 0, none⟩) 1 1] 128, pt ob8 #[.slice a16 Y21.length c17] 43, own 3 1 (.slice a16 Y21.length c17) Y21.length (Y21.map (Value.int .i64)), memO m5 c6 l22 s23 o18, pt wb10 #[.slice (some ⟨gH, 0, none⟩) H1.length c12] 93, own 3 1 (.slice (some ⟨gH, 0, none⟩) H1.length c12) H1.length (((H1.set t20.slot.toNat 0)).map (Value.int .i64))] _ := hM
      refine D.done ?_
      replace hA : St 145 [(0, _), (1, _), (5, _), (8, _), (9, _), (10, _), (11, _), (35, _), (36, _), (39, _), (40, _), (41, _), (44, _), (45, _), (46, _), (47, _), (48, _), (49, _), (50, _), (51, _), (52, _), (53, _), (54, _), (55, _), (56, _), (57, _), (58, _), (59, _), (60, _), (61, _), (62, _), (63, _), (64, _), (65, _), (66, _), (67, _), (68, _), (69, _), (70, _), (71, _), (72, _), (73, _), (74, _), (75, _), (76, _), (77, _)] a := hA.sub ((.cons rfl (.cons rfl (.cons rfl (.cons rfl (.cons rfl (.cons rfl (.cons rfl (.cons rfl (.cons rfl (.cons rfl (.cons rfl (.cons rfl (.cons rfl (.cons rfl (.cons rfl (.cons rfl (.cons rfl (.cons rfl (.cons rfl (.cons rfl (.cons rfl (.cons rfl (.cons rfl (.cons rfl (.cons rfl (.cons rfl (.cons rfl (.cons rfl (.cons rfl (.cons rfl (.cons rfl (.cons rfl (.cons rfl (.cons rfl (.cons rfl (.cons rfl (.cons rfl (.cons rfl (.cons rfl (.cons rfl (.cons rfl (.cons rfl (.cons rfl (.cons rfl (.cons rfl (.cons rfl .nil)))))))))))))))))))))))))))))))))))))))))))))))
      refine Ends.inBlock ?_
      refine Ends.region ?_
      refine S.val hA (R.move rfl) rfl ?_; clear hA a; intro a hA
      refine S.val hA (R.addI rfl rfl (r := ((k : Int)) + 1) rfl (by first | omega | (simp; done))) rfl ?_; clear hA a; intro a hA
      refine S.val hA (R.assign rfl) rfl ?_; clear hA a; intro a hA
      refine S.done ?_
      replace hA : St 145 [(0, _), (1, _), (5, _), (8, _), (9, _), (10, _), (11, _), (35, _), (36, _), (39, _), (40, _), (41, _), (42, _), (43, _), (44, _), (45, _), (46, _), (47, _), (48, _), (49, _), (50, _), (51, _), (52, _), (53, _), (54, _), (55, _), (56, _), (57, _), (58, _), (59, _), (60, _), (61, _), (62, _), (63, _), (64, _), (65, _), (66, _), (67, _), (68, _), (69, _), (70, _), (71, _), (72, _), (73, _), (74, _), (75, _), (76, _), (77, _)] a := hA.sub ((.cons rfl (.cons rfl (.cons rfl (.cons rfl (.cons rfl (.cons rfl (.cons rfl (.cons rfl (.cons rfl (.cons rfl (.cons rfl (.cons rfl (.cons rfl (.cons rfl (.cons rfl (.cons rfl (.cons rfl (.cons rfl (.cons rfl (.cons rfl (.cons rfl (.cons rfl (.cons rfl (.cons rfl (.cons rfl (.cons rfl (.cons rfl (.cons rfl (.cons rfl (.cons rfl (.cons rfl (.cons rfl (.cons rfl (.cons rfl (.cons rfl (.cons rfl (.cons rfl (.cons rfl (.cons rfl (.cons rfl (.cons rfl (.cons rfl (.cons rfl (.cons rfl (.cons rfl (.cons rfl (.cons rfl (.cons rfl .nil)))))))))))))))))))))))))))))))))))))))))))))))))
      rw [show H1.length = ((H1.set t20.slot.toNat 0)).length by simp] at hM
      replace hM := hM.front (k := 6) rfl
      replace hM := hM.front (k := 6) rfl
      replace hM := hM.front (k := 6) rfl
      replace hM := hM.front (k := 6) rfl
      replace hM := hM.front (k := 6) rfl
      replace hM := hM.front (k := 6) rfl
      replace hM : Mem _ _ [pt q4 #[.pointer (some ⟨m5, 0, none⟩), .int .i64 3, .slice (some ⟨nb7, 0, none⟩) n.toNat n.toNat, .slice (some ⟨ob8, 0, none⟩) 1 1] 128, pt ob8 #[.slice a16 Y21.length c17] 43, own 3 1 (.slice a16 Y21.length c17) Y21.length (Y21.map (Value.int .i64)), memO m5 c6 l22 s23 o18, pt wb10 #[.slice (some ⟨gH, 0, none⟩) (((H1.set t20.slot.toNat 0)).length) c12] 93, own 3 1 (.slice (some ⟨gH, 0, none⟩) (((H1.set t20.slot.toNat 0)).length) c12) (((H1.set t20.slot.toNat 0)).length) (((H1.set t20.slot.toNat 0)).map (Value.int .i64)), pt r15 #[.pointer (some ⟨q4, 0, none⟩), .int .i64 0, .bool t20.give, .int .i64 t20.slot, .int .i64 t20.ph, .int .i64 t20.top, .int .i64 t20.next] 131] _ := hM
      replace hM : Mem _ _ [pt q4 #[.pointer (some ⟨m5, 0, none⟩), .int .i64 3, .slice (some ⟨nb7, 0, none⟩) n.toNat n.toNat, .slice (some ⟨ob8, 0, none⟩) 1 1] 128, pt ob8 #[.slice a16 Y21.length c17] 43, own 3 1 (.slice a16 Y21.length c17) Y21.length (Y21.map (Value.int .i64)), memO m5 c6 l22 s23 o18, pt wb10 #[.slice (some ⟨gH, 0, none⟩) (((H1.set t20.slot.toNat 0)).length) c12] 93, own 3 1 (.slice (some ⟨gH, 0, none⟩) (((H1.set t20.slot.toNat 0)).length) c12) (((H1.set t20.slot.toNat 0)).length) (((H1.set t20.slot.toNat 0)).map (Value.int .i64))] _ := hM.firstN 6
      exact hNext1 ((k + 1, V1 + 1, l22, xs24, Y21, (H1.set t20.slot.toNat 0), a16, c17, s23, o18)) _ _ ((by show n.toNat - (k + 1) < n.toNat - k; omega)) ⟨hA.sub ((.cons rfl (.cons rfl (.cons rfl (.cons rfl (.cons rfl (.cons rfl (.cons rfl (.cons rfl .nil))))))))), hM, (by omega), hgit20, (by omega), (two_set htwo1 _ (by right; rfl)), (by omega), (by omega)⟩
    ·
      refine Ends.exit rfl ?_
      replace hA : St 145 [(0, _), (1, _), (5, _), (8, _), (9, _), (10, _), (35, _), (36, _), (39, _), (40, _), (41, _)] a := hA.sub ((.cons rfl (.cons rfl (.cons rfl (.cons rfl (.cons rfl (.cons rfl (.cons rfl (.cons rfl (.cons rfl (.cons rfl (.cons rfl .nil))))))))))))
      refine Ends.seq ?_
      have hHl1 := hg1.held.1
      refine Ends.region ?_
      refine S.val hA (R.move rfl) rfl ?_; clear hA a; intro a hA
      refine S.call hA (R.callF Try.func50 rfl rfl rfl) rfl (ptake_ok q4 m5 nb7 ob8 n.toNat 1 3 0 (by first | omega | decide | (simp; done) | (simp; omega)) _ (hM.block (k := 0) rfl)) ?_; clear hA a
      rintro e w13 ⟨r25, rfl, hn⟩
      replace hM : Mem _ _ [pt r25 #[.pointer (some ⟨q4, 0, none⟩), .int .i64 0, .bool false, .int .i64 (-1), .int .i64 0, .int .i64 0, .int .i64 0] 131, pt q4 #[.pointer (some ⟨m5, 0, none⟩), .int .i64 3, .slice (some ⟨nb7, 0, none⟩) n.toNat n.toNat, .slice (some ⟨ob8, 0, none⟩) 1 1] 128, pt ob8 #[.slice av1 Y1.length cap1] 43, own 3 1 (.slice av1 Y1.length cap1) Y1.length (Y1.map (Value.int .i64)), memO m5 c6 l1 s1 op1, pt wb10 #[.slice (some ⟨gH, 0, none⟩) H1.length c12] 93, own 3 1 (.slice (some ⟨gH, 0, none⟩) H1.length c12) H1.length (H1.map (Value.int .i64))] _ := hM.call hn; clear hn
      refine ⟨.pointer (some ⟨r25, 0, none⟩), rfl, fun a hA => ?_⟩
      refine S.val hA (R.assign rfl) rfl ?_; clear hA a; intro a hA
      refine S.done ?_
      replace hA : St 145 [(0, _), (1, _), (5, _), (8, _), (9, _), (10, _), (12, _), (35, _), (36, _), (39, _), (40, _), (41, _), (78, _), (79, _)] a := hA.sub ((.cons rfl (.cons rfl (.cons rfl (.cons rfl (.cons rfl (.cons rfl (.cons rfl (.cons rfl (.cons rfl (.cons rfl (.cons rfl (.cons rfl (.cons rfl (.cons rfl .nil)))))))))))))))
      refine Ends.seq ?_
      refine Ends.seq ?_
      refine Ends.region ?_
      refine S.val hA (R.move rfl) rfl ?_; clear hA a; intro a hA
      refine S.call hA (R.callF Try.func59 rfl rfl rfl) rfl (prun_gi r25 q4 m5 nb7 n.toNat ob8 1 c6 3 0 n V1 [.slice none 0 0] av1 cap1 op1 hm5c6 (by decide) rfl ⟨false, -1, 0, 0, 0⟩ Y1 l1 s1 (by omega) H1 xs1 [Y1] [some ⟨false, -1, 0, 0, 0⟩] 0 (gi_begin (k := 0) hg1 (acti_take 3 n l1 H1 0)) (by omega) rfl rfl _ (hM.hereN 5)) ?_; clear hA a
      rintro e w14 ⟨a26, c27, o28, r29, ⟨t30, Y31, l32, s33⟩, rfl, hn, hss33, hrr29, hendt30⟩
      replace hM : Mem _ _ [pt r25 #[.pointer (some ⟨q4, 0, none⟩), .int .i64 0, .bool t30.give, .int .i64 t30.slot, .int .i64 t30.ph, .int .i64 t30.top, .int .i64 t30.next] 131, pt q4 #[.pointer (some ⟨m5, 0, none⟩), .int .i64 3, .slice (some ⟨nb7, 0, none⟩) n.toNat n.toNat, .slice (some ⟨ob8, 0, none⟩) 1 1] 128, pt ob8 #[.slice a26 Y31.length c27] 43, own 3 1 (.slice a26 Y31.length c27) Y31.length (Y31.map (Value.int .i64)), memO m5 c6 l32 s33 o28, pt wb10 #[.slice (some ⟨gH, 0, none⟩) H1.length c12] 93, own 3 1 (.slice (some ⟨gH, 0, none⟩) H1.length c12) H1.length (H1.map (Value.int .i64))] _ := hM.callL 5 hn; clear hn
      replace hrr29 : 0 ≤ r29 := hrr29 rfl
      replace hss33 : s1 ≤ s33 ∧ s33 ≤ s1 + 5 := hss33
      obtain ⟨hpht30, hslt30, hgit30⟩ := alone_none hendt30 (by omega)
      replace hslt30 : t30.slot = -1 := hslt30
      replace hgit30 : GI 3 n (V1 + 1) l32 H1 [] [Y31] [none] := hgit30
      replace hpht30 : t30.ph = 3 := hpht30
      refine ⟨.int .i64 r29, rfl, fun a hA => ?_⟩
      refine S.val hA (R.ff (R.lss rfl rfl) (by first | omega | (simp; done))) rfl ?_; clear hA a; intro a hA
      refine S.val hA (R.move rfl) rfl ?_; clear hA a; intro a hA
      refine S.valg (dj := 83) hA (by kernel_rfl) rfl (R.move rfl) rfl ?_; clear hA a; intro a hA
      refine S.callg (dj := 83) hA (by kernel_rfl) rfl (R.callF Try.func56 rfl rfl rfl) rfl (pact_slot r25 q4 0 ⟨t30.give, t30.slot, t30.ph, t30.top, t30.next⟩ hpht30 _ (hM.block (k := 0) rfl)) ?_; clear hA a
      rintro e w15 ⟨rfl, rfl⟩
      refine ⟨.int .i64 t30.slot, rfl, fun a hA => ?_⟩
      refine S.valg (dj := 83) hA (by kernel_rfl) rfl (R.ff (R.neq rfl rfl) (by first | omega | (simp; done))) rfl ?_; clear hA a; intro a hA
      refine S.val hA (R.pickF rfl rfl) rfl ?_; clear hA a; intro a hA
      refine S.done ?_
      replace hA : St 145 [(0, _), (1, _), (5, _), (8, _), (9, _), (10, _), (12, _), (35, _), (36, _), (39, _), (40, _), (41, _), (78, _), (79, _), (80, _), (81, _), (82, _), (83, _), (84, _), (85, _), (86, _), (87, _)] a := hA.sub ((.cons rfl (.cons rfl (.cons rfl (.cons rfl (.cons rfl (.cons rfl (.cons rfl (.cons rfl (.cons rfl (.cons rfl (.cons rfl (.cons rfl (.cons rfl (.cons rfl (.cons rfl (.cons rfl (.cons rfl (.cons rfl (.cons rfl (.cons rfl (.cons rfl (.cons rfl .nil)))))))))))))))))))))))
      refine Ends.condF hA rfl ?_
      refine Ends.skip ?_
      refine Ends.seq ?_
      refine Ends.seq ?_
      refine Ends.region ?_
      refine S.val hA (R.assign rfl) rfl ?_; clear hA a; intro a hA
      refine S.done ?_
      replace hA : St 145 [(0, _), (1, _), (5, _), (8, _), (9, _), (10, _), (12, _), (13, _), (35, _), (36, _), (39, _), (40, _), (41, _), (78, _), (79, _), (80, _), (81, _), (82, _), (83, _), (84, _), (85, _), (86, _), (87, _)] a := hA.sub ((.cons rfl (.cons rfl (.cons rfl (.cons rfl (.cons rfl (.cons rfl (.cons rfl (.cons rfl (.cons rfl (.cons rfl (.cons rfl (.cons rfl (.cons rfl (.cons rfl (.cons rfl (.cons rfl (.cons rfl (.cons rfl (.cons rfl (.cons rfl (.cons rfl (.cons rfl (.cons rfl .nil))))))))))))))))))))))))
      refine Ends.block ?_
      replace hM := hM.front (k := 6) rfl
      replace hM := hM.front (k := 6) rfl
      replace hM := hM.front (k := 6) rfl
      replace hM := hM.front (k := 6) rfl
      replace hM := hM.front (k := 6) rfl
      replace hM := hM.front (k := 6) rfl
      replace hM : Mem _ _ [pt q4 #[.pointer (some ⟨m5, 0, none⟩), .int .i64 3, .slice (some ⟨nb7, 0, none⟩) n.toNat n.toNat, .slice (some ⟨ob8, 0, none⟩) 1 1] 128, pt ob8 #[.slice a26 Y31.length c27] 43, own 3 1 (.slice a26 Y31.length c27) Y31.length (Y31.map (Value.int .i64)), memO m5 c6 l32 s33 o28, pt wb10 #[.slice (some ⟨gH, 0, none⟩) H1.length c12] 93, own 3 1 (.slice (some ⟨gH, 0, none⟩) H1.length c12) H1.length (H1.map (Value.int .i64)), pt r25 #[.pointer (some ⟨q4, 0, none⟩), .int .i64 0, .bool t30.give, .int .i64 t30.slot, .int .i64 t30.ph, .int .i64 t30.top, .int .i64 t30.next] 131] _ := hM
      replace hM : Mem _ _ [pt q4 #[.pointer (some ⟨m5, 0, none⟩), .int .i64 3, .slice (some ⟨nb7, 0, none⟩) n.toNat n.toNat, .slice (some ⟨ob8, 0, none⟩) 1 1] 128, pt ob8 #[.slice a26 Y31.length c27] 43, own 3 1 (.slice a26 Y31.length c27) Y31.length (Y31.map (Value.int .i64)), memO m5 c6 l32 s33 o28, pt wb10 #[.slice (some ⟨gH, 0, none⟩) H1.length c12] 93, own 3 1 (.slice (some ⟨gH, 0, none⟩) H1.length c12) H1.length (H1.map (Value.int .i64))] _ := hM.firstN 6
      refine Ends.loop (σ := Nat × Int × List Int × List Int × List Int × List Int × Option Addr × Nat × Int × CellOp) (fun (j, V2, l2, xs2, Y2, H2, av2, cap2, s2, op2) (a : Act) (wv : World) => St 145 [(0, .int .i64 n), (1, .slice ad nr cap0), (5, .pointer (some ⟨q4, 0, none⟩)), (8, .pointer (some ⟨wb10, 0, none⟩)), (9, .int .i64 ((r : Int))), (10, .int .i64 ((k : Int))), (12, .pointer (some ⟨r25, 0, none⟩)), (13, .int .i64 ((j : Int))), (35, .int .i64 ((r : Int))), (36, .bool (decide (((r : Int)) < 2))), (39, .int .i64 ((k : Int))), (40, .int .i64 n), (41, .bool (decide (((k : Int)) < n))), (78, .pointer (some ⟨q4, 0, none⟩)), (79, .pointer (some ⟨r25, 0, none⟩)), (80, .pointer (some ⟨r25, 0, none⟩)), (81, .int .i64 r29), (82, .bool false), (83, .bool false), (84, .pointer (some ⟨r25, 0, none⟩)), (85, .int .i64 t30.slot), (86, .bool false), (87, .bool false)] a ∧ Mem w nof [pt q4 #[.pointer (some ⟨m5, 0, none⟩), .int .i64 3, .slice (some ⟨nb7, 0, none⟩) n.toNat n.toNat, .slice (some ⟨ob8, 0, none⟩) 1 1] 128, pt ob8 #[.slice av2 Y2.length cap2] 43, own 3 1 (.slice av2 Y2.length cap2) Y2.length (Y2.map (Value.int .i64)), memO m5 c6 l2 s2 op2, pt wb10 #[.slice (some ⟨gH, 0, none⟩) H2.length c12] 93, own 3 1 (.slice (some ⟨gH, 0, none⟩) H2.length c12) H2.length (H2.map (Value.int .i64))] wv ∧ ((j : Int) ≤ n) ∧ (GI 3 n V2 l2 H2 xs2 [Y2] [none]) ∧ (H2.count (-1) = j) ∧ (Two H2) ∧ (s ≤ s2 ∧ s2 ≤ s + 160 + 5 * (j : Int)) ∧ (V2 ≤ V + 40 + (j : Int))) (fun (j, V2, l2, xs2, Y2, H2, av2, cap2, s2, op2) => n.toNat - j) ((0, V1 + 1, l32, ([] : List Int), Y31, H1, a26, c27, s33, o28)) ⟨hA.sub ((.cons rfl (.cons rfl (.cons rfl (.cons rfl (.cons rfl (.cons rfl (.cons rfl (.cons rfl (.cons rfl (.cons rfl (.cons rfl (.cons rfl (.cons rfl (.cons rfl (.cons rfl (.cons rfl (.cons rfl (.cons rfl (.cons rfl (.cons rfl (.cons rfl (.cons rfl (.cons rfl .nil)))))))))))))))))))))))), hM, (by omega), hgit30, (by omega), htwo1, (by omega), (by omega)⟩ ?_
      clear hA hM a
      rintro ⟨j, V2, l2, xs2, Y2, H2, av2, cap2, s2, op2⟩ a w16 ⟨hA, hM, hk2, hg2, hcn2, htwo2, hs2, hV2⟩ hNext2
      refine Ends.seq ?_
      refine Ends.seq ?_
      refine Ends.region ?_
      refine S.val hA (R.move rfl) rfl ?_; clear hA a; intro a hA
      refine S.val hA (R.move rfl) rfl ?_; clear hA a; intro a hA
      refine S.val hA (R.lss rfl rfl) rfl ?_; clear hA a; intro a hA
      refine S.done ?_
      replace hA : St 145 [(0, _), (1, _), (5, _), (8, _), (9, _), (10, _), (12, _), (13, _), (35, _), (36, _), (39, _), (40, _), (41, _), (78, _), (79, _), (80, _), (81, _), (82, _), (83, _), (84, _), (85, _), (86, _), (87, _), (88, _), (89, _), (90, _)] a := hA.sub ((.cons rfl (.cons rfl (.cons rfl (.cons rfl (.cons rfl (.cons rfl (.cons rfl (.cons rfl (.cons rfl (.cons rfl (.cons rfl (.cons rfl (.cons rfl (.cons rfl (.cons rfl (.cons rfl (.cons rfl (.cons rfl (.cons rfl (.cons rfl (.cons rfl (.cons rfl (.cons rfl (.cons rfl (.cons rfl (.cons rfl .nil)))))))))))))))))))))))))))
      refine Ends.ite hA rfl (fun hc35 => ?_) (fun hc35 => ?_)
      ·
        refine Ends.skip ?_
        refine Ends.seq ?_
        refine Ends.block ?_
        refine Ends.seq ?_
        refine Ends.region ?_
        refine S.val hA (R.move rfl) rfl ?_; clear hA a; intro a hA
        refine S.val hA (R.assign rfl) rfl ?_; clear hA a; intro a hA
        refine S.done ?_
        replace hA : St 145 [(0, _), (1, _), (5, _), (8, _), (9, _), (10, _), (12, _), (13, _), (14, _), (35, _), (36, _), (39, _), (40, _), (41, _), (78, _), (79, _), (80, _), (81, _), (82, _), (83, _), (84, _), (85, _), (86, _), (87, _), (88, _), (89, _), (90, _), (93, _)] a := hA.sub ((.cons rfl (.cons rfl (.cons rfl (.cons rfl (.cons rfl (.cons rfl (.cons rfl (.cons rfl (.cons rfl (.cons rfl (.cons rfl (.cons rfl (.cons rfl (.cons rfl (.cons rfl (.cons rfl (.cons rfl (.cons rfl (.cons rfl (.cons rfl (.cons rfl (.cons rfl (.cons rfl (.cons rfl (.cons rfl (.cons rfl (.cons rfl (.cons rfl .nil)))))))))))))))))))))))))))))
        refine Ends.seq ?_
        refine Ends.seq ?_
        refine Ends.region ?_
        refine S.val hA (R.move rfl) rfl ?_; clear hA a; intro a hA
        refine S.val hA (R.move rfl) rfl ?_; clear hA a; intro a hA
        refine S.val hA (R.lenS Try.underlying43 rfl rfl) rfl ?_; clear hA a; intro a hA
        refine S.val hA (R.lss rfl rfl) rfl ?_; clear hA a; intro a hA
        refine S.done ?_
        replace hA : St 145 [(0, _), (1, _), (5, _), (8, _), (9, _), (10, _), (12, _), (13, _), (14, _), (35, _), (36, _), (39, _), (40, _), (41, _), (78, _), (79, _), (80, _), (81, _), (82, _), (83, _), (84, _), (85, _), (86, _), (87, _), (88, _), (89, _), (90, _), (93, _), (94, _), (95, _), (96, _), (97, _)] a := hA.sub ((.cons rfl (.cons rfl (.cons rfl (.cons rfl (.cons rfl (.cons rfl (.cons rfl (.cons rfl (.cons rfl (.cons rfl (.cons rfl (.cons rfl (.cons rfl (.cons rfl (.cons rfl (.cons rfl (.cons rfl (.cons rfl (.cons rfl (.cons rfl (.cons rfl (.cons rfl (.cons rfl (.cons rfl (.cons rfl (.cons rfl (.cons rfl (.cons rfl (.cons rfl (.cons rfl (.cons rfl (.cons rfl .nil)))))))))))))))))))))))))))))))))
        refine Ends.ite hA rfl (fun hc36 => ?_) (fun hc36 => ?_)
        ·
          obtain ⟨g, off, hg_, hcell⟩ := hsl.at (i := j) (by omega)
          subst hg_
          refine Ends.region ?_
          refine S.val hA (R.move rfl) rfl ?_; clear hA a; intro a hA
          refine S.val hA (R.move rfl) rfl ?_; clear hA a; intro a hA
          refine S.val hA (R.indexAddr (q := off + j) sl43 rfl rfl (by first | omega | (simp; done)) (by first | omega | (simp; done))) rfl ?_; clear hA a; intro a hA
          refine S.val hA (R.load sz3 rfl (hM.cell0 hcell (fun h => h))) rfl ?_; clear hA a; intro a hA
          refine S.val hA (R.conv Try.underlying22 Try.underlying3 rfl) rfl ?_; clear hA a; intro a hA
          refine S.val hA (R.move rfl) rfl ?_; clear hA a; intro a hA
          refine S.val hA (R.to (v := .int .u64 n) (R.conv Try.underlying22 Try.underlying3 rfl) (congrArg (Value.int .u64) (by rw [IntKind.wrap_u64]; omega))) rfl ?_; clear hA a; intro a hA
          refine S.val hA (R.remI rfl rfl rfl ⟨u64_nn _, by omega⟩) rfl ?_; clear hA a; intro a hA
          obtain ⟨d1, hd1, ed1⟩ := umod_ex (ol.getD j 0) n (by omega)
          refine S.val hA (R.to (v := .int .i64 (d1 : Int)) (R.conv Try.underlying3 Try.underlying22 rfl) (congrArg (Value.int .i64) ed1)) rfl ?_; clear hA a; intro a hA
          refine S.val hA (R.assign rfl) rfl ?_; clear hA a; intro a hA
          refine S.done ?_
          replace hA : St 145 [(0, _), (1, _), (5, _), (8, _), (9, _), (10, _), (12, _), (13, _), (14, _), (35, _), (36, _), (39, _), (40, _), (41, _), (78, _), (79, _), (80, _), (81, _), (82, _), (83, _), (84, _), (85, _), (86, _), (87, _), (88, _), (89, _), (90, _), (93, _), (94, _), (95, _), (96, _), (97, _), (98, _), (99, _), (100, _), (101, _), (102, _), (103, _), (104, _), (105, _), (106, _)] a := hA.sub ((.cons rfl (.cons rfl (.cons rfl (.cons rfl (.cons rfl (.cons rfl (.cons rfl (.cons rfl (.cons rfl (.cons rfl (.cons rfl (.cons rfl (.cons rfl (.cons rfl (.cons rfl (.cons rfl (.cons rfl (.cons rfl (.cons rfl (.cons rfl (.cons rfl (.cons rfl (.cons rfl (.cons rfl (.cons rfl (.cons rfl (.cons rfl (.cons rfl (.cons rfl (.cons rfl (.cons rfl (.cons rfl (.cons rfl (.cons rfl (.cons rfl (.cons rfl (.cons rfl (.cons rfl (.cons rfl (.cons rfl (.cons rfl .nil))))))))))))))))))))))))))))))))))))))))))
          refine Ends.seq ?_
          refine Ends.block ?_
          have hHl2 := hg2.held.1
          obtain ⟨j0, hj0, hj1⟩ := ex_held (H := H2) (by omega)
          refine Ends.loop (σ := Nat) (fun d (a : Act) (wv : World) => St 145 [(0, .int .i64 n), (1, .slice (some ⟨g, off, none⟩) nr cap0), (5, .pointer (some ⟨q4, 0, none⟩)), (8, .pointer (some ⟨wb10, 0, none⟩)), (9, .int .i64 ((r : Int))), (10, .int .i64 ((k : Int))), (12, .pointer (some ⟨r25, 0, none⟩)), (13, .int .i64 ((j : Int))), (14, .int .i64 ((d : Int))), (35, .int .i64 ((r : Int))), (36, .bool (decide (((r : Int)) < 2))), (39, .int .i64 ((k : Int))), (40, .int .i64 n), (41, .bool (decide (((k : Int)) < n))), (78, .pointer (some ⟨q4, 0, none⟩)), (79, .pointer (some ⟨r25, 0, none⟩)), (80, .pointer (some ⟨r25, 0, none⟩)), (81, .int .i64 r29), (82, .bool false), (83, .bool false), (84, .pointer (some ⟨r25, 0, none⟩)), (85, .int .i64 t30.slot), (86, .bool false), (87, .bool false), (88, .int .i64 ((j : Int))), (89, .int .i64 n), (90, .bool (decide (((j : Int)) < n))), (93, .int .i64 ((j : Int))), (94, .int .i64 ((j : Int))), (95, .slice (some ⟨g, off, none⟩) nr cap0), (96, .int .i64 ((nr : Int))), (97, .bool (decide (((j : Int)) < ((nr : Int))))), (98, .slice (some ⟨g, off, none⟩) nr cap0), (99, .int .i64 ((j : Int))), (100, .pointer (some ⟨g, off + j, none⟩)), (101, .int .i64 (ol.getD j 0)), (102, .int .u64 (IntKind.u64.wrap (ol.getD j 0))), (103, .int .i64 n), (104, .int .u64 n), (105, .int .u64 (IntKind.u64.wrap (ol.getD j 0) % n)), (106, .int .i64 ((d1 : Int)))] a ∧ Mem w nof [pt q4 #[.pointer (some ⟨m5, 0, none⟩), .int .i64 3, .slice (some ⟨nb7, 0, none⟩) n.toNat n.toNat, .slice (some ⟨ob8, 0, none⟩) 1 1] 128, pt ob8 #[.slice av2 Y2.length cap2] 43, own 3 1 (.slice av2 Y2.length cap2) Y2.length (Y2.map (Value.int .i64)), memO m5 c6 l2 s2 op2, pt wb10 #[.slice (some ⟨gH, 0, none⟩) H2.length c12] 93, own 3 1 (.slice (some ⟨gH, 0, none⟩) H2.length c12) H2.length (H2.map (Value.int .i64))] wv ∧ ((d : Int) < n)) (fun d => dist n.toNat j0 d) d1 ⟨hA.sub ((.cons rfl (.cons rfl (.cons rfl (.cons rfl (.cons rfl (.cons rfl (.cons rfl (.cons rfl (.cons rfl (.cons rfl (.cons rfl (.cons rfl (.cons rfl (.cons rfl (.cons rfl (.cons rfl (.cons rfl (.cons rfl (.cons rfl (.cons rfl (.cons rfl (.cons rfl (.cons rfl (.cons rfl (.cons rfl (.cons rfl (.cons rfl (.cons rfl (.cons rfl (.cons rfl (.cons rfl (.cons rfl (.cons rfl (.cons rfl (.cons rfl (.cons rfl (.cons rfl (.cons rfl (.cons rfl (.cons rfl (.cons rfl .nil)))))))))))))))))))))))))))))))))))))))))), hM, (by omega)⟩ ?_
          clear hA hM a
          rintro d a w17 ⟨hA, hM, hd⟩ hNext3
          refine Ends.seq ?_
          refine Ends.seq ?_
          refine Ends.region ?_
          refine S.val hA (R.move rfl) rfl ?_; clear hA a; intro a hA
          refine S.val hA (R.nilCheck rfl) rfl ?_; clear hA a; intro a hA
          refine S.val hA (R.fieldAddr (q := 0) fi93_0 rfl rfl rfl) rfl ?_; clear hA a; intro a hA
          refine S.val hA (R.load sz43 rfl (hM.cell (k := 4) rfl rfl)) rfl ?_; clear hA a; intro a hA
          refine S.val hA (R.move rfl) rfl ?_; clear hA a; intro a hA
          refine S.val hA (R.indexAddr (q := d) sl43 rfl rfl (by first | omega | (simp; done)) (by first | omega | (simp; done))) rfl ?_; clear hA a; intro a hA
          refine S.val hA (R.load sz3 rfl (hM.ownCell (k := 5) rfl (mapi_get _ _ (by first | omega | (simp; done))))) rfl ?_; clear hA a; intro a hA
          refine S.val hA (R.eql rfl rfl) rfl ?_; clear hA a; intro a hA
          refine S.done ?_
          replace hA : St 145 [(0, _), (1, _), (5, _), (8, _), (9, _), (10, _), (12, _), (13, _), (14, _), (35, _), (36, _), (39, _), (40, _), (41, _), (78, _), (79, _), (80, _), (81, _), (82, _), (83, _), (84, _), (85, _), (86, _), (87, _), (88, _), (89, _), (90, _), (93, _), (94, _), (95, _), (96, _), (97, _), (98, _), (99, _), (100, _), (101, _), (102, _), (103, _), (104, _), (105, _), (106, _), (107, _), (108, _), (109, _), (110, _), (111, _), (112, _), (113, _), (114, _)] a := hA.sub ((.cons rfl (.cons rfl (.cons rfl (.cons rfl (.cons rfl (.cons rfl (.cons rfl (.cons rfl (.cons rfl (.cons rfl (.cons rfl (.cons rfl (.cons rfl (.cons rfl (.cons rfl (.cons rfl (.cons rfl (.cons rfl (.cons rfl (.cons rfl (.cons rfl (.cons rfl (.cons rfl (.cons rfl (.cons rfl (.cons rfl (.cons rfl (.cons rfl (.cons rfl (.cons rfl (.cons rfl (.cons rfl (.cons rfl (.cons rfl (.cons rfl (.cons rfl (.cons rfl (.cons rfl (.cons rfl (.cons rfl (.cons rfl (.cons rfl (.cons rfl (.cons rfl (.cons rfl (.cons rfl (.cons rfl (.cons rfl (.cons rfl .nil))))))))))))))))))))))))))))))))))))))))))))))))))
          refine Ends.ite hA rfl (fun hc37 => ?_) (fun hc37 => ?_)
          ·
            refine Ends.skip ?_
            refine Ends.block ?_
            refine Ends.region ?_
            refine S.val hA (R.move rfl) rfl ?_; clear hA a; intro a hA
            refine S.val hA (R.addI rfl rfl (r := ((d : Int)) + 1) rfl (by first | omega | (simp; done))) rfl ?_; clear hA a; intro a hA
            refine S.val hA (R.move rfl) rfl ?_; clear hA a; intro a hA
            obtain ⟨d2, hd2⟩ : ∃ d2 : Nat, (d2 : Int) = ((d : Int) + 1) % n := ⟨(((d : Int) + 1) % n).toNat, by have := Int.emod_nonneg ((d : Int) + 1) (show n ≠ 0 by omega); omega⟩
            refine S.val hA (R.to (v := .int .i64 ((d2 : Nat) : Int)) (R.remI rfl rfl rfl (by omega)) (congrArg (Value.int .i64) hd2.symm)) rfl ?_; clear hA a; intro a hA
            refine S.val hA (R.assign rfl) rfl ?_; clear hA a; intro a hA
            refine S.done ?_
            replace hA : St 145 [(0, _), (1, _), (5, _), (8, _), (9, _), (10, _), (12, _), (13, _), (14, _), (35, _), (36, _), (39, _), (40, _), (41, _), (78, _), (79, _), (80, _), (81, _), (82, _), (83, _), (84, _), (85, _), (86, _), (87, _), (88, _), (89, _), (90, _), (93, _), (94, _), (95, _), (96, _), (97, _), (98, _), (99, _), (100, _), (101, _), (102, _), (103, _), (104, _), (105, _), (106, _), (107, _), (108, _), (109, _), (110, _), (111, _), (112, _), (113, _), (114, _), (115, _), (116, _), (117, _), (118, _)] a := hA.sub ((.cons rfl (.cons rfl (.cons rfl (.cons rfl (.cons rfl (.cons rfl (.cons rfl (.cons rfl (.cons rfl (.cons rfl (.cons rfl (.cons rfl (.cons rfl (.cons rfl (.cons rfl (.cons rfl (.cons rfl (.cons rfl (.cons rfl (.cons rfl (.cons rfl (.cons rfl (.cons rfl (.cons rfl (.cons rfl (.cons rfl (.cons rfl (.cons rfl (.cons rfl (.cons rfl (.cons rfl (.cons rfl (.cons rfl (.cons rfl (.cons rfl (.cons rfl (.cons rfl (.cons rfl (.cons rfl (.cons rfl (.cons rfl (.cons rfl (.cons rfl (.cons rfl (.cons rfl (.cons rfl (.cons rfl (.cons rfl (.cons rfl (.cons rfl (.cons rfl (.cons rfl (.cons rfl .nil))))))))))))))))))))))))))))))))))))))))))))))))))))))
            refine Ends.inBlock ?_
            exact hNext3 d2 _ _ ((by show dist n.toNat j0 d2 < dist n.toNat j0 d; exact (dist_dec (n := n) (j := j0) (d := d) (d2 := d2) (by omega) (by omega) (fun e => hj1 (e ▸ hc37)) hd2).1)) ⟨hA.sub ((.cons rfl (.cons rfl (.cons rfl (.cons rfl (.cons rfl (.cons rfl (.cons rfl (.cons rfl (.cons rfl (.cons rfl (.cons rfl (.cons rfl (.cons rfl (.cons rfl (.cons rfl (.cons rfl (.cons rfl (.cons rfl (.cons rfl (.cons rfl (.cons rfl (.cons rfl (.cons rfl (.cons rfl (.cons rfl (.cons rfl (.cons rfl (.cons rfl (.cons rfl (.cons rfl (.cons rfl (.cons rfl (.cons rfl (.cons rfl (.cons rfl (.cons rfl (.cons rfl (.cons rfl (.cons rfl (.cons rfl (.cons rfl .nil)))))))))))))))))))))))))))))))))))))))))), hM, (by exact (dist_dec (n := n) (j := j0) (d := d) (d2 := d2) (by omega) (by omega) (fun e => hj1 (e ▸ hc37)) hd2).2)⟩
          ·
            refine Ends.exit rfl ?_
            replace hA : St 145 [(0, _), (1, _), (5, _), (8, _), (9, _), (10, _), (12, _), (13, _), (14, _), (35, _), (36, _), (39, _), (40, _), (41, _), (78, _), (79, _), (80, _), (81, _), (82, _), (83, _), (84, _), (85, _), (86, _), (87, _), (88, _), (89, _), (90, _), (93, _), (94, _), (95, _), (96, _), (97, _), (98, _), (99, _), (100, _), (101, _), (102, _), (103, _), (104, _), (105, _), (106, _), (107, _), (108, _), (109, _), (110, _), (111, _), (112, _), (113, _), (114, _)] a := hA.sub ((.cons rfl (.cons rfl (.cons rfl (.cons rfl (.cons rfl (.cons rfl (.cons rfl (.cons rfl (.cons rfl (.cons rfl (.cons rfl (.cons rfl (.cons rfl (.cons rfl (.cons rfl (.cons rfl (.cons rfl (.cons rfl (.cons rfl (.cons rfl (.cons rfl (.cons rfl (.cons rfl (.cons rfl (.cons rfl (.cons rfl (.cons rfl (.cons rfl (.cons rfl (.cons rfl (.cons rfl (.cons rfl (.cons rfl (.cons rfl (.cons rfl (.cons rfl (.cons rfl (.cons rfl (.cons rfl (.cons rfl (.cons rfl (.cons rfl (.cons rfl (.cons rfl (.cons rfl (.cons rfl (.cons rfl (.cons rfl (.cons rfl .nil))))))))))))))))))))))))))))))))))))))))))))))))))
            refine Ends.seq ?_
            refine Ends.seq ?_
            have hHl2 := hg2.held.1
            refine Ends.region ?_
            refine S.val hA (R.move rfl) rfl ?_; clear hA a; intro a hA
            refine S.val hA (R.move rfl) rfl ?_; clear hA a; intro a hA
            refine S.call hA (R.callF Try.func51 rfl rfl rfl) rfl (pgive_ok q4 m5 nb7 n.toNat ob8 1 3 0 ((d : Int)) (by omega) (by first | omega | decide | (simp; done) | (simp; omega)) _ (hM.block (k := 0) rfl)) ?_; clear hA a
            rintro e w18 ⟨r38, rfl, hn⟩
            replace hM : Mem _ _ [pt r38 #[.pointer (some ⟨q4, 0, none⟩), .int .i64 0, .bool true, .int .i64 ((d : Int)), .int .i64 0, .int .i64 0, .int .i64 0] 131, pt q4 #[.pointer (some ⟨m5, 0, none⟩), .int .i64 3, .slice (some ⟨nb7, 0, none⟩) n.toNat n.toNat, .slice (some ⟨ob8, 0, none⟩) 1 1] 128, pt ob8 #[.slice av2 Y2.length cap2] 43, own 3 1 (.slice av2 Y2.length cap2) Y2.length (Y2.map (Value.int .i64)), memO m5 c6 l2 s2 op2, pt wb10 #[.slice (some ⟨gH, 0, none⟩) H2.length c12] 93, own 3 1 (.slice (some ⟨gH, 0, none⟩) H2.length c12) H2.length (H2.map (Value.int .i64))] _ := hM.call hn; clear hn
            refine ⟨.pointer (some ⟨r38, 0, none⟩), rfl, fun a hA => ?_⟩
            refine S.val hA (R.assign rfl) rfl ?_; clear hA a; intro a hA
            refine S.done ?_
            replace hA : St 145 [(0, _), (1, _), (5, _), (8, _), (9, _), (10, _), (12, _), (13, _), (14, _), (15, _), (35, _), (36, _), (39, _), (40, _), (41, _), (78, _), (79, _), (80, _), (81, _), (82, _), (83, _), (84, _), (85, _), (86, _), (87, _), (88, _), (89, _), (90, _), (93, _), (94, _), (95, _), (96, _), (97, _), (98, _), (99, _), (100, _), (101, _), (102, _), (103, _), (104, _), (105, _), (106, _), (107, _), (108, _), (109, _), (110, _), (111, _), (112, _), (113, _), (114, _), (119, _), (120, _), (121, _)] a := hA.sub ((.cons rfl (.cons rfl (.cons rfl (.cons rfl (.cons rfl (.cons rfl (.cons rfl (.cons rfl (.cons rfl (.cons rfl (.cons rfl (.cons rfl (.cons rfl (.cons rfl (.cons rfl (.cons rfl (.cons rfl (.cons rfl (.cons rfl (.cons rfl (.cons rfl (.cons rfl (.cons rfl (.cons rfl (.cons rfl (.cons rfl (.cons rfl (.cons rfl (.cons rfl (.cons rfl (.cons rfl (.cons rfl (.cons rfl (.cons rfl (.cons rfl (.cons rfl (.cons rfl (.cons rfl (.cons rfl (.cons rfl (.cons rfl (.cons rfl (.cons rfl (.cons rfl (.cons rfl (.cons rfl (.cons rfl (.cons rfl (.cons rfl (.cons rfl (.cons rfl (.cons rfl (.cons rfl .nil))))))))))))))))))))))))))))))))))))))))))))))))))))))
            refine Ends.seq ?_
            refine Ends.region ?_
            refine S.val hA (R.move rfl) rfl ?_; clear hA a; intro a hA
            refine S.call hA (R.callF Try.func59 rfl rfl rfl) rfl (prun_gi r38 q4 m5 nb7 n.toNat ob8 1 c6 3 0 n V2 [.slice none 0 0] av2 cap2 op2 hm5c6 (by decide) rfl ⟨true, (d : Int), 0, 0, 0⟩ Y2 l2 s2 (by omega) H2 xs2 [Y2] [some ⟨true, (d : Int), 0, 0, 0⟩] 0 (gi_begin (k := 0) hg2 (acti_give (n := n) (l := l2) (H := H2) (k := 0) (by omega) (by have e0 := htwo2 d (by omega); show H2.getD ((d : Int)).toNat 0 = ((0 : Nat) : Int); rw [show ((d : Int)).toNat = d by omega]; exact e0.resolve_left hc37))) (by omega) rfl rfl _ (hM.hereN 5)) ?_; clear hA a
            rintro e w19 ⟨a39, c40, o41, r42, ⟨t43, Y44, l45, s46⟩, rfl, hn, hss46, hrr42, hendt43⟩
            replace hM : Mem _ _ [pt r38 #[.pointer (some ⟨q4, 0, none⟩), .int .i64 0, .bool t43.give, .int .i64 t43.slot, .int .i64 t43.ph, .int .i64 t43.top, .int .i64 t43.next] 131, pt q4 #[.pointer (some ⟨m5, 0, none⟩), .int .i64 3, .slice (some ⟨nb7, 0, none⟩) n.toNat n.toNat, .slice (some ⟨ob8, 0, none⟩) 1 1] 128, pt ob8 #[.slice a39 Y44.length c40] 43, own 3 1 (.slice a39 Y44.length c40) Y44.length (Y44.map (Value.int .i64)), memO m5 c6 l45 s46 o41, pt wb10 #[.slice (some ⟨gH, 0, none⟩) H2.length c12] 93, own 3 1 (.slice (some ⟨gH, 0, none⟩) H2.length c12) H2.length (H2.map (Value.int .i64))] _ := hM.callL 5 hn; clear hn
            replace hrr42 : 0 ≤ r42 := hrr42 rfl
            replace hss46 : s2 ≤ s46 ∧ s46 ≤ s2 + 5 := hss46
            obtain ⟨xs47, hpht43, hslt43, hgit43⟩ := alone_give hendt43
            replace hslt43 : t43.slot = (d : Int) := hslt43
            replace hgit43 : GI 3 n (V2 + 1) l45 (H2.set ((d : Int)).toNat (-1)) xs47 [Y44] [none] := hgit43
            replace hpht43 : t43.ph = 3 := hpht43
            refine ⟨.int .i64 r42, rfl, fun a hA => ?_⟩
            refine S.val hA (R.ff (R.lss rfl rfl) (by first | omega | (simp; done))) rfl ?_; clear hA a; intro a hA
            refine S.val hA (R.move rfl) rfl ?_; clear hA a; intro a hA
            refine S.valg (dj := 125) hA (by kernel_rfl) rfl (R.move rfl) rfl ?_; clear hA a; intro a hA
            refine S.callg (dj := 125) hA (by kernel_rfl) rfl (R.callF Try.func56 rfl rfl rfl) rfl (pact_slot r38 q4 0 ⟨t43.give, t43.slot, t43.ph, t43.top, t43.next⟩ hpht43 _ (hM.block (k := 0) rfl)) ?_; clear hA a
            rintro e w20 ⟨rfl, rfl⟩
            refine ⟨.int .i64 t43.slot, rfl, fun a hA => ?_⟩
            refine S.valg (dj := 125) hA (by kernel_rfl) rfl (R.move rfl) rfl ?_; clear hA a; intro a hA
            refine S.valg (dj := 125) hA (by kernel_rfl) rfl (R.ff (R.neq rfl rfl) (by first | omega | (simp; done))) rfl ?_; clear hA a; intro a hA
            refine S.val hA (R.pickF rfl rfl) rfl ?_; clear hA a; intro a hA
            refine S.done ?_
            replace hA : St 145 [(0, _), (1, _), (5, _), (8, _), (9, _), (10, _), (12, _), (13, _), (14, _), (15, _), (35, _), (36, _), (39, _), (40, _), (41, _), (78, _), (79, _), (80, _), (81, _), (82, _), (83, _), (84, _), (85, _), (86, _), (87, _), (88, _), (89, _), (90, _), (93, _), (94, _), (95, _), (96, _), (97, _), (98, _), (99, _), (100, _), (101, _), (102, _), (103, _), (104, _), (105, _), (106, _), (107, _), (108, _), (109, _), (110, _), (111, _), (112, _), (113, _), (114, _), (119, _), (120, _), (121, _), (122, _), (123, _), (124, _), (125, _), (126, _), (127, _), (128, _), (129, _), (130, _)] a := hA.sub ((.cons rfl (.cons rfl (.cons rfl (.cons rfl (.cons rfl (.cons rfl (.cons rfl (.cons rfl (.cons rfl (.cons rfl (.cons rfl (.cons rfl (.cons rfl (.cons rfl (.cons rfl (.cons rfl (.cons rfl (.cons rfl (.cons rfl (.cons rfl (.cons rfl (.cons rfl (.cons rfl (.cons rfl (.cons rfl (.cons rfl (.cons rfl (.cons rfl (.cons rfl (.cons rfl (.cons rfl (.cons rfl (.cons rfl (.cons rfl (.cons rfl (.cons rfl (.cons rfl (.cons rfl (.cons rfl (.cons rfl (.cons rfl (.cons rfl (.cons rfl (.cons rfl (.cons rfl (.cons rfl (.cons rfl (.cons rfl (.cons rfl (.cons rfl (.cons rfl (.cons rfl (.cons rfl (.cons rfl (.cons rfl (.cons rfl (.cons rfl (.cons rfl (.cons rfl (.cons rfl (.cons rfl (.cons rfl .nil)))))))))))))))))))))))))))))))))))))))))))))))))))))))))))))))
            refine Ends.condF hA rfl ?_
            refine Ends.skip ?_
            have hct := cnt_give (H := H2) (s := d) (by omega) hc37
            refine Ends.region ?_
            refine S.val hA (R.move rfl) rfl ?_; clear hA a; intro a hA
            refine S.val hA (R.nilCheck rfl) rfl ?_; clear hA a; intro a hA
            refine S.val hA (R.fieldAddr (q := 0) fi93_0 rfl rfl rfl) rfl ?_; clear hA a; intro a hA
            refine S.val hA (R.load sz43 rfl (hM.cell (k := 5) rfl rfl)) rfl ?_; clear hA a; intro a hA
            refine S.val hA (R.move rfl) rfl ?_; clear hA a; intro a hA
            refine S.val hA (R.indexAddr (q := d) sl43 rfl rfl (by first | omega | (simp; done)) (by first | omega | (simp; done))) rfl ?_; clear hA a; intro a hA
            refine S.storeO (k := 6) hA hM sz3 rfl rfl rfl rfl (mapi_get H2 d (by first | omega | (simp; done))) ?_; clear hM; intro w21 hM; rw [mapi_set] at hM
            replace hM : Mem _ _ [pt r38 #[.pointer (some ⟨q4, 0, none⟩), .int .i64 0, .bool t43.give, .int .i64 t43.slot, .int .i64 t43.ph, .int .i64 t43.top, .int .i64 t43.next] 131, pt q4 #[.pointer (some ⟨m5, 0, none⟩), .int .i64 3, .slice (some ⟨nb7, 0, none⟩) n.toNat n.toNat, .slice (some ⟨ob8, 0, none⟩) 1 1] 128, pt ob8 #[.slice a39 Y44.length c40] 43, own 3 1 (.slice a39 Y44.length c40) Y44.length (Y44.map (Value.int .i64)), memO m5 c6 l45 s46 o41, pt wb10 #[.slice (some ⟨gH, 0, none⟩) H2.length c12] 93, own 3 1 (.slice (some ⟨gH, 0, none⟩) H2.length c12) H2.length (((H2.set d (-1))).map (Value.int .i64))] _ := hM
            refine S.done ?_
            replace hA : St 145 [(0, _), (1, _), (5, _), (8, _), (9, _), (10, _), (12, _), (13, _), (14, _), (15, _), (35, _), (36, _), (39, _), (40, _), (41, _), (78, _), (79, _), (80, _), (81, _), (82, _), (83, _), (84, _), (85, _), (86, _), (87, _), (88, _), (89, _), (90, _), (93, _), (94, _), (95, _), (96, _), (97, _), (98, _), (99, _), (100, _), (101, _), (102, _), (103, _), (104, _), (105, _), (106, _), (107, _), (108, _), (109, _), (110, _), (111, _), (112, _), (113, _), (114, _), (119, _), (120, _), (121, _), (122, _), (123, _), (124, _), (125, _), (126, _), (127, _), (128, _), (129, _), (130, _), (131, _), (132, _), (133, _), (134, _), (135, _), (136, _)] a := hA.sub ((.cons rfl (.cons rfl (.cons rfl (.cons rfl (.cons rfl (.cons rfl (.cons rfl (.cons rfl (.cons rfl (.cons rfl (.cons rfl (.cons rfl (.cons rfl (.cons rfl (.cons rfl (.cons rfl (.cons rfl (.cons rfl (.cons rfl (.cons rfl (.cons rfl (.cons rfl (.cons rfl (.cons rfl (.cons rfl (.cons rfl (.cons rfl (.cons rfl (.cons rfl (.cons rfl (.cons rfl (.cons rfl (.cons rfl (.cons rfl (.cons rfl (.cons rfl (.cons rfl (.cons rfl (.cons rfl (.cons rfl (.cons rfl (.cons rfl (.cons rfl (.cons rfl (.cons rfl (.cons rfl (.cons rfl (.cons rfl (.cons rfl (.cons rfl (.cons rfl (.cons rfl (.cons rfl (.cons rfl (.cons rfl (.cons rfl (.cons rfl (.cons rfl (.cons rfl (.cons rfl (.cons rfl (.cons rfl (.cons rfl (.cons rfl (.cons rfl (.cons rfl (.cons rfl (.cons rfl .nil)))))))))))))))))))))))))))))))))))))))))))))))))))))))))))))))))))))
            refine Ends.inBlock ?_
            refine Ends.region ?_
            refine S.val hA (R.move rfl) rfl ?_; clear hA a; intro a hA
            refine S.val hA (R.addI rfl rfl (r := ((j : Int)) + 1) rfl (by first | omega | (simp; done))) rfl ?_; clear hA a; intro a hA
            refine S.val hA (R.assign rfl) rfl ?_; clear hA a; intro a hA
            refine S.done ?_
            replace hA : St 145 [(0, _), (1, _), (5, _), (8, _), (9, _), (10, _), (12, _), (13, _), (14, _), (15, _), (35, _), (36, _), (39, _), (40, _), (41, _), (78, _), (79, _), (80, _), (81, _), (82, _), (83, _), (84, _), (85, _), (86, _), (87, _), (88, _), (89, _), (90, _), (91, _), (92, _), (93, _), (94, _), (95, _), (96, _), (97, _), (98, _), (99, _), (100, _), (101, _), (102, _), (103, _), (104, _), (105, _), (106, _), (107, _), (108, _), (109, _), (110, _), (111, _), (112, _), (113, _), (114, _), (119, _), (120, _), (121, _), (122, _), (123, _), (124, _), (125, _), (126, _), (127, _), (128, _), (129, _), (130, _), (131, _), (132, _), (133, _), (134, _), (135, _), (136, _)] a := hA.sub ((.cons rfl (.cons rfl (.cons rfl (.cons rfl (.cons rfl (.cons rfl (.cons rfl (.cons rfl (.cons rfl (.cons rfl (.cons rfl (.cons rfl (.cons rfl (.cons rfl (.cons rfl (.cons rfl (.cons rfl (.cons rfl (.cons rfl (.cons rfl (.cons rfl (.cons rfl (.cons rfl (.cons rfl (.cons rfl (.cons rfl (.cons rfl (.cons rfl (.cons rfl (.cons rfl (.cons rfl (.cons rfl (.cons rfl (.cons rfl (.cons rfl (.cons rfl (.cons rfl (.cons rfl (.cons rfl (.cons rfl (.cons rfl (.cons rfl (.cons rfl (.cons rfl (.cons rfl (.cons rfl (.cons rfl (.cons rfl (.cons rfl (.cons rfl (.cons rfl (.cons rfl (.cons rfl (.cons rfl (.cons rfl (.cons rfl (.cons rfl (.cons rfl (.cons rfl (.cons rfl (.cons rfl (.cons rfl (.cons rfl (.cons rfl (.cons rfl (.cons rfl (.cons rfl (.cons rfl (.cons rfl (.cons rfl .nil)))))))))))))))))))))))))))))))))))))))))))))))))))))))))))))))))))))))
            rw [show H2.length = ((H2.set d (-1))).length by simp] at hM
            replace hM := hM.front (k := 6) rfl
            replace hM := hM.front (k := 6) rfl
            replace hM := hM.front (k := 6) rfl
            replace hM := hM.front (k := 6) rfl
            replace hM := hM.front (k := 6) rfl
            replace hM := hM.front (k := 6) rfl
            replace hM : Mem _ _ [pt q4 #[.pointer (some ⟨m5, 0, none⟩), .int .i64 3, .slice (some ⟨nb7, 0, none⟩) n.toNat n.toNat, .slice (some ⟨ob8, 0, none⟩) 1 1] 128, pt ob8 #[.slice a39 Y44.length c40] 43, own 3 1 (.slice a39 Y44.length c40) Y44.length (Y44.map (Value.int .i64)), memO m5 c6 l45 s46 o41, pt wb10 #[.slice (some ⟨gH, 0, none⟩) (((H2.set d (-1))).length) c12] 93, own 3 1 (.slice (some ⟨gH, 0, none⟩) (((H2.set d (-1))).length) c12) (((H2.set d (-1))).length) (((H2.set d (-1))).map (Value.int .i64)), pt r38 #[.pointer (some ⟨q4, 0, none⟩), .int .i64 0, .bool t43.give, .int .i64 t43.slot, .int .i64 t43.ph, .int .i64 t43.top, .int .i64 t43.next] 131] _ := hM
            replace hM : Mem _ _ [pt q4 #[.pointer (some ⟨m5, 0, none⟩), .int .i64 3, .slice (some ⟨nb7, 0, none⟩) n.toNat n.toNat, .slice (some ⟨ob8, 0, none⟩) 1 1] 128, pt ob8 #[.slice a39 Y44.length c40] 43, own 3 1 (.slice a39 Y44.length c40) Y44.length (Y44.map (Value.int .i64)), memO m5 c6 l45 s46 o41, pt wb10 #[.slice (some ⟨gH, 0, none⟩) (((H2.set d (-1))).length) c12] 93, own 3 1 (.slice (some ⟨gH, 0, none⟩) (((H2.set d (-1))).length) c12) (((H2.set d (-1))).length) (((H2.set d (-1))).map (Value.int .i64))] _ := hM.firstN 6
            exact hNext2 ((j + 1, V2 + 1, l45, xs47, Y44, (H2.set d (-1)), a39, c40, s46, o41)) _ _ ((by show n.toNat - (j + 1) < n.toNat - j; omega)) ⟨hA.sub ((.cons rfl (.cons rfl (.cons rfl (.cons rfl (.cons rfl (.cons rfl (.cons rfl (.cons rfl (.cons rfl (.cons rfl (.cons rfl (.cons rfl (.cons rfl (.cons rfl (.cons rfl (.cons rfl (.cons rfl (.cons rfl (.cons rfl (.cons rfl (.cons rfl (.cons rfl (.cons rfl .nil)))))))))))))))))))))))), hM, (by omega), hgit43, (by omega), (two_set htwo2 _ (by left; rfl)), (by omega), (by omega)⟩
        ·
          refine Ends.skip ?_
          refine Ends.seq ?_
          refine Ends.block ?_
          have hHl2 := hg2.held.1
          obtain ⟨j0, hj0, hj1⟩ := ex_held (H := H2) (by omega)
          refine Ends.loop (σ := Nat) (fun d (a : Act) (wv : World) => St 145 [(0, .int .i64 n), (1, .slice ad nr cap0), (5, .pointer (some ⟨q4, 0, none⟩)), (8, .pointer (some ⟨wb10, 0, none⟩)), (9, .int .i64 ((r : Int))), (10, .int .i64 ((k : Int))), (12, .pointer (some ⟨r25, 0, none⟩)), (13, .int .i64 ((j : Int))), (14, .int .i64 ((d : Int))), (35, .int .i64 ((r : Int))), (36, .bool (decide (((r : Int)) < 2))), (39, .int .i64 ((k : Int))), (40, .int .i64 n), (41, .bool (decide (((k : Int)) < n))), (78, .pointer (some ⟨q4, 0, none⟩)), (79, .pointer (some ⟨r25, 0, none⟩)), (80, .pointer (some ⟨r25, 0, none⟩)), (81, .int .i64 r29), (82, .bool false), (83, .bool false), (84, .pointer (some ⟨r25, 0, none⟩)), (85, .int .i64 t30.slot), (86, .bool false), (87, .bool false), (88, .int .i64 ((j : Int))), (89, .int .i64 n), (90, .bool (decide (((j : Int)) < n))), (93, .int .i64 ((j : Int))), (94, .int .i64 ((j : Int))), (95, .slice ad nr cap0), (96, .int .i64 ((nr : Int))), (97, .bool (decide (((j : Int)) < ((nr : Int)))))] a ∧ Mem w nof [pt q4 #[.pointer (some ⟨m5, 0, none⟩), .int .i64 3, .slice (some ⟨nb7, 0, none⟩) n.toNat n.toNat, .slice (some ⟨ob8, 0, none⟩) 1 1] 128, pt ob8 #[.slice av2 Y2.length cap2] 43, own 3 1 (.slice av2 Y2.length cap2) Y2.length (Y2.map (Value.int .i64)), memO m5 c6 l2 s2 op2, pt wb10 #[.slice (some ⟨gH, 0, none⟩) H2.length c12] 93, own 3 1 (.slice (some ⟨gH, 0, none⟩) H2.length c12) H2.length (H2.map (Value.int .i64))] wv ∧ ((d : Int) < n)) (fun d => dist n.toNat j0 d) j ⟨hA.sub ((.cons rfl (.cons rfl (.cons rfl (.cons rfl (.cons rfl (.cons rfl (.cons rfl (.cons rfl (.cons rfl (.cons rfl (.cons rfl (.cons rfl (.cons rfl (.cons rfl (.cons rfl (.cons rfl (.cons rfl (.cons rfl (.cons rfl (.cons rfl (.cons rfl (.cons rfl (.cons rfl (.cons rfl (.cons rfl (.cons rfl (.cons rfl (.cons rfl (.cons rfl (.cons rfl (.cons rfl (.cons rfl .nil))))))))))))))))))))))))))))))))), hM, (by omega)⟩ ?_
          clear hA hM a
          rintro d a w22 ⟨hA, hM, hd⟩ hNext3
          refine Ends.seq ?_
          refine Ends.seq ?_
          refine Ends.region ?_
          refine S.val hA (R.move rfl) rfl ?_; clear hA a; intro a hA
          refine S.val hA (R.nilCheck rfl) rfl ?_; clear hA a; intro a hA
          refine S.val hA (R.fieldAddr (q := 0) fi93_0 rfl rfl rfl) rfl ?_; clear hA a; intro a hA
          refine S.val hA (R.load sz43 rfl (hM.cell (k := 4) rfl rfl)) rfl ?_; clear hA a; intro a hA
          refine S.val hA (R.move rfl) rfl ?_; clear hA a; intro a hA
          refine S.val hA (R.indexAddr (q := d) sl43 rfl rfl (by first | omega | (simp; done)) (by first | omega | (simp; done))) rfl ?_; clear hA a; intro a hA
          refine S.val hA (R.load sz3 rfl (hM.ownCell (k := 5) rfl (mapi_get _ _ (by first | omega | (simp; done))))) rfl ?_; clear hA a; intro a hA
          refine S.val hA (R.eql rfl rfl) rfl ?_; clear hA a; intro a hA
          refine S.done ?_
          replace hA : St 145 [(0, _), (1, _), (5, _), (8, _), (9, _), (10, _), (12, _), (13, _), (14, _), (35, _), (36, _), (39, _), (40, _), (41, _), (78, _), (79, _), (80, _), (81, _), (82, _), (83, _), (84, _), (85, _), (86, _), (87, _), (88, _), (89, _), (90, _), (93, _), (94, _), (95, _), (96, _), (97, _), (107, _), (108, _), (109, _), (110, _), (111, _), (112, _), (113, _), (114, _)] a := hA.sub ((.cons rfl (.cons rfl (.cons rfl (.cons rfl (.cons rfl (.cons rfl (.cons rfl (.cons rfl (.cons rfl (.cons rfl (.cons rfl (.cons rfl (.cons rfl (.cons rfl (.cons rfl (.cons rfl (.cons rfl (.cons rfl (.cons rfl (.cons rfl (.cons rfl (.cons rfl (.cons rfl (.cons rfl (.cons rfl (.cons rfl (.cons rfl (.cons rfl (.cons rfl (.cons rfl (.cons rfl (.cons rfl (.cons rfl (.cons rfl (.cons rfl (.cons rfl (.cons rfl (.cons rfl (.cons rfl (.cons rfl .nil)))))))))))))))))))))))))))))))))))))))))
          refine Ends.ite hA rfl (fun hc48 => ?_) (fun hc48 => ?_)
          ·
            refine Ends.skip ?_
            refine Ends.block ?_
            refine Ends.region ?_
            refine S.val hA (R.move rfl) rfl ?_; clear hA a; intro a hA
            refine S.val hA (R.addI rfl rfl (r := ((d : Int)) + 1) rfl (by first | omega | (simp; done))) rfl ?_; clear hA a; intro a hA
            refine S.val hA (R.move rfl) rfl ?_; clear hA a; intro a hA
            obtain ⟨d2, hd2⟩ : ∃ d2 : Nat, (d2 : Int) = ((d : Int) + 1) % n := ⟨(((d : Int) + 1) % n).toNat, by have := Int.emod_nonneg ((d : Int) + 1) (show n ≠ 0 by omega); omega⟩
            refine S.val hA (R.to (v := .int .i64 ((d2 : Nat) : Int)) (R.remI rfl rfl rfl (by omega)) (congrArg (Value.int .i64) hd2.symm)) rfl ?_; clear hA a; intro a hA
            refine S.val hA (R.assign rfl) rfl ?_; clear hA a; intro a hA
            refine S.done ?_
            replace hA : St 145 [(0, _), (1, _), (5, _), (8, _), (9, _), (10, _), (12, _), (13, _), (14, _), (35, _), (36, _), (39, _), (40, _), (41, _), (78, _), (79, _), (80, _), (81, _), (82, _), (83, _), (84, _), (85, _), (86, _), (87, _), (88, _), (89, _), (90, _), (93, _), (94, _), (95, _), (96, _), (97, _), (107, _), (108, _), (109, _), (110, _), (111, _), (112, _), (113, _), (114, _), (115, _), (116, _), (117, _), (118, _)] a := hA.sub ((.cons rfl (.cons rfl (.cons rfl (.cons rfl (.cons rfl (.cons rfl (.cons rfl (.cons rfl (.cons rfl (.cons rfl (.cons rfl (.cons rfl (.cons rfl (.cons rfl (.cons rfl (.cons rfl (.cons rfl (.cons rfl (.cons rfl (.cons rfl (.cons rfl (.cons rfl (.cons rfl (.cons rfl (.cons rfl (.cons rfl (.cons rfl (.cons rfl (.cons rfl (.cons rfl (.cons rfl (.cons rfl (.cons rfl (.cons rfl (.cons rfl (.cons rfl (.cons rfl (.cons rfl (.cons rfl (.cons rfl (.cons rfl (.cons rfl (.cons rfl (.cons rfl .nil)))))))))))))))))))))))))))))))))))))))))))))
            refine Ends.inBlock ?_
            exact hNext3 d2 _ _ ((by show dist n.toNat j0 d2 < dist n.toNat j0 d; exact (dist_dec (n := n) (j := j0) (d := d) (d2 := d2) (by omega) (by omega) (fun e => hj1 (e ▸ hc48)) hd2).1)) ⟨hA.sub ((.cons rfl (.cons rfl (.cons rfl (.cons rfl (.cons rfl (.cons rfl (.cons rfl (.cons rfl (.cons rfl (.cons rfl (.cons rfl (.cons rfl (.cons rfl (.cons rfl (.cons rfl (.cons rfl (.cons rfl (.cons rfl (.cons rfl (.cons rfl (.cons rfl (.cons rfl (.cons rfl (.cons rfl (.cons rfl (.cons rfl (.cons rfl (.cons rfl (.cons rfl (.cons rfl (.cons rfl (.cons rfl .nil))))))))))))))))))))))))))))))))), hM, (by exact (dist_dec (n := n) (j := j0) (d := d) (d2 := d2) (by omega) (by omega) (fun e => hj1 (e ▸ hc48)) hd2).2)⟩
          ·
            refine Ends.exit rfl ?_
            replace hA : St 145 [(0, _), (1, _), (5, _), (8, _), (9, _), (10, _), (12, _), (13, _), (14, _), (35, _), (36, _), (39, _), (40, _), (41, _), (78, _), (79, _), (80, _), (81, _), (82, _), (83, _), (84, _), (85, _), (86, _), (87, _), (88, _), (89, _), (90, _), (93, _), (94, _), (95, _), (96, _), (97, _), (107, _), (108, _), (109, _), (110, _), (111, _), (112, _), (113, _), (114, _)] a := hA.sub ((.cons rfl (.cons rfl (.cons rfl (.cons rfl (.cons rfl (.cons rfl (.cons rfl (.cons rfl (.cons rfl (.cons rfl (.cons rfl (.cons rfl (.cons rfl (.cons rfl (.cons rfl (.cons rfl (.cons rfl (.cons rfl (.cons rfl (.cons rfl (.cons rfl (.cons rfl (.cons rfl (.cons rfl (.cons rfl (.cons rfl (.cons rfl (.cons rfl (.cons rfl (.cons rfl (.cons rfl (.cons rfl (.cons rfl (.cons rfl (.cons rfl (.cons rfl (.cons rfl (.cons rfl (.cons rfl (.cons rfl .nil)))))))))))))))))))))))))))))))))))))))))
            refine Ends.seq ?_
            refine Ends.seq ?_
            have hHl2 := hg2.held.1
            refine Ends.region ?_
            refine S.val hA (R.move rfl) rfl ?_; clear hA a; intro a hA
            refine S.val hA (R.move rfl) rfl ?_; clear hA a; intro a hA
            refine S.call hA (R.callF Try.func51 rfl rfl rfl) rfl (pgive_ok q4 m5 nb7 n.toNat ob8 1 3 0 ((d : Int)) (by omega) (by first | omega | decide | (simp; done) | (simp; omega)) _ (hM.block (k := 0) rfl)) ?_; clear hA a
            rintro e w23 ⟨r49, rfl, hn⟩
            replace hM : Mem _ _ [pt r49 #[.pointer (some ⟨q4, 0, none⟩), .int .i64 0, .bool true, .int .i64 ((d : Int)), .int .i64 0, .int .i64 0, .int .i64 0] 131, pt q4 #[.pointer (some ⟨m5, 0, none⟩), .int .i64 3, .slice (some ⟨nb7, 0, none⟩) n.toNat n.toNat, .slice (some ⟨ob8, 0, none⟩) 1 1] 128, pt ob8 #[.slice av2 Y2.length cap2] 43, own 3 1 (.slice av2 Y2.length cap2) Y2.length (Y2.map (Value.int .i64)), memO m5 c6 l2 s2 op2, pt wb10 #[.slice (some ⟨gH, 0, none⟩) H2.length c12] 93, own 3 1 (.slice (some ⟨gH, 0, none⟩) H2.length c12) H2.length (H2.map (Value.int .i64))] _ := hM.call hn; clear hn
            refine ⟨.pointer (some ⟨r49, 0, none⟩), rfl, fun a hA => ?_⟩
            refine S.val hA (R.assign rfl) rfl ?_; clear hA a; intro a hA
            refine S.done ?_
            replace hA : St 145 [(0, _), (1, _), (5, _), (8, _), (9, _), (10, _), (12, _), (13, _), (14, _), (15, _), (35, _), (36, _), (39, _), (40, _), (41, _), (78, _), (79, _), (80, _), (81, _), (82, _), (83, _), (84, _), (85, _), (86, _), (87, _), (88, _), (89, _), (90, _), (93, _), (94, _), (95, _), (96, _), (97, _), (107, _), (108, _), (109, _), (110, _), (111, _), (112, _), (113, _), (114, _), (119, _), (120, _), (121, _)] a := hA.sub ((.cons rfl (.cons rfl (.cons rfl (.cons rfl (.cons rfl (.cons rfl (.cons rfl (.cons rfl (.cons rfl (.cons rfl (.cons rfl (.cons rfl (.cons rfl (.cons rfl (.cons rfl (.cons rfl (.cons rfl (.cons rfl (.cons rfl (.cons rfl (.cons rfl (.cons rfl (.cons rfl (.cons rfl (.cons rfl (.cons rfl (.cons rfl (.cons rfl (.cons rfl (.cons rfl (.cons rfl (.cons rfl (.cons rfl (.cons rfl (.cons rfl (.cons rfl (.cons rfl (.cons rfl (.cons rfl (.cons rfl (.cons rfl (.cons rfl (.cons rfl (.cons rfl .nil)))))))))))))))))))))))))))))))))))))))))))))
            refine Ends.seq ?_
            refine Ends.region ?_
            refine S.val hA (R.move rfl) rfl ?_; clear hA a; intro a hA
            refine S.call hA (R.callF Try.func59 rfl rfl rfl) rfl (prun_gi r49 q4 m5 nb7 n.toNat ob8 1 c6 3 0 n V2 [.slice none 0 0] av2 cap2 op2 hm5c6 (by decide) rfl ⟨true, (d : Int), 0, 0, 0⟩ Y2 l2 s2 (by omega) H2 xs2 [Y2] [some ⟨true, (d : Int), 0, 0, 0⟩] 0 (gi_begin (k := 0) hg2 (acti_give (n := n) (l := l2) (H := H2) (k := 0) (by omega) (by have e0 := htwo2 d (by omega); show H2.getD ((d : Int)).toNat 0 = ((0 : Nat) : Int); rw [show ((d : Int)).toNat = d by omega]; exact e0.resolve_left hc48))) (by omega) rfl rfl _ (hM.hereN 5)) ?_; clear hA a
            rintro e w24 ⟨a50, c51, o52, r53, ⟨t54, Y55, l56, s57⟩, rfl, hn, hss57, hrr53, hendt54⟩
            replace hM : Mem _ _ [pt r49 #[.pointer (some ⟨q4, 0, none⟩), .int .i64 0, .bool t54.give, .int .i64 t54.slot, .int .i64 t54.ph, .int .i64 t54.top, .int .i64 t54.next] 131, pt q4 #[.pointer (some ⟨m5, 0, none⟩), .int .i64 3, .slice (some ⟨nb7, 0, none⟩) n.toNat n.toNat, .slice (some ⟨ob8, 0, none⟩) 1 1] 128, pt ob8 #[.slice a50 Y55.length c51] 43, own 3 1 (.slice a50 Y55.length c51) Y55.length (Y55.map (Value.int .i64)), memO m5 c6 l56 s57 o52, pt wb10 #[.slice (some ⟨gH, 0, none⟩) H2.length c12] 93, own 3 1 (.slice (some ⟨gH, 0, none⟩) H2.length c12) H2.length (H2.map (Value.int .i64))] _ := hM.callL 5 hn; clear hn
            replace hrr53 : 0 ≤ r53 := hrr53 rfl
            replace hss57 : s2 ≤ s57 ∧ s57 ≤ s2 + 5 := hss57
            obtain ⟨xs58, hpht54, hslt54, hgit54⟩ := alone_give hendt54
            replace hslt54 : t54.slot = (d : Int) := hslt54
            replace hgit54 : GI 3 n (V2 + 1) l56 (H2.set ((d : Int)).toNat (-1)) xs58 [Y55] [none] := hgit54
            replace hpht54 : t54.ph = 3 := hpht54
            refine ⟨.int .i64 r53, rfl, fun a hA => ?_⟩
            refine S.val hA (R.ff (R.lss rfl rfl) (by first | omega | (simp; done))) rfl ?_; clear hA a; intro a hA
            refine S.val hA (R.move rfl) rfl ?_; clear hA a; intro a hA
            refine S.valg (dj := 125) hA (by kernel_rfl) rfl (R.move rfl) rfl ?_; clear hA a; intro a hA
            refine S.callg (dj := 125) hA (by kernel_rfl) rfl (R.callF Try.func56 rfl rfl rfl) rfl (pact_slot r49 q4 0 ⟨t54.give, t54.slot, t54.ph, t54.top, t54.next⟩ hpht54 _ (hM.block (k := 0) rfl)) ?_; clear hA a
            rintro e w25 ⟨rfl, rfl⟩
            refine ⟨.int .i64 t54.slot, rfl, fun a hA => ?_⟩
            refine S.valg (dj := 125) hA (by kernel_rfl) rfl (R.move rfl) rfl ?_; clear hA a; intro a hA
            refine S.valg (dj := 125) hA (by kernel_rfl) rfl (R.ff (R.neq rfl rfl) (by first | omega | (simp; done))) rfl ?_; clear hA a; intro a hA
            refine S.val hA (R.pickF rfl rfl) rfl ?_; clear hA a; intro a hA
            refine S.done ?_
            replace hA : St 145 [(0, _), (1, _), (5, _), (8, _), (9, _), (10, _), (12, _), (13, _), (14, _), (15, _), (35, _), (36, _), (39, _), (40, _), (41, _), (78, _), (79, _), (80, _), (81, _), (82, _), (83, _), (84, _), (85, _), (86, _), (87, _), (88, _), (89, _), (90, _), (93, _), (94, _), (95, _), (96, _), (97, _), (107, _), (108, _), (109, _), (110, _), (111, _), (112, _), (113, _), (114, _), (119, _), (120, _), (121, _), (122, _), (123, _), (124, _), (125, _), (126, _), (127, _), (128, _), (129, _), (130, _)] a := hA.sub ((.cons rfl (.cons rfl (.cons rfl (.cons rfl (.cons rfl (.cons rfl (.cons rfl (.cons rfl (.cons rfl (.cons rfl (.cons rfl (.cons rfl (.cons rfl (.cons rfl (.cons rfl (.cons rfl (.cons rfl (.cons rfl (.cons rfl (.cons rfl (.cons rfl (.cons rfl (.cons rfl (.cons rfl (.cons rfl (.cons rfl (.cons rfl (.cons rfl (.cons rfl (.cons rfl (.cons rfl (.cons rfl (.cons rfl (.cons rfl (.cons rfl (.cons rfl (.cons rfl (.cons rfl (.cons rfl (.cons rfl (.cons rfl (.cons rfl (.cons rfl (.cons rfl (.cons rfl (.cons rfl (.cons rfl (.cons rfl (.cons rfl (.cons rfl (.cons rfl (.cons rfl (.cons rfl .nil))))))))))))))))))))))))))))))))))))))))))))))))))))))
            refine Ends.condF hA rfl ?_
            refine Ends.skip ?_
            have hct := cnt_give (H := H2) (s := d) (by omega) hc48
            refine Ends.region ?_
            refine S.val hA (R.move rfl) rfl ?_; clear hA a; intro a hA
            refine S.val hA (R.nilCheck rfl) rfl ?_; clear hA a; intro a hA
            refine S.val hA (R.fieldAddr (q := 0) fi93_0 rfl rfl rfl) rfl ?_; clear hA a; intro a hA
            refine S.val hA (R.load sz43 rfl (hM.cell (k := 5) rfl rfl)) rfl ?_; clear hA a; intro a hA
            refine S.val hA (R.move rfl) rfl ?_; clear hA a; intro a hA
            refine S.val hA (R.indexAddr (q := d) sl43 rfl rfl (by first | omega | (simp; done)) (by first | omega | (simp; done))) rfl ?_; clear hA a; intro a hA
            refine S.storeO (k := 6) hA hM sz3 rfl rfl rfl rfl (mapi_get H2 d (by first | omega | (simp; done))) ?_; clear hM; intro w26 hM; rw [mapi_set] at hM
            replace hM : Mem _ _ [pt r49 #[.pointer (some ⟨q4, 0, none⟩), .int .i64 0, .bool t54.give, .int .i64 t54.slot, .int .i64 t54.ph, .int .i64 t54.top, .int .i64 t54.next] 131, pt q4 #[.pointer (some ⟨m5, 0, none⟩), .int .i64 3, .slice (some ⟨nb7, 0, none⟩) n.toNat n.toNat, .slice (some ⟨ob8, 0, none⟩) 1 1] 128, pt ob8 #[.slice a50 Y55.length c51] 43, own 3 1 (.slice a50 Y55.length c51) Y55.length (Y55.map (Value.int .i64)), memO m5 c6 l56 s57 o52, pt wb10 #[.slice (some ⟨gH, 0, none⟩) H2.length c12] 93, own 3 1 (.slice (some ⟨gH, 0, none⟩) H2.length c12) H2.length (((H2.set d (-1))).map (Value.int .i64))] _ := hM
            refine S.done ?_
            replace hA : St 145 [(0, _), (1, _), (5, _), (8, _), (9, _), (10, _), (12, _), (13, _), (14, _), (15, _), (35, _), (36, _), (39, _), (40, _), (41, _), (78, _), (79, _), (80, _), (81, _), (82, _), (83, _), (84, _), (85, _), (86, _), (87, _), (88, _), (89, _), (90, _), (93, _), (94, _), (95, _), (96, _), (97, _), (107, _), (108, _), (109, _), (110, _), (111, _), (112, _), (113, _), (114, _), (119, _), (120, _), (121, _), (122, _), (123, _), (124, _), (125, _), (126, _), (127, _), (128, _), (129, _), (130, _), (131, _), (132, _), (133, _), (134, _), (135, _), (136, _)] a := hA.sub ((.cons rfl (.cons rfl (.cons rfl (.cons rfl (.cons rfl (.cons rfl (.cons rfl (.cons rfl (.cons rfl (.cons rfl (.cons rfl (.cons rfl (.cons rfl (.cons rfl (.cons rfl (.cons rfl (.cons rfl (.cons rfl (.cons rfl (.cons rfl (.cons rfl (.cons rfl (.cons rfl (.cons rfl (.cons rfl (.cons rfl (.cons rfl (.cons rfl (.cons rfl (.cons rfl (.cons rfl (.cons rfl (.cons rfl (.cons rfl (.cons rfl (.cons rfl (.cons rfl (.cons rfl (.cons rfl (.cons rfl (.cons rfl (.cons rfl (.cons rfl (.cons rfl (.cons rfl (.cons rfl (.cons rfl (.cons rfl (.cons rfl (.cons rfl (.cons rfl (.cons rfl (.cons rfl (.cons rfl (.cons rfl (.cons rfl (.cons rfl (.cons rfl (.cons rfl .nil))))))))))))))))))))))))))))))))))))))))))))))))))))))))))))
            refine Ends.inBlock ?_
            refine Ends.region ?_
            refine S.val hA (R.move rfl) rfl ?_; clear hA a; intro a hA
            refine S.val hA (R.addI rfl rfl (r := ((j : Int)) + 1) rfl (by first | omega | (simp; done))) rfl ?_; clear hA a; intro a hA
            refine S.val hA (R.assign rfl) rfl ?_; clear hA a; intro a hA
            refine S.done ?_
            replace hA : St 145 [(0, _), (1, _), (5, _), (8, _), (9, _), (10, _), (12, _), (13, _), (14, _), (15, _), (35, _), (36, _), (39, _), (40, _), (41, _), (78, _), (79, _), (80, _), (81, _), (82, _), (83, _), (84, _), (85, _), (86, _), (87, _), (88, _), (89, _), (90, _), (91, _), (92, _), (93, _), (94, _), (95, _), (96, _), (97, _), (107, _), (108, _), (109, _), (110, _), (111, _), (112, _), (113, _), (114, _), (119, _), (120, _), (121, _), (122, _), (123, _), (124, _), (125, _), (126, _), (127, _), (128, _), (129, _), (130, _), (131, _), (132, _), (133, _), (134, _), (135, _), (136, _)] a := hA.sub ((.cons rfl (.cons rfl (.cons rfl (.cons rfl (.cons rfl (.cons rfl (.cons rfl (.cons rfl (.cons rfl (.cons rfl (.cons rfl (.cons rfl (.cons rfl (.cons rfl (.cons rfl (.cons rfl (.cons rfl (.cons rfl (.cons rfl (.cons rfl (.cons rfl (.cons rfl (.cons rfl (.cons rfl (.cons rfl (.cons rfl (.cons rfl (.cons rfl (.cons rfl (.cons rfl (.cons rfl (.cons rfl (.cons rfl (.cons rfl (.cons rfl (.cons rfl (.cons rfl (.cons rfl (.cons rfl (.cons rfl (.cons rfl (.cons rfl (.cons rfl (.cons rfl (.cons rfl (.cons rfl (.cons rfl (.cons rfl (.cons rfl (.cons rfl (.cons rfl (.cons rfl (.cons rfl (.cons rfl (.cons rfl (.cons rfl (.cons rfl (.cons rfl (.cons rfl (.cons rfl (.cons rfl .nil))))))))))))))))))))))))))))))))))))))))))))))))))))))))))))))
            rw [show H2.length = ((H2.set d (-1))).length by simp] at hM
            replace hM := hM.front (k := 6) rfl
            replace hM := hM.front (k := 6) rfl
            replace hM := hM.front (k := 6) rfl
            replace hM := hM.front (k := 6) rfl
            replace hM := hM.front (k := 6) rfl
            replace hM := hM.front (k := 6) rfl
            replace hM : Mem _ _ [pt q4 #[.pointer (some ⟨m5, 0, none⟩), .int .i64 3, .slice (some ⟨nb7, 0, none⟩) n.toNat n.toNat, .slice (some ⟨ob8, 0, none⟩) 1 1] 128, pt ob8 #[.slice a50 Y55.length c51] 43, own 3 1 (.slice a50 Y55.length c51) Y55.length (Y55.map (Value.int .i64)), memO m5 c6 l56 s57 o52, pt wb10 #[.slice (some ⟨gH, 0, none⟩) (((H2.set d (-1))).length) c12] 93, own 3 1 (.slice (some ⟨gH, 0, none⟩) (((H2.set d (-1))).length) c12) (((H2.set d (-1))).length) (((H2.set d (-1))).map (Value.int .i64)), pt r49 #[.pointer (some ⟨q4, 0, none⟩), .int .i64 0, .bool t54.give, .int .i64 t54.slot, .int .i64 t54.ph, .int .i64 t54.top, .int .i64 t54.next] 131] _ := hM
            replace hM : Mem _ _ [pt q4 #[.pointer (some ⟨m5, 0, none⟩), .int .i64 3, .slice (some ⟨nb7, 0, none⟩) n.toNat n.toNat, .slice (some ⟨ob8, 0, none⟩) 1 1] 128, pt ob8 #[.slice a50 Y55.length c51] 43, own 3 1 (.slice a50 Y55.length c51) Y55.length (Y55.map (Value.int .i64)), memO m5 c6 l56 s57 o52, pt wb10 #[.slice (some ⟨gH, 0, none⟩) (((H2.set d (-1))).length) c12] 93, own 3 1 (.slice (some ⟨gH, 0, none⟩) (((H2.set d (-1))).length) c12) (((H2.set d (-1))).length) (((H2.set d (-1))).map (Value.int .i64))] _ := hM.firstN 6
            exact hNext2 ((j + 1, V2 + 1, l56, xs58, Y55, (H2.set d (-1)), a50, c51, s57, o52)) _ _ ((by show n.toNat - (j + 1) < n.toNat - j; omega)) ⟨hA.sub ((.cons rfl (.cons rfl (.cons rfl (.cons rfl (.cons rfl (.cons rfl (.cons rfl (.cons rfl (.cons rfl (.cons rfl (.cons rfl (.cons rfl (.cons rfl (.cons rfl (.cons rfl (.cons rfl (.cons rfl (.cons rfl (.cons rfl (.cons rfl (.cons rfl (.cons rfl (.cons rfl .nil)))))))))))))))))))))))), hM, (by omega), hgit54, (by omega), (two_set htwo2 _ (by left; rfl)), (by omega), (by omega)⟩
      ·
        refine Ends.exit rfl ?_
        replace hA : St 145 [(0, _), (1, _), (5, _), (8, _), (9, _), (10, _), (12, _), (13, _), (35, _), (36, _), (39, _), (40, _), (41, _), (78, _), (79, _), (80, _), (81, _), (82, _), (83, _), (84, _), (85, _), (86, _), (87, _), (88, _), (89, _), (90, _)] a := hA.sub ((.cons rfl (.cons rfl (.cons rfl (.cons rfl (.cons rfl (.cons rfl (.cons rfl (.cons rfl (.cons rfl (.cons rfl (.cons rfl (.cons rfl (.cons rfl (.cons rfl (.cons rfl (.cons rfl (.cons rfl (.cons rfl (.cons rfl (.cons rfl (.cons rfl (.cons rfl (.cons rfl (.cons rfl (.cons rfl (.cons rfl .nil)))))))))))))))))))))))))))
        refine Ends.seq ?_
        refine Ends.region ?_
        refine S.val hA (R.move rfl) rfl ?_; clear hA a; intro a hA
        refine S.val hA (R.move rfl) rfl ?_; clear hA a; intro a hA
        refine S.call hA (R.callF Try.func52 rfl rfl rfl) rfl (pown_ok q4 m5 nb7 n.toNat ob8 1 3 0 [.slice av2 Y2.length cap2] av2 Y2 cap2 (by decide) rfl (by have := hg2.own Y2 (List.mem_cons_self ..); omega) _ (hM.hereN 3)) ?_; clear hA a
        rintro e w27 ⟨a59, c60, rfl, hn⟩
        replace hM : Mem _ _ [own 3 1 (.slice a59 Y2.length c60) Y2.length (Y2.map (Value.int .i64)), pt q4 #[.pointer (some ⟨m5, 0, none⟩), .int .i64 3, .slice (some ⟨nb7, 0, none⟩) n.toNat n.toNat, .slice (some ⟨ob8, 0, none⟩) 1 1] 128, pt ob8 #[.slice av2 Y2.length cap2] 43, own 3 1 (.slice av2 Y2.length cap2) Y2.length (Y2.map (Value.int .i64)), memO m5 c6 l2 s2 op2, pt wb10 #[.slice (some ⟨gH, 0, none⟩) H2.length c12] 93, own 3 1 (.slice (some ⟨gH, 0, none⟩) H2.length c12) H2.length (H2.map (Value.int .i64))] _ := hM.callL 3 hn; clear hn
        refine ⟨.slice a59 Y2.length c60, rfl, fun a hA => ?_⟩
        refine S.val hA (R.move rfl) rfl ?_; clear hA a; intro a hA
        replace hM := hM.front (k := 4) rfl
        replace hM := hM.front (k := 2) rfl
        replace hM : Mem _ _ [pt q4 #[.pointer (some ⟨m5, 0, none⟩), .int .i64 3, .slice (some ⟨nb7, 0, none⟩) n.toNat n.toNat, .slice (some ⟨ob8, 0, none⟩) 1 1] 128, memO m5 c6 l2 s2 op2, own 3 1 (.slice a59 Y2.length c60) Y2.length (Y2.map (Value.int .i64)), pt ob8 #[.slice av2 Y2.length cap2] 43, own 3 1 (.slice av2 Y2.length cap2) Y2.length (Y2.map (Value.int .i64)), pt wb10 #[.slice (some ⟨gH, 0, none⟩) H2.length c12] 93, own 3 1 (.slice (some ⟨gH, 0, none⟩) H2.length c12) H2.length (H2.map (Value.int .i64))] _ := hM
        refine S.call hA (R.callF Try.func53 rfl rfl rfl) rfl (pshared_any q4 m5 c6 nb7 n.toNat ob8 1 3 l2 s2 op2 hm5c6 xs2 (by have := hg2.mi; unfold MI at this; omega) (by omega) (by have := hg2.mi.2.2.2.2.2.1; exact ⟨this.1, this.2.1⟩) hg2.chn (by have := held_len (by omega) hg2.held; rw [List.length_append] at this; omega) (fun x hx => by have := hg2.held.2.2.1 x (List.mem_append_right _ hx); omega) _ (hM.hereN 2)) ?_; clear hA a
        rintro e w28 ⟨a61, c62, rfl, hn⟩
        replace hM : Mem _ _ [own 3 1 (.slice a61 xs2.length c62) xs2.length (xs2.map (Value.int .i64)), pt q4 #[.pointer (some ⟨m5, 0, none⟩), .int .i64 3, .slice (some ⟨nb7, 0, none⟩) n.toNat n.toNat, .slice (some ⟨ob8, 0, none⟩) 1 1] 128, memO m5 c6 l2 s2 op2, own 3 1 (.slice a59 Y2.length c60) Y2.length (Y2.map (Value.int .i64)), pt ob8 #[.slice av2 Y2.length cap2] 43, own 3 1 (.slice av2 Y2.length cap2) Y2.length (Y2.map (Value.int .i64)), pt wb10 #[.slice (some ⟨gH, 0, none⟩) H2.length c12] 93, own 3 1 (.slice (some ⟨gH, 0, none⟩) H2.length c12) H2.length (H2.map (Value.int .i64))] _ := hM.callL 2 hn; clear hn
        refine ⟨.slice a61 xs2.length c62, rfl, fun a hA => ?_⟩
        refine S.buildSl (cells := #[.slice a59 Y2.length c60, .slice a61 xs2.length c62]) hA hM Try.underlying95 info43 rfl rfl rfl rfl (by kernel_rfl) rfl ?_; clear hA hM a; intro b63 w29 hb64 hM a hA
        replace hM : Mem _ _ [pt b63 #[.slice a59 Y2.length c60, .slice a61 xs2.length c62] 43, own 3 1 (.slice a61 xs2.length c62) xs2.length (xs2.map (Value.int .i64)), pt q4 #[.pointer (some ⟨m5, 0, none⟩), .int .i64 3, .slice (some ⟨nb7, 0, none⟩) n.toNat n.toNat, .slice (some ⟨ob8, 0, none⟩) 1 1] 128, memO m5 c6 l2 s2 op2, own 3 1 (.slice a59 Y2.length c60) Y2.length (Y2.map (Value.int .i64)), pt ob8 #[.slice av2 Y2.length cap2] 43, own 3 1 (.slice av2 Y2.length cap2) Y2.length (Y2.map (Value.int .i64)), pt wb10 #[.slice (some ⟨gH, 0, none⟩) H2.length c12] 93, own 3 1 (.slice (some ⟨gH, 0, none⟩) H2.length c12) H2.length (H2.map (Value.int .i64))] _ := hM
        refine S.call hA (R.callF Try.func60 rfl rfl rfl) rfl (once18_2 wb10 b63 n (by omega) (some ⟨gH, 0, none⟩) H2 c12 a59 Y2 c60 a61 xs2 c62 (by have := hg2.held; simpa using this) _ (hM.block (k := 7) rfl) (hM.block (k := 0) rfl) (hM.intSl (k := 8) rfl) (hM.intSl (k := 4) rfl) (hM.intSl (k := 1) rfl)) ?_; clear hA a
        rintro e w30 ⟨rfl, hb⟩
        replace hM := hM.callB hb; clear hb
        refine ⟨.bool true, rfl, fun a hA => ?_⟩
        refine S.val hA (R.not rfl) rfl ?_; clear hA a; intro a hA
        refine S.done ?_
        replace hA : St 145 [(0, _), (1, _), (5, _), (8, _), (9, _), (10, _), (12, _), (13, _), (35, _), (36, _), (39, _), (40, _), (41, _), (78, _), (79, _), (80, _), (81, _), (82, _), (83, _), (84, _), (85, _), (86, _), (87, _), (88, _), (89, _), (90, _), (137, _), (138, _), (139, _), (140, _), (141, _), (142, _), (143, _), (144, _)] a := hA.sub ((.cons rfl (.cons rfl (.cons rfl (.cons rfl (.cons rfl (.cons rfl (.cons rfl (.cons rfl (.cons rfl (.cons rfl (.cons rfl (.cons rfl (.cons rfl (.cons rfl (.cons rfl (.cons rfl (.cons rfl (.cons rfl (.cons rfl (.cons rfl (.cons rfl (.cons rfl (.cons rfl (.cons rfl (.cons rfl (.cons rfl (.cons rfl (.cons rfl (.cons rfl (.cons rfl (.cons rfl (.cons rfl (.cons rfl (.cons rfl .nil)))))))))))))))))))))))))))))))))))
        refine Ends.condF hA rfl ?_
        refine Ends.skip ?_
        refine Ends.inBlock ?_
        refine Ends.region ?_
        refine S.val hA (R.move rfl) rfl ?_; clear hA a; intro a hA
        refine S.val hA (R.addI rfl rfl (r := ((r : Int)) + 1) rfl (by first | omega | (simp; done))) rfl ?_; clear hA a; intro a hA
        refine S.val hA (R.assign rfl) rfl ?_; clear hA a; intro a hA
        refine S.done ?_
        replace hA : St 145 [(0, _), (1, _), (5, _), (8, _), (9, _), (10, _), (12, _), (13, _), (35, _), (36, _), (37, _), (38, _), (39, _), (40, _), (41, _), (78, _), (79, _), (80, _), (81, _), (82, _), (83, _), (84, _), (85, _), (86, _), (87, _), (88, _), (89, _), (90, _), (137, _), (138, _), (139, _), (140, _), (141, _), (142, _), (143, _), (144, _)] a := hA.sub ((.cons rfl (.cons rfl (.cons rfl (.cons rfl (.cons rfl (.cons rfl (.cons rfl (.cons rfl (.cons rfl (.cons rfl (.cons rfl (.cons rfl (.cons rfl (.cons rfl (.cons rfl (.cons rfl (.cons rfl (.cons rfl (.cons rfl (.cons rfl (.cons rfl (.cons rfl (.cons rfl (.cons rfl (.cons rfl (.cons rfl (.cons rfl (.cons rfl (.cons rfl (.cons rfl (.cons rfl (.cons rfl (.cons rfl (.cons rfl (.cons rfl (.cons rfl .nil)))))))))))))))))))))))))))))))))))))
        replace hM := hM.front (k := 8) rfl
        replace hM := hM.front (k := 8) rfl
        replace hM := hM.front (k := 5) rfl
        replace hM := hM.front (k := 8) rfl
        replace hM := hM.front (k := 8) rfl
        replace hM := hM.front (k := 7) rfl
        replace hM : Mem _ _ [pt q4 #[.pointer (some ⟨m5, 0, none⟩), .int .i64 3, .slice (some ⟨nb7, 0, none⟩) n.toNat n.toNat, .slice (some ⟨ob8, 0, none⟩) 1 1] 128, pt ob8 #[.slice av2 Y2.length cap2] 43, own 3 1 (.slice av2 Y2.length cap2) Y2.length (Y2.map (Value.int .i64)), memO m5 c6 l2 s2 op2, pt wb10 #[.slice (some ⟨gH, 0, none⟩) H2.length c12] 93, own 3 1 (.slice (some ⟨gH, 0, none⟩) H2.length c12) H2.length (H2.map (Value.int .i64)), pt b63 #[.slice a59 Y2.length c60, .slice a61 xs2.length c62] 43, own 3 1 (.slice a61 xs2.length c62) xs2.length (xs2.map (Value.int .i64)), own 3 1 (.slice a59 Y2.length c60) Y2.length (Y2.map (Value.int .i64))] _ := hM
        replace hM : Mem _ _ [pt q4 #[.pointer (some ⟨m5, 0, none⟩), .int .i64 3, .slice (some ⟨nb7, 0, none⟩) n.toNat n.toNat, .slice (some ⟨ob8, 0, none⟩) 1 1] 128, pt ob8 #[.slice av2 Y2.length cap2] 43, own 3 1 (.slice av2 Y2.length cap2) Y2.length (Y2.map (Value.int .i64)), memO m5 c6 l2 s2 op2, pt wb10 #[.slice (some ⟨gH, 0, none⟩) H2.length c12] 93, own 3 1 (.slice (some ⟨gH, 0, none⟩) H2.length c12) H2.length (H2.map (Value.int .i64))] _ := hM.firstN 6
        exact hNext ((r + 1, V2, l2, xs2, Y2, H2, av2, cap2, s2, op2)) _ _ ((by show 2 - (r + 1) < 2 - r; omega)) ⟨hA.sub ((.cons rfl (.cons rfl (.cons rfl (.cons rfl (.cons rfl .nil)))))), hM, (by omega), hg2, (by omega), htwo2, (by omega), (by omega)⟩
  ·
    refine Ends.exit rfl ?_
    replace hA : St 145 [] a := hA.sub (.nil)
    refine Ends.seq ?_
    refine Ends.region ?_
    refine S.val hA (R.assign rfl) rfl ?_; clear hA a; intro a hA
    refine S.done ?_
    replace hA : St 145 [(4, _)] a := hA.sub ((.cons rfl .nil))
    refine Ends.ret1 Try.func11 Try.results11 hA rfl ?_
    exact ⟨rfl, hM.nilL.below⟩
theorem poolAlone_any (f : Int) (v : Value) (l : List Int) (w : World) (_hf : (Lit.int .i64 f).wf = true) (hsl : IntSl w v l) (_hl : ∀ x ∈ l, (Lit.int .i64 x).wf = true) :
    Calls Try.prog 11 #[.int .i64 f, v] w fun e w' => e = .returned (.bool true) ∧ Below w.heap.size w w' := by
  obtain ⟨ad, cap, rfl⟩ := hsl.form
  exact poolAlone_w f ad l.length cap l rfl w hsl
end Go.Proofs.Ytjjbognomeplbaa
