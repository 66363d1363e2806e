/-
  GenFine, part 5 of 5: what the code computes, and plain laws; no condition beside those that each theorem tells.
-/
import Derived.Test.YtakfcekfmdjklaaDoorGenFineD
namespace Go.Proofs.YtakfcekfmdjklaaDoor
open Go.RowKit
set_option maxRecDepth 100000 in
set_option maxHeartbeats 400000 in
theorem gnext (d : Nat) (s m : Int) (hm : 0 ≤ m ∧ m ≤ 2147483647) (w : World) (hM : Mem w (feet [pt d #[.int .u64 s, .int .i64 m] 80]) [pt d #[.int .u64 s, .int .i64 m] 80] w) :
  Calls Tryd.prog 73 #[.pointer (some ⟨d, 0, none⟩)] w fun e w' => e = .returned (.int .i64 (drawN s m)) ∧ Mem w (feet [pt d #[.int .u64 s, .int .i64 m] 80]) [pt d #[.int .u64 (drawS s), .int .i64 m] 80] w' := by
 refine Calls.of_ends (vs := [.pointer (some ⟨d, 0, none⟩)]) Tryd.func73 rfl Tryd.ntmps73 rfl ?_
 intro a hA
 replace hA : St 22 [(0, _)] a := hA
 refine Ends.seq (Ends.region ?_)
 refine S.val hA (R.assign rfl) rfl ?_; clear hA a; intro a hA
 refine S.done ?_
 replace hA : St 22 [(0, _)] a := hA.sub ((.cons rfl .nil))
 refine Ends.seq ?_
 refine Ends.drawn (Mem w (feet [pt d #[.int .u64 s, .int .i64 m] 80]) [pt d #[.int .u64 s, .int .i64 m] 80]) (.cons (0, true) (.cons (1, true) (.cons (2, true) (.cons (3, true) (.cons (4, true) (.cons (5, true) (.cons (6, true) (.cons (7, true) (.cons (8, false) (.cons (9, true) (.cons (10, true) (.cons (11, true) (.cons (12, true) (.cons (13, true) .nil)))))))))))))) 14 mixed (by kernel_rfl) (by kernel_rfl) (by kernel_rfl) hM.drew ?_
 replace hM := hM.drew
 refine D.valF hA rfl (fun _ => R.move rfl) rfl ?_; clear hA a; intro a hA
 refine D.valF hA rfl (fun _ => R.nilCheck rfl) rfl ?_; clear hA a; intro a hA
 refine D.valF hA rfl (fun _ => R.fieldAddr (q := 0) fi80_0 rfl rfl rfl) rfl ?_; clear hA a; intro a hA
 refine D.val hA rfl (by kernel_rfl) (fun _ hM => R.load sz38 rfl (hM.cell (k := 0) rfl rfl)) rfl ?_; clear hA a; intro a hA
 refine D.valF hA rfl (fun _ => R.move rfl) rfl ?_; clear hA a; intro a hA
 refine D.valF hA rfl (fun _ => R.nilCheck rfl) rfl ?_; clear hA a; intro a hA
 refine D.valF hA rfl (fun _ => R.fieldAddr (q := 1) fi80_1 rfl rfl rfl) rfl ?_; clear hA a; intro a hA
 refine D.val hA rfl (by kernel_rfl) (fun _ hM => R.load sz3 rfl (hM.cell (k := 0) rfl rfl)) rfl ?_; clear hA a; intro a hA
 refine D.call hA rfl (R.callF Tryd.func55 rfl rfl rfl) rfl (draw_in s m hm.1 hm.2 _) ?_; clear hA a
 rintro e w1 ⟨rfl, rfl⟩
 refine ⟨.tuple #[.int .i64 (drawN s m), .int .u64 (drawS s)], rfl, hM, fun a hA => ?_⟩
 refine D.valF hA rfl (fun _ => R.move rfl) rfl ?_; clear hA a; intro a hA
 refine D.valF hA rfl (fun _ => R.extract (v := .int .i64 (drawN s m)) rfl rfl) rfl ?_; clear hA a; intro a hA
 refine D.valF hA rfl (fun _ => R.extract (v := .int .u64 (drawS s)) rfl rfl) rfl ?_; clear hA a; intro a hA
 refine D.valF hA rfl (fun _ => R.assign rfl) rfl ?_; clear hA a; intro a hA
 refine D.valF hA rfl (fun _ => R.assign rfl) rfl ?_; clear hA a; intro a hA
 refine D.done ?_
 replace hA : St 22 [(0, _), (3, _), (4, _)] a := hA.sub ((.cons rfl (.cons rfl (.cons rfl .nil))))
 refine Ends.seq (Ends.region ?_)
 refine S.val hA (R.move rfl) rfl ?_; clear hA a; intro a hA
 refine S.val hA (R.move rfl) rfl ?_; clear hA a; intro a hA
 refine S.val hA (R.nilCheck rfl) rfl ?_; clear hA a; intro a hA
 refine S.val hA (R.fieldAddr (q := 0) fi80_0 rfl rfl rfl) rfl ?_; clear hA a; intro a hA
 refine S.store (k := 0) hA hM sz38 rfl rfl rfl rfl rfl ?_; clear hM
 intro w2 hM
 replace hM : Mem _ _ [pt d #[.int .u64 (drawS s), .int .i64 m] 80] _ := hM
 refine S.done ?_
 replace hA : St 22 [(3, _)] a := hA.sub ((.cons rfl .nil))
 refine Ends.seq (Ends.region ?_)
 refine S.val hA (R.move rfl) rfl ?_; clear hA a; intro a hA
 refine S.val hA (R.assign rfl) rfl ?_; clear hA a; intro a hA
 refine S.done ?_
 replace hA : St 22 [(2, _)] a := hA.sub ((.cons rfl .nil))
 refine Ends.ret1 Tryd.func73 Tryd.results73 hA rfl ?_
 exact ⟨rfl, hM⟩
set_option maxRecDepth 100000 in
set_option maxHeartbeats 400000 in
theorem gknap (d : Nat) (n s m : Int) (hm : 0 ≤ m ∧ m ≤ 2147483647) (hn : 1 ≤ n ∧ n ≤ 64) (w : World) (hM : Mem w (feet [pt d #[.int .u64 (sd s (0)), .int .i64 m] 80]) [pt d #[.int .u64 (sd s (0)), .int .i64 m] 80] w) :
  Calls Tryd.prog 53 #[.pointer (some ⟨d, 0, none⟩), .int .i64 n] w fun e w' => ∃ aw cw av cv, e = .returned (insA (gK n m s) aw cw av cv none 0 []) ∧ Mem w (feet [pt d #[.int .u64 (sd s (0)), .int .i64 m] 80]) [bundle (insL 3 22 (gK n m s) aw cw av cv none 0 []), pt d #[.int .u64 (sd s (2 * n.toNat)), .int .i64 m] 80] w' := by
 refine Calls.of_ends (vs := [.pointer (some ⟨d, 0, none⟩), .int .i64 n]) Tryd.func53 rfl Tryd.ntmps53 rfl ?_
 intro a hA
 replace hA : St 37 [(0, _), (1, _)] a := hA
 refine Ends.seq (Ends.region ?_)
 refine S.alloc hA hM info25 rfl rfl ?_; clear hA hM a; intro b1 w1 hb2 hM a hA
 replace hM : Mem _ _ [pt b1 cz0 25, pt d #[.int .u64 (sd s (0)), .int .i64 m] 80] _ := hM
 refine S.done ?_
 replace hA : St 37 [(0, _), (1, _), (4, _)] a := hA.sub ((.cons rfl (.cons rfl (.cons rfl .nil))))
 refine Ends.seq (Ends.region ?_)
 refine S.val hA (R.move rfl) rfl ?_; clear hA a; intro a hA
 refine S.val hA (R.build (cells := #[.int .i64 1, .int .i64 n, .int .i64 0, .slice none 0 0, .slice none 0 0, .slice none 0 0]) rfl (by kernel_rfl)) rfl ?_; clear hA a; intro a hA
 refine S.alloc hA hM info25 rfl rfl ?_; clear hA hM a; intro b3 w2 hb4 hM a hA
 replace hM : Mem _ _ [pt b3 cz0 25, pt b1 cz0 25, pt d #[.int .u64 (sd s (0)), .int .i64 m] 80] _ := hM
 refine S.storeA (k := 0) hA hM sz25 rfl rfl rfl rfl rfl rfl ?_; clear hM
 intro w3 hM
 replace hM : Mem _ _ [pt b3 #[.int .i64 1, .int .i64 n, .int .i64 0, .slice none 0 0, .slice none 0 0, .slice none 0 0] 25, pt b1 cz0 25, pt d #[.int .u64 (sd s (0)), .int .i64 m] 80] _ := hM
 refine S.done ?_
 replace hA : St 37 [(0, _), (1, _), (4, _), (5, _)] a := hA.sub ((.cons rfl (.cons rfl (.cons rfl (.cons rfl .nil)))))
 refine Ends.seq (Ends.region ?_)
 refine S.val hA (R.assign rfl) rfl ?_; clear hA a; intro a hA
 refine S.done ?_
 replace hA : St 37 [(0, _), (1, _), (4, _), (5, _), (6, _)] a := hA.sub ((.cons rfl (.cons rfl (.cons rfl (.cons rfl (.cons rfl .nil))))))
 refine Ends.seq (Ends.seq (Ends.region ?_))
 refine S.val hA (R.move rfl) rfl ?_; clear hA a; intro a hA
 refine S.val hA (R.move rfl) rfl ?_; clear hA a; intro a hA
 refine S.done ?_
 replace hA : St 37 [(0, _), (4, _), (5, _), (6, _), (10, _), (11, _)] a := hA.sub ((.cons rfl (.cons rfl (.cons rfl (.cons rfl (.cons rfl (.cons rfl .nil)))))))
 refine Ends.block ?_
 replace hM := hM.front (k := 1) rfl
 replace hM := hM.front (k := 2) rfl
 replace hM := hM.front (k := 2) rfl
 replace hM : Mem _ _ [pt b3 #[.int .i64 1, .int .i64 n, .int .i64 0, .slice none 0 0, .slice none 0 0, .slice none 0 0] 25, pt d #[.int .u64 (sd s (0)), .int .i64 m] 80, pt b1 cz0 25] _ := hM
 replace hM := (hM.ownNil 3 1).ownNil 3 1
 have hM1 := ((hM.front (k := 2) rfl))
 replace hM : Mem _ _ [pt b3 #[.int .i64 1, .int .i64 n, .int .i64 0, .slice none ((nmL s m evn 0).length) 0, .slice none ((nmL s m odd1 0).length) 0, .slice none 0 0] 25, own 3 1 (.slice none (((nmL s m evn 0)).length) 0) (((nmL s m evn 0)).length) (((nmL s m evn 0)).map (Value.int .i64)), own 3 1 (.slice none (((nmL s m odd1 0)).length) 0) (((nmL s m odd1 0)).length) (((nmL s m odd1 0)).map (Value.int .i64)), pt d #[.int .u64 (sd s (2 * 0)), .int .i64 m] 80, pt b1 cz0 25] _ := hM1
 clear hM1
 refine Ends.loop (σ := Nat × Option Addr × Nat × Option Addr × Nat) (fun (k, aw, cw, av, cv) (a : Act) (wv : World) => St 37 [(0, .pointer (some ⟨d, 0, none⟩)), (4, .pointer (some ⟨b1, 0, none⟩)), (5, .pointer (some ⟨b3, 0, none⟩)), (6, .int .i64 ((nmL s m evn k).sum)), (10, .int .i64 n), (11, .int .i64 ((k : Int)))] a ∧ Mem w (feet [pt d #[.int .u64 (sd s (0)), .int .i64 m] 80]) [pt b3 #[.int .i64 1, .int .i64 n, .int .i64 0, .slice aw ((nmL s m evn k).length) cw, .slice av ((nmL s m odd1 k).length) cv, .slice none 0 0] 25, own 3 1 (.slice aw (((nmL s m evn k)).length) cw) (((nmL s m evn k)).length) (((nmL s m evn k)).map (Value.int .i64)), own 3 1 (.slice av (((nmL s m odd1 k)).length) cv) (((nmL s m odd1 k)).length) (((nmL s m odd1 k)).map (Value.int .i64)), pt d #[.int .u64 (sd s (2 * k)), .int .i64 m] 80, pt b1 cz0 25] wv ∧ (k ≤ n.toNat)) (fun (k, aw, cw, av, cv) => n.toNat - k) ((0, none, 0, none, 0)) ⟨hA.sub ((.cons rfl (.cons rfl (.cons rfl (.cons rfl (.cons rfl (.cons rfl .nil))))))), hM, (Nat.zero_le _)⟩ ?_
 clear hA hM a
 rintro ⟨k, aw, cw, av, cv⟩ a w4 ⟨hA, hM, hk⟩ hNext
 refine Ends.seq (Ends.region ?_)
 refine S.val hA (R.lss rfl rfl) rfl ?_; clear hA a; intro a hA
 refine S.done ?_
 replace hA : St 37 [(0, _), (4, _), (5, _), (6, _), (10, _), (11, _), (12, _)] a := hA.sub ((.cons rfl (.cons rfl (.cons rfl (.cons rfl (.cons rfl (.cons rfl (.cons rfl .nil))))))))
 refine Ends.seq ?_
 refine Ends.ite hA rfl (fun hc5 => ?_) (fun hc5 => ?_)
 ·
  have hsm := nmL_sum s m evn hm k
  have hb1 := nm_bd s m (2 * k) hm.1
  refine Ends.skip (Ends.seq (Ends.block (Ends.seq (Ends.region ?_))))
  refine S.val hA (R.move rfl) rfl ?_; clear hA a; intro a hA
  replace hM := hM.front (k := 3) rfl
  replace hM : Mem _ _ [pt d #[.int .u64 (sd s (2 * k)), .int .i64 m] 80, pt b3 #[.int .i64 1, .int .i64 n, .int .i64 0, .slice aw ((nmL s m evn k).length) cw, .slice av ((nmL s m odd1 k).length) cv, .slice none 0 0] 25, own 3 1 (.slice aw (((nmL s m evn k)).length) cw) (((nmL s m evn k)).length) (((nmL s m evn k)).map (Value.int .i64)), own 3 1 (.slice av (((nmL s m odd1 k)).length) cv) (((nmL s m odd1 k)).length) (((nmL s m odd1 k)).map (Value.int .i64)), pt b1 cz0 25] _ := hM
  refine S.call hA (R.callF Tryd.func73 rfl rfl rfl) rfl (gnext d (sd s (2 * k)) m hm _ (hM.hereN 1)) ?_; clear hA a
  rintro e w5 ⟨rfl, hn⟩
  replace hM : Mem _ _ [pt d #[.int .u64 (sd s (2 * k + 1)), .int .i64 m] 80, pt b3 #[.int .i64 1, .int .i64 n, .int .i64 0, .slice aw ((nmL s m evn k).length) cw, .slice av ((nmL s m odd1 k).length) cv, .slice none 0 0] 25, own 3 1 (.slice aw (((nmL s m evn k)).length) cw) (((nmL s m evn k)).length) (((nmL s m evn k)).map (Value.int .i64)), own 3 1 (.slice av (((nmL s m odd1 k)).length) cv) (((nmL s m odd1 k)).length) (((nmL s m odd1 k)).map (Value.int .i64)), pt b1 cz0 25] _ := hM.callL 1 hn; clear hn
  refine ⟨.int .i64 (nm s m (2 * k)), rfl, fun a hA => ?_⟩
  refine S.val hA (R.assign rfl) rfl ?_; clear hA a; intro a hA
  refine S.done ?_
  replace hA : St 37 [(0, _), (4, _), (5, _), (6, _), (7, _), (10, _), (11, _)] a := hA.sub ((.cons rfl (.cons rfl (.cons rfl (.cons rfl (.cons rfl (.cons rfl (.cons rfl .nil))))))))
  refine Ends.seq (Ends.region ?_)
  refine S.val hA (R.move rfl) rfl ?_; clear hA a; intro a hA
  refine S.val hA (R.move rfl) rfl ?_; clear hA a; intro a hA
  refine S.val hA (R.addI rfl rfl (r := ((nmL s m evn k).sum) + (nm s m (2 * k))) rfl (by omega)) rfl ?_; clear hA a; intro a hA
  refine S.val hA (R.assign rfl) rfl ?_; clear hA a; intro a hA
  refine S.done ?_
  replace hA : St 37 [(0, _), (4, _), (5, _), (6, _), (7, _), (10, _), (11, _)] a := hA.sub ((.cons rfl (.cons rfl (.cons rfl (.cons rfl (.cons rfl (.cons rfl (.cons rfl .nil))))))))
  refine Ends.seq (Ends.region ?_)
  refine S.val hA (R.fieldAddr (q := 3) fi25_3 rfl rfl rfl) rfl ?_; clear hA a; intro a hA
  refine S.val hA (R.load sz22 rfl (hM.cell (k := 1) rfl rfl)) rfl ?_; clear hA a; intro a hA
  refine S.val hA (R.move rfl) rfl ?_; clear hA a; intro a hA
  refine S.buildSl (cells := #[.int .i64 (nm s m (2 * k))]) hA hM Tryd.underlying22 info3 rfl rfl rfl rfl (by kernel_rfl) rfl ?_; clear hA hM a; intro b6 w6 hb7 hM a hA
  replace hM : Mem _ _ [pt b6 #[.int .i64 (nm s m (2 * k))] 3, pt d #[.int .u64 (sd s (2 * k + 1)), .int .i64 m] 80, pt b3 #[.int .i64 1, .int .i64 n, .int .i64 0, .slice aw ((nmL s m evn k).length) cw, .slice av ((nmL s m odd1 k).length) cv, .slice none 0 0] 25, own 3 1 (.slice aw (((nmL s m evn k)).length) cw) (((nmL s m evn k)).length) (((nmL s m evn k)).map (Value.int .i64)), own 3 1 (.slice av (((nmL s m odd1 k)).length) cv) (((nmL s m odd1 k)).length) (((nmL s m odd1 k)).map (Value.int .i64)), pt b1 cz0 25] _ := hM
  refine S.append (k := 3) (k2 := 0) hA hM rfl rfl Tryd.underlying22 info3 rfl rfl rfl rfl rfl rfl rfl rfl rfl (by first | omega | (show (_ + 1) * 8 ≤ 140737488355328; simp only [nmL_len]; omega) | (show (_ + 1) * 8 ≤ 140737488355328; omega) | (simp only [nmL_len]; unfold maxLen; omega) | (unfold maxLen; omega)) (by first | omega | (show (_ + 1) * 8 ≤ 140737488355328; simp only [nmL_len]; omega) | (show (_ + 1) * 8 ≤ 140737488355328; omega) | (simp only [nmL_len]; unfold maxLen; omega) | (unfold maxLen; omega)) rfl ?_; clear hA hM a; intro a8 c9 w7 hM a hA
  replace hM : Mem _ _ [pt b6 #[.int .i64 (nm s m (2 * k))] 3, pt d #[.int .u64 (sd s (2 * k + 1)), .int .i64 m] 80, pt b3 #[.int .i64 1, .int .i64 n, .int .i64 0, .slice aw ((nmL s m evn k).length) cw, .slice av ((nmL s m odd1 k).length) cv, .slice none 0 0] 25, own 3 1 (.slice a8 ((((nmL s m evn k)).length) + 1) c9) ((((nmL s m evn k)).length) + 1) (((nmL s m evn k)).map (Value.int .i64) ++ [.int .i64 (nm s m (2 * k))]), own 3 1 (.slice av (((nmL s m odd1 k)).length) cv) (((nmL s m odd1 k)).length) (((nmL s m odd1 k)).map (Value.int .i64)), pt b1 cz0 25] _ := hM
  have hl10 : (((nmL s m evn k)).length) + 1 = ((nmL s m evn k) ++ [nm s m (2 * k)]).length := by simp
  rw [hl10, show ((nmL s m evn k)).map (Value.int .i64) ++ [.int .i64 (nm s m (2 * k))] = ((nmL s m evn k) ++ [nm s m (2 * k)]).map (Value.int .i64) by simp] at hM; rw [hl10] at hA
  clear hl10
  replace hM := hM.drop 0
  replace hM : Mem _ _ [pt d #[.int .u64 (sd s (2 * k + 1)), .int .i64 m] 80, pt b3 #[.int .i64 1, .int .i64 n, .int .i64 0, .slice aw ((nmL s m evn k).length) cw, .slice av ((nmL s m odd1 k).length) cv, .slice none 0 0] 25, own 3 1 (.slice a8 ((((nmL s m evn k) ++ [nm s m (2 * k)])).length) c9) ((((nmL s m evn k) ++ [nm s m (2 * k)])).length) ((((nmL s m evn k) ++ [nm s m (2 * k)])).map (Value.int .i64)), own 3 1 (.slice av (((nmL s m odd1 k)).length) cv) (((nmL s m odd1 k)).length) (((nmL s m odd1 k)).map (Value.int .i64)), pt b1 cz0 25] _ := hM
  refine S.val hA (R.fieldAddr (q := 3) fi25_3 rfl rfl rfl) rfl ?_; clear hA a; intro a hA
  refine S.store (k := 1) hA hM sz22 rfl rfl rfl rfl rfl ?_; clear hM
  intro w8 hM
  replace hM : Mem _ _ [pt d #[.int .u64 (sd s (2 * k + 1)), .int .i64 m] 80, pt b3 #[.int .i64 1, .int .i64 n, .int .i64 0, .slice a8 ((((nmL s m evn k) ++ [nm s m (2 * k)])).length) c9, .slice av ((nmL s m odd1 k).length) cv, .slice none 0 0] 25, own 3 1 (.slice a8 ((((nmL s m evn k) ++ [nm s m (2 * k)])).length) c9) ((((nmL s m evn k) ++ [nm s m (2 * k)])).length) ((((nmL s m evn k) ++ [nm s m (2 * k)])).map (Value.int .i64)), own 3 1 (.slice av (((nmL s m odd1 k)).length) cv) (((nmL s m odd1 k)).length) (((nmL s m odd1 k)).map (Value.int .i64)), pt b1 cz0 25] _ := hM
  refine S.done ?_
  replace hA : St 37 [(0, _), (4, _), (5, _), (6, _), (10, _), (11, _)] a := hA.sub ((.cons rfl (.cons rfl (.cons rfl (.cons rfl (.cons rfl (.cons rfl .nil)))))))
  refine Ends.drawn (Mem w (feet [pt d #[.int .u64 (sd s (0)), .int .i64 m] 80]) [pt b3 #[.int .i64 1, .int .i64 n, .int .i64 0, .slice a8 ((((nmL s m evn k) ++ [nm s m (2 * k)])).length) c9, .slice av ((nmL s m odd1 k).length) cv, .slice none 0 0] 25, pt b1 cz0 25]) (.cons (0, true) (.cons (1, true) (.cons (2, true) (.cons (3, false) (.cons (4, false) (.cons (5, false) (.cons (6, true) (.cons (7, false) .nil)))))))) 7 mixed (by kernel_rfl) (by kernel_rfl) (by kernel_rfl) (((hM.drop 3).drop 2).drop 0).drew ?_
  replace hM := hM.drew
  refine D.valF hA rfl (fun _ => R.fieldAddr (q := 4) fi25_4 rfl rfl rfl) rfl ?_; clear hA a; intro a hA
  refine D.val hA rfl (by kernel_rfl) (fun _ hM => R.load sz22 rfl (hM.cell (k := 0) rfl rfl)) rfl ?_; clear hA a; intro a hA
  refine D.valF hA rfl (fun _ => R.move rfl) rfl ?_; clear hA a; intro a hA
  refine D.call hA rfl (R.callF Tryd.func73 rfl rfl rfl) rfl (gnext d (sd s (2 * k + 1)) m hm _ (hM.hereN 1)) ?_; clear hA a
  rintro e w9 ⟨rfl, hn⟩
  replace hM : Mem _ _ [pt d #[.int .u64 (sd s (2 * k + 1 + 1)), .int .i64 m] 80, pt b3 #[.int .i64 1, .int .i64 n, .int .i64 0, .slice a8 ((((nmL s m evn k) ++ [nm s m (2 * k)])).length) c9, .slice av ((nmL s m odd1 k).length) cv, .slice none 0 0] 25, own 3 1 (.slice a8 ((((nmL s m evn k) ++ [nm s m (2 * k)])).length) c9) ((((nmL s m evn k) ++ [nm s m (2 * k)])).length) ((((nmL s m evn k) ++ [nm s m (2 * k)])).map (Value.int .i64)), own 3 1 (.slice av (((nmL s m odd1 k)).length) cv) (((nmL s m odd1 k)).length) (((nmL s m odd1 k)).map (Value.int .i64)), pt b1 cz0 25] _ := hM.callL 1 hn; clear hn
  refine ⟨.int .i64 (nm s m (2 * k + 1)), rfl, (((hM.drop 3).drop 2).drop 0), fun a hA => ?_⟩
  refine D.buildSl (cells := #[.int .i64 (nm s m (2 * k + 1))]) hA hM rfl Tryd.underlying22 info3 rfl rfl rfl rfl (by kernel_rfl) rfl ?_; clear hA hM a; intro b11 w10 hb12 hM; refine ⟨(fun hM => (((hM.drop 3).drop 2).drop 0)) hM.tail, fun a hA => ?_⟩
  replace hM : Mem _ _ [pt b11 #[.int .i64 (nm s m (2 * k + 1))] 3, pt d #[.int .u64 (sd s (2 * k + 1 + 1)), .int .i64 m] 80, pt b3 #[.int .i64 1, .int .i64 n, .int .i64 0, .slice a8 ((((nmL s m evn k) ++ [nm s m (2 * k)])).length) c9, .slice av ((nmL s m odd1 k).length) cv, .slice none 0 0] 25, own 3 1 (.slice a8 ((((nmL s m evn k) ++ [nm s m (2 * k)])).length) c9) ((((nmL s m evn k) ++ [nm s m (2 * k)])).length) ((((nmL s m evn k) ++ [nm s m (2 * k)])).map (Value.int .i64)), own 3 1 (.slice av (((nmL s m odd1 k)).length) cv) (((nmL s m odd1 k)).length) (((nmL s m odd1 k)).map (Value.int .i64)), pt b1 cz0 25] _ := hM
  refine D.append (k := 4) (k2 := 0) hA hM rfl rfl rfl Tryd.underlying22 info3 rfl rfl rfl rfl rfl rfl rfl rfl rfl (by first | omega | (show (_ + 1) * 8 ≤ 140737488355328; simp only [nmL_len]; omega) | (show (_ + 1) * 8 ≤ 140737488355328; omega) | (simp only [nmL_len]; unfold maxLen; omega) | (unfold maxLen; omega)) (by first | omega | (show (_ + 1) * 8 ≤ 140737488355328; simp only [nmL_len]; omega) | (show (_ + 1) * 8 ≤ 140737488355328; omega) | (simp only [nmL_len]; unfold maxLen; omega) | (unfold maxLen; omega)) rfl ?_; clear hA hM a; intro a13 c14 w11 hM
  replace hM : Mem _ _ [pt b11 #[.int .i64 (nm s m (2 * k + 1))] 3, pt d #[.int .u64 (sd s (2 * k + 1 + 1)), .int .i64 m] 80, pt b3 #[.int .i64 1, .int .i64 n, .int .i64 0, .slice a8 ((((nmL s m evn k) ++ [nm s m (2 * k)])).length) c9, .slice av ((nmL s m odd1 k).length) cv, .slice none 0 0] 25, own 3 1 (.slice a8 ((((nmL s m evn k) ++ [nm s m (2 * k)])).length) c9) ((((nmL s m evn k) ++ [nm s m (2 * k)])).length) ((((nmL s m evn k) ++ [nm s m (2 * k)])).map (Value.int .i64)), own 3 1 (.slice a13 ((((nmL s m odd1 k)).length) + 1) c14) ((((nmL s m odd1 k)).length) + 1) (((nmL s m odd1 k)).map (Value.int .i64) ++ [.int .i64 (nm s m (2 * k + 1))]), pt b1 cz0 25] _ := hM
  have hl15 : (((nmL s m odd1 k)).length) + 1 = ((nmL s m odd1 k) ++ [nm s m (2 * k + 1)]).length := by simp
  rw [hl15, show ((nmL s m odd1 k)).map (Value.int .i64) ++ [.int .i64 (nm s m (2 * k + 1))] = ((nmL s m odd1 k) ++ [nm s m (2 * k + 1)]).map (Value.int .i64) by simp] at hM
  replace hM := hM.drop 0
  replace hM : Mem _ _ [pt d #[.int .u64 (sd s (2 * k + 1 + 1)), .int .i64 m] 80, pt b3 #[.int .i64 1, .int .i64 n, .int .i64 0, .slice a8 ((((nmL s m evn k) ++ [nm s m (2 * k)])).length) c9, .slice av ((nmL s m odd1 k).length) cv, .slice none 0 0] 25, own 3 1 (.slice a8 ((((nmL s m evn k) ++ [nm s m (2 * k)])).length) c9) ((((nmL s m evn k) ++ [nm s m (2 * k)])).length) ((((nmL s m evn k) ++ [nm s m (2 * k)])).map (Value.int .i64)), own 3 1 (.slice a13 ((((nmL s m odd1 k) ++ [nm s m (2 * k + 1)])).length) c14) ((((nmL s m odd1 k) ++ [nm s m (2 * k + 1)])).length) ((((nmL s m odd1 k) ++ [nm s m (2 * k + 1)])).map (Value.int .i64)), pt b1 cz0 25] _ := hM
  refine ⟨(((hM.drop 3).drop 2).drop 0), fun a hA => ?_⟩; rw [hl15] at hA; clear hl15
  refine D.valF hA rfl (fun _ => R.fieldAddr (q := 4) fi25_4 rfl rfl rfl) rfl ?_; clear hA a; intro a hA
  refine D.store (k := 1) hA hM rfl sz22 rfl rfl rfl rfl rfl ?_; clear hM
  intro w12 hM; refine ⟨fun _ hne => absurd rfl hne, ?_⟩
  replace hM : Mem _ _ [pt d #[.int .u64 (sd s (2 * k + 1 + 1)), .int .i64 m] 80, pt b3 #[.int .i64 1, .int .i64 n, .int .i64 0, .slice a8 ((((nmL s m evn k) ++ [nm s m (2 * k)])).length) c9, .slice a13 ((((nmL s m odd1 k) ++ [nm s m (2 * k + 1)])).length) c14, .slice none 0 0] 25, own 3 1 (.slice a8 ((((nmL s m evn k) ++ [nm s m (2 * k)])).length) c9) ((((nmL s m evn k) ++ [nm s m (2 * k)])).length) ((((nmL s m evn k) ++ [nm s m (2 * k)])).map (Value.int .i64)), own 3 1 (.slice a13 ((((nmL s m odd1 k) ++ [nm s m (2 * k + 1)])).length) c14) ((((nmL s m odd1 k) ++ [nm s m (2 * k + 1)])).length) ((((nmL s m odd1 k) ++ [nm s m (2 * k + 1)])).map (Value.int .i64)), pt b1 cz0 25] _ := hM
  refine D.done ?_
  replace hA : St 37 [(0, _), (4, _), (5, _), (6, _), (10, _), (11, _)] a := hA.sub ((.cons rfl (.cons rfl (.cons rfl (.cons rfl (.cons rfl (.cons rfl .nil)))))))
  refine Ends.inBlock (Ends.region ?_)
  refine S.val hA (R.addI rfl rfl (r := ((k : Int)) + 1) rfl (by omega)) rfl ?_; clear hA a; intro a hA
  refine S.val hA (R.move rfl) rfl ?_; clear hA a; intro a hA
  refine S.done ?_
  replace hA : St 37 [(0, _), (4, _), (5, _), (6, _), (10, _), (11, _)] a := hA.sub ((.cons rfl (.cons rfl (.cons rfl (.cons rfl (.cons rfl (.cons rfl .nil)))))))
  rw [show nmL s m evn k ++ [nm s m (2 * k)] = nmL s m evn (k + 1) from nmL_succ s m evn k, show nmL s m odd1 k ++ [nm s m (2 * k + 1)] = nmL s m odd1 (k + 1) from nmL_succ s m odd1 k, show 2 * k + 1 + 1 = 2 * (k + 1) by omega] at hM
  rw [show (nmL s m evn k).sum + nm s m (2 * k) = (nmL s m evn (k + 1)).sum from (nmL_sumS s m evn k).symm] at hA
  replace hM := hM.front (k := 4) rfl
  replace hM := hM.front (k := 1) rfl
  replace hM := hM.front (k := 4) rfl
  replace hM := hM.front (k := 4) rfl
  replace hM := hM.front (k := 4) rfl
  exact hNext ((k + 1, a8, c9, a13, c14)) _ _ ((by show n.toNat - (k + 1) < n.toNat - k; omega)) ⟨hA.sub ((.cons rfl (.cons rfl (.cons rfl (.cons rfl (.cons rfl (.cons rfl .nil))))))), hM, (by omega)⟩
 ·
  obtain rfl : k = n.toNat := by omega
  have hsm := nmL_sum s m evn hm n.toNat
  refine Ends.exit rfl ?_
  replace hA : St 37 [(4, _), (5, _), (6, _)] a := hA.sub ((.cons rfl (.cons rfl (.cons rfl .nil))))
  refine Ends.seq (Ends.region ?_)
  refine S.val hA (R.move rfl) rfl ?_; clear hA a; intro a hA
  refine S.val hA (R.quoI rfl rfl (r := (nmL s m evn n.toNat).sum / 2) rfl (by omega)) rfl ?_; clear hA a; intro a hA
  refine S.val hA (R.min rfl rfl) rfl ?_; clear hA a; intro a hA
  refine S.val hA (R.fieldAddr (q := 2) fi25_2 rfl rfl rfl) rfl ?_; clear hA a; intro a hA
  refine S.store (k := 0) hA hM sz3 rfl rfl rfl rfl rfl ?_; clear hM
  intro w13 hM
  replace hM : Mem _ _ [pt b3 #[.int .i64 1, .int .i64 n, .int .i64 (min ((nmL s m evn n.toNat).sum / 2) 2147483647), .slice aw ((nmL s m evn n.toNat).length) cw, .slice av ((nmL s m odd1 n.toNat).length) cv, .slice none 0 0] 25, own 3 1 (.slice aw (((nmL s m evn n.toNat)).length) cw) (((nmL s m evn n.toNat)).length) (((nmL s m evn n.toNat)).map (Value.int .i64)), own 3 1 (.slice av (((nmL s m odd1 n.toNat)).length) cv) (((nmL s m odd1 n.toNat)).length) (((nmL s m odd1 n.toNat)).map (Value.int .i64)), pt d #[.int .u64 (sd s (2 * n.toNat)), .int .i64 m] 80, pt b1 cz0 25] _ := hM
  refine S.done ?_
  replace hA : St 37 [(4, _), (5, _)] a := hA.sub ((.cons rfl (.cons rfl .nil)))
  refine Ends.seq (Ends.region ?_)
  refine S.val hA (R.loadA sz25 rfl (hM.range (k := 0) rfl) rfl) rfl ?_; clear hA a; intro a hA
  refine S.storeA (k := 4) hA hM sz25 rfl rfl rfl rfl rfl rfl ?_; clear hM
  intro w14 hM
  replace hM : Mem _ _ [pt b3 #[.int .i64 1, .int .i64 n, .int .i64 (min ((nmL s m evn n.toNat).sum / 2) 2147483647), .slice aw ((nmL s m evn n.toNat).length) cw, .slice av ((nmL s m odd1 n.toNat).length) cv, .slice none 0 0] 25, own 3 1 (.slice aw (((nmL s m evn n.toNat)).length) cw) (((nmL s m evn n.toNat)).length) (((nmL s m evn n.toNat)).map (Value.int .i64)), own 3 1 (.slice av (((nmL s m odd1 n.toNat)).length) cv) (((nmL s m odd1 n.toNat)).length) (((nmL s m odd1 n.toNat)).map (Value.int .i64)), pt d #[.int .u64 (sd s (2 * n.toNat)), .int .i64 m] 80, pt b1 #[.int .i64 1, .int .i64 n, .int .i64 (min ((nmL s m evn n.toNat).sum / 2) 2147483647), .slice aw ((nmL s m evn n.toNat).length) cw, .slice av ((nmL s m odd1 n.toNat).length) cv, .slice none 0 0] 25] _ := hM
  refine S.done ?_
  replace hA : St 37 [(4, _)] a := hA.sub ((.cons rfl .nil))
  refine Ends.retC (k := 4) Tryd.func53 Tryd.results53 hA hM rfl rfl sz25 rfl ?_
  replace hM := hM.front (k := 3) rfl
  replace hM := hM.front (k := 3) rfl
  replace hM := hM.front (k := 3) rfl
  replace hM : Mem _ _ [own 3 1 (.slice aw (((nmL s m evn n.toNat)).length) cw) (((nmL s m evn n.toNat)).length) (((nmL s m evn n.toNat)).map (Value.int .i64)), own 3 1 (.slice av (((nmL s m odd1 n.toNat)).length) cv) (((nmL s m odd1 n.toNat)).length) (((nmL s m odd1 n.toNat)).map (Value.int .i64)), pt d #[.int .u64 (sd s (2 * n.toNat)), .int .i64 m] 80, pt b3 #[.int .i64 1, .int .i64 n, .int .i64 (min ((nmL s m evn n.toNat).sum / 2) 2147483647), .slice aw ((nmL s m evn n.toNat).length) cw, .slice av ((nmL s m odd1 n.toNat).length) cv, .slice none 0 0] 25, pt b1 #[.int .i64 1, .int .i64 n, .int .i64 (min ((nmL s m evn n.toNat).sum / 2) 2147483647), .slice aw ((nmL s m evn n.toNat).length) cw, .slice av ((nmL s m odd1 n.toNat).length) cv, .slice none 0 0] 25] _ := hM
  replace hM := hM.firstN 3
  replace hM : Mem _ _ [own 3 1 (.slice aw (((nmL s m evn n.toNat)).length) cw) (((nmL s m evn n.toNat)).length) (((nmL s m evn n.toNat)).map (Value.int .i64)), own 3 1 (.slice av (((nmL s m odd1 n.toNat)).length) cv) (((nmL s m odd1 n.toNat)).length) (((nmL s m odd1 n.toNat)).map (Value.int .i64)), pt d #[.int .u64 (sd s (2 * n.toNat)), .int .i64 m] 80] _ := hM
  replace hM := ((hM.bundleNil (e := 3)).ownNil 22 1)
  have hM1 := ((hM.front (k := 3) rfl).front (k := 3) rfl)
  refine ⟨aw, cw, av, cv, rfl, Mem.pack (cs := insL 3 22 (gK n m s) aw cw av cv none 0 []) hM1⟩
set_option maxRecDepth 100000 in
set_option maxHeartbeats 400000 in
theorem growsA (d : Nat) (n s m : Int) (hm : 0 ≤ m ∧ m ≤ 2147483647) (kd : Int) (hk : kd = 2 ∨ kd = 3) (hn : 1 ≤ n ∧ n ≤ 24) (w : World) (hM : Mem w (feet [pt d #[.int .u64 (sd s (0)), .int .i64 m] 80]) [pt d #[.int .u64 (sd s (0)), .int .i64 m] 80] w) :
  Calls Tryd.prog 54 #[.pointer (some ⟨d, 0, none⟩), .int .i64 kd, .int .i64 n] w fun e w' => ∃ ao co rs, e = .returned (insA (gR kd n m s) none 0 none 0 ao co rs) ∧ rs.map (·.Y) = rowsF kd s m n.toNat n.toNat ∧ Mem w (feet [pt d #[.int .u64 (sd s (0)), .int .i64 m] 80]) [bundle (insL 3 22 (gR kd n m s) none 0 none 0 ao co rs), pt d #[.int .u64 (sd s (rt kd n.toNat * n.toNat)), .int .i64 m] 80] w' := by
 refine Calls.of_ends (vs := [.pointer (some ⟨d, 0, none⟩), .int .i64 kd, .int .i64 n]) Tryd.func54 rfl Tryd.ntmps54 rfl ?_
 intro a hA
 replace hA : St 46 [(0, _), (1, _), (2, _)] a := hA
 refine Ends.seq (Ends.region ?_)
 refine S.alloc hA hM info25 rfl rfl ?_; clear hA hM a; intro b1 w1 hb2 hM a hA
 replace hM : Mem _ _ [pt b1 cz0 25, pt d #[.int .u64 (sd s (0)), .int .i64 m] 80] _ := hM
 refine S.done ?_
 replace hA : St 46 [(0, _), (1, _), (2, _), (6, _)] a := hA.sub ((.cons rfl (.cons rfl (.cons rfl (.cons rfl .nil)))))
 refine Ends.seq (Ends.region ?_)
 refine S.val hA (R.move rfl) rfl ?_; clear hA a; intro a hA
 refine S.val hA (R.move rfl) rfl ?_; clear hA a; intro a hA
 refine S.val hA (R.build (cells := #[.int .i64 kd, .int .i64 n, .int .i64 0, .slice none 0 0, .slice none 0 0, .slice none 0 0]) rfl (by kernel_rfl)) rfl ?_; clear hA a; intro a hA
 refine S.alloc hA hM info25 rfl rfl ?_; clear hA hM a; intro b3 w2 hb4 hM a hA
 replace hM : Mem _ _ [pt b3 cz0 25, pt b1 cz0 25, pt d #[.int .u64 (sd s (0)), .int .i64 m] 80] _ := hM
 refine S.storeA (k := 0) hA hM sz25 rfl rfl rfl rfl rfl rfl ?_; clear hM
 intro w3 hM
 replace hM : Mem _ _ [pt b3 #[.int .i64 kd, .int .i64 n, .int .i64 0, .slice none 0 0, .slice none 0 0, .slice none 0 0] 25, pt b1 cz0 25, pt d #[.int .u64 (sd s (0)), .int .i64 m] 80] _ := hM
 refine S.done ?_
 replace hA : St 46 [(0, _), (1, _), (2, _), (6, _), (7, _)] a := hA.sub ((.cons rfl (.cons rfl (.cons rfl (.cons rfl (.cons rfl .nil))))))
 refine Ends.seq (Ends.seq (Ends.region ?_))
 refine S.val hA (R.move rfl) rfl ?_; clear hA a; intro a hA
 refine S.val hA (R.move rfl) rfl ?_; clear hA a; intro a hA
 refine S.done ?_
 replace hA : St 46 [(0, _), (1, _), (2, _), (6, _), (7, _), (14, _), (15, _)] a := hA.sub ((.cons rfl (.cons rfl (.cons rfl (.cons rfl (.cons rfl (.cons rfl (.cons rfl .nil))))))))
 refine Ends.block ?_
 replace hM := (hM.bundleNil (e := 3)).ownNil 22 1
 replace hM := hM.front (k := 3) rfl
 replace hM := hM.front (k := 4) rfl
 replace hM := hM.front (k := 3) rfl
 replace hM := hM.front (k := 3) rfl
 replace hM := hM.front (k := 4) rfl
 replace hM : Mem _ _ [pt b3 #[.int .i64 kd, .int .i64 n, .int .i64 0, .slice none 0 0, .slice none 0 0, .slice none (([] : List OwR).length) 0] 25, own 22 1 (.slice none (([] : List OwR).length) 0) (([] : List OwR).length) ((([] : List OwR).map orV)), bundle (([] : List OwR).map (orC 3)), pt d #[.int .u64 (sd s (rt kd n.toNat * 0)), .int .i64 m] 80, pt b1 cz0 25] _ := hM
 refine Ends.loop (σ := Nat × Option Addr × Nat × List OwR) (fun (ar, ao, co, rs) (a : Act) (wv : World) => St 46 [(0, .pointer (some ⟨d, 0, none⟩)), (1, .int .i64 kd), (2, .int .i64 n), (6, .pointer (some ⟨b1, 0, none⟩)), (7, .pointer (some ⟨b3, 0, none⟩)), (14, .int .i64 n), (15, .int .i64 ((ar : Int)))] a ∧ Mem w (feet [pt d #[.int .u64 (sd s (0)), .int .i64 m] 80]) [pt b3 #[.int .i64 kd, .int .i64 n, .int .i64 0, .slice none 0 0, .slice none 0 0, .slice ao rs.length co] 25, own 22 1 (.slice ao rs.length co) rs.length ((rs.map orV)), bundle (rs.map (orC 3)), pt d #[.int .u64 (sd s (rt kd n.toNat * ar)), .int .i64 m] 80, pt b1 cz0 25] wv ∧ (ar ≤ n.toNat) ∧ (rs.map (·.Y) = rowsF kd s m n.toNat ar)) (fun (ar, ao, co, rs) => n.toNat - ar) ((0, none, 0, [])) ⟨hA.sub ((.cons rfl (.cons rfl (.cons rfl (.cons rfl (.cons rfl (.cons rfl (.cons rfl .nil)))))))), hM, (Nat.zero_le _), rfl⟩ ?_
 clear hA hM a
 rintro ⟨ar, ao, co, rs⟩ a w4 ⟨hA, hM, ha, hY⟩ hNext
 refine Ends.seq (Ends.region ?_)
 refine S.val hA (R.lss rfl rfl) rfl ?_; clear hA a; intro a hA
 refine S.done ?_
 replace hA : St 46 [(0, _), (1, _), (2, _), (6, _), (7, _), (14, _), (15, _), (16, _)] a := hA.sub ((.cons rfl (.cons rfl (.cons rfl (.cons rfl (.cons rfl (.cons rfl (.cons rfl (.cons rfl .nil)))))))))
 refine Ends.seq ?_
 refine Ends.ite hA rfl (fun hc5 => ?_) (fun hc5 => ?_)
 ·
  refine Ends.skip (Ends.seq (Ends.block (Ends.seq (Ends.region ?_))))
  refine S.val hA (R.move rfl) rfl ?_; clear hA a; intro a hA
  refine S.val hA (R.assign rfl) rfl ?_; clear hA a; intro a hA
  refine S.done ?_
  replace hA : St 46 [(0, _), (1, _), (2, _), (6, _), (7, _), (8, _), (14, _), (15, _)] a := hA.sub ((.cons rfl (.cons rfl (.cons rfl (.cons rfl (.cons rfl (.cons rfl (.cons rfl (.cons rfl .nil)))))))))
  refine Ends.seq (Ends.region ?_)
  refine S.val hA (R.move rfl) rfl ?_; clear hA a; intro a hA
  refine S.make hA hM Tryd.underlying22 info3 rfl rfl rfl (by omega) (by show (8 : Int) * _ ≤ _; omega) (by omega) rfl ?_; clear hA hM a; intro b6 w5 hb7 hM a hA
  replace hM : Mem _ _ [pt b6 (madeCells #[.int .i64 0] (n.toNat * 1)) 3, pt b3 #[.int .i64 kd, .int .i64 n, .int .i64 0, .slice none 0 0, .slice none 0 0, .slice ao rs.length co] 25, own 22 1 (.slice ao rs.length co) rs.length ((rs.map orV)), bundle (rs.map (orC 3)), pt d #[.int .u64 (sd s (rt kd n.toNat * ar)), .int .i64 m] 80, pt b1 cz0 25] _ := hM
  rw [Nat.mul_one, made_ints] at hM
  replace hM : Mem _ _ [pt b6 ((ints (List.replicate n.toNat 0))) 3, pt b3 #[.int .i64 kd, .int .i64 n, .int .i64 0, .slice none 0 0, .slice none 0 0, .slice ao rs.length co] 25, own 22 1 (.slice ao rs.length co) rs.length ((rs.map orV)), bundle (rs.map (orC 3)), pt d #[.int .u64 (sd s (rt kd n.toNat * ar)), .int .i64 m] 80, pt b1 cz0 25] _ := hM
  refine S.val hA (R.assign rfl) rfl ?_; clear hA a; intro a hA
  refine S.done ?_
  replace hA : St 46 [(0, _), (1, _), (2, _), (6, _), (7, _), (8, _), (9, _), (14, _), (15, _)] a := hA.sub ((.cons rfl (.cons rfl (.cons rfl (.cons rfl (.cons rfl (.cons rfl (.cons rfl (.cons rfl (.cons rfl .nil))))))))))
  refine Ends.seq (Ends.seq (Ends.region ?_))
  refine S.val hA (R.move rfl) rfl ?_; clear hA a; intro a hA
  refine S.val hA (R.lenS Tryd.underlying22 rfl rfl) rfl ?_; clear hA a; intro a hA
  refine S.val hA (R.move rfl) rfl ?_; clear hA a; intro a hA
  refine S.done ?_
  replace hA : St 46 [(0, _), (1, _), (2, _), (6, _), (7, _), (8, _), (9, _), (14, _), (15, _), (21, _), (22, _)] a := hA.sub ((.cons rfl (.cons rfl (.cons rfl (.cons rfl (.cons rfl (.cons rfl (.cons rfl (.cons rfl (.cons rfl (.cons rfl (.cons rfl .nil))))))))))))
  refine Ends.block ?_
  have hln : rs.length = ar := by have := congrArg List.length hY; simpa [rowsF] using this
  replace hM := hM.front (k := 5) rfl
  replace hM := hM.front (k := 4) rfl
  replace hM := hM.front (k := 4) rfl
  replace hM := hM.front (k := 4) rfl
  replace hM := hM.front (k := 5) rfl
  replace hM := hM.front (k := 5) rfl
  rw [show rt kd n.toNat * ar = rt kd n.toNat * ar + cb kd ar 0 by rw [cb_zero]; rfl] at hM
  replace hM : Mem _ _ [pt b6 ((ints (rowF kd s m n.toNat ar 0 ++ List.replicate (n.toNat - 0) 0))) 3, pt d #[.int .u64 (sd s (rt kd n.toNat * ar + cb kd ar 0)), .int .i64 m] 80, pt b3 #[.int .i64 kd, .int .i64 n, .int .i64 0, .slice none 0 0, .slice none 0 0, .slice ao rs.length co] 25, own 22 1 (.slice ao rs.length co) rs.length ((rs.map orV)), bundle (rs.map (orC 3)), pt b1 cz0 25] _ := hM
  refine Ends.loop (σ := Nat) (fun q (a : Act) (wv : World) => St 46 [(0, .pointer (some ⟨d, 0, none⟩)), (1, .int .i64 kd), (2, .int .i64 n), (6, .pointer (some ⟨b1, 0, none⟩)), (7, .pointer (some ⟨b3, 0, none⟩)), (8, .int .i64 ((ar : Int))), (9, .slice (some ⟨b6, 0, none⟩) n.toNat n.toNat), (14, .int .i64 n), (15, .int .i64 ((ar : Int))), (21, .int .i64 ((n.toNat : Int))), (22, .int .i64 ((q : Int)))] a ∧ Mem w (feet [pt d #[.int .u64 (sd s (0)), .int .i64 m] 80]) [pt b6 ((ints (rowF kd s m n.toNat ar q ++ List.replicate (n.toNat - q) 0))) 3, pt d #[.int .u64 (sd s (rt kd n.toNat * ar + cb kd ar q)), .int .i64 m] 80, pt b3 #[.int .i64 kd, .int .i64 n, .int .i64 0, .slice none 0 0, .slice none 0 0, .slice ao rs.length co] 25, own 22 1 (.slice ao rs.length co) rs.length ((rs.map orV)), bundle (rs.map (orC 3)), pt b1 cz0 25] wv ∧ (q ≤ n.toNat)) (fun q => n.toNat - q) 0 ⟨hA.sub ((.cons rfl (.cons rfl (.cons rfl (.cons rfl (.cons rfl (.cons rfl (.cons rfl (.cons rfl (.cons rfl (.cons rfl (.cons rfl .nil)))))))))))), hM, (Nat.zero_le _)⟩ ?_
  clear hA hM a
  rintro q a w6 ⟨hA, hM, hq⟩ hNext1
  refine Ends.seq (Ends.region ?_)
  refine S.val hA (R.lss rfl rfl) rfl ?_; clear hA a; intro a hA
  refine S.done ?_
  replace hA : St 46 [(0, _), (1, _), (2, _), (6, _), (7, _), (8, _), (9, _), (14, _), (15, _), (21, _), (22, _), (23, _)] a := hA.sub ((.cons rfl (.cons rfl (.cons rfl (.cons rfl (.cons rfl (.cons rfl (.cons rfl (.cons rfl (.cons rfl (.cons rfl (.cons rfl (.cons rfl .nil)))))))))))))
  refine Ends.seq ?_
  refine Ends.ite hA rfl (fun hc8 => ?_) (fun hc8 => ?_)
  ·
   refine Ends.skip (Ends.seq (Ends.block (Ends.seq (Ends.region ?_))))
   refine S.val hA (R.move rfl) rfl ?_; clear hA a; intro a hA
   refine S.val hA (R.assign rfl) rfl ?_; clear hA a; intro a hA
   refine S.done ?_
   replace hA : St 46 [(0, _), (1, _), (2, _), (6, _), (7, _), (8, _), (9, _), (10, _), (14, _), (15, _), (21, _), (22, _)] a := hA.sub ((.cons rfl (.cons rfl (.cons rfl (.cons rfl (.cons rfl (.cons rfl (.cons rfl (.cons rfl (.cons rfl (.cons rfl (.cons rfl (.cons rfl .nil)))))))))))))
   refine Ends.seq ?_
   refine Ends.cut (fun (a : Act) (wv : World) => St 46 [(0, .pointer (some ⟨d, 0, none⟩)), (1, .int .i64 kd), (2, .int .i64 n), (6, .pointer (some ⟨b1, 0, none⟩)), (7, .pointer (some ⟨b3, 0, none⟩)), (8, .int .i64 ((ar : Int))), (9, .slice (some ⟨b6, 0, none⟩) n.toNat n.toNat), (10, .int .i64 ((q : Int))), (14, .int .i64 n), (15, .int .i64 ((ar : Int))), (21, .int .i64 ((n.toNat : Int))), (22, .int .i64 ((q : Int))), (31, .bool (decide ((kd ≠ 3 ∨ ((ar : Int)) ≠ ((q : Int))))))] a ∧ Mem w (feet [pt d #[.int .u64 (sd s (0)), .int .i64 m] 80]) [pt b6 ((ints (rowF kd s m n.toNat ar q ++ List.replicate (n.toNat - q) 0))) 3, pt d #[.int .u64 (sd s (rt kd n.toNat * ar + cb kd ar q)), .int .i64 m] 80, pt b3 #[.int .i64 kd, .int .i64 n, .int .i64 0, .slice none 0 0, .slice none 0 0, .slice ao rs.length co] 25, own 22 1 (.slice ao rs.length co) rs.length ((rs.map orV)), bundle (rs.map (orC 3)), pt b1 cz0 25] wv) ?_ (fun k2 hJ => ?_)
   ·
    clear hA hM a; rintro a w7 ⟨hA, hM⟩
    refine Ends.ite hA rfl (fun hc9 => ?_) (fun hc9 => ?_)
    ·
     have hlen : (rowF kd s m n.toNat ar q ++ List.replicate (n.toNat - q) 0).length = n.toNat := by rw [List.length_append, rowF_len, List.length_replicate]; omega
     refine Ends.region ?_
     refine S.val hA (R.move rfl) rfl ?_; clear hA a; intro a hA
     refine S.val hA (R.move rfl) rfl ?_; clear hA a; intro a hA
     refine S.val hA (R.move rfl) rfl ?_; clear hA a; intro a hA
     replace hM := hM.front (k := 1) rfl
     replace hM : Mem _ _ [pt d #[.int .u64 (sd s (rt kd n.toNat * ar + cb kd ar q)), .int .i64 m] 80, pt b6 ((ints (rowF kd s m n.toNat ar q ++ List.replicate (n.toNat - q) 0))) 3, pt b3 #[.int .i64 kd, .int .i64 n, .int .i64 0, .slice none 0 0, .slice none 0 0, .slice ao rs.length co] 25, own 22 1 (.slice ao rs.length co) rs.length ((rs.map orV)), bundle (rs.map (orC 3)), pt b1 cz0 25] _ := hM
     refine S.call hA (R.callF Tryd.func73 rfl rfl rfl) rfl (gnext d (sd s (rt kd n.toNat * ar + cb kd ar q)) m hm _ (hM.hereN 1)) ?_; clear hA a
     rintro e w8 ⟨rfl, hn⟩
     replace hM : Mem _ _ [pt d #[.int .u64 (sd s (rt kd n.toNat * ar + cb kd ar q + 1)), .int .i64 m] 80, pt b6 ((ints (rowF kd s m n.toNat ar q ++ List.replicate (n.toNat - q) 0))) 3, pt b3 #[.int .i64 kd, .int .i64 n, .int .i64 0, .slice none 0 0, .slice none 0 0, .slice ao rs.length co] 25, own 22 1 (.slice ao rs.length co) rs.length ((rs.map orV)), bundle (rs.map (orC 3)), pt b1 cz0 25] _ := hM.callL 1 hn; clear hn
     refine ⟨.int .i64 (nm s m (rt kd n.toNat * ar + cb kd ar q)), rfl, fun a hA => ?_⟩
     refine S.val hA (R.indexAddr (q := q) sl22 rfl rfl (by omega) (by omega)) rfl ?_; clear hA a; intro a hA
     refine S.store (k := 1) hA hM sz3 rfl rfl rfl rfl (ints_getD ((rowF kd s m n.toNat ar q ++ List.replicate (n.toNat - q) 0)) _ (by omega)) ?_; clear hM
     intro w9 hM
     rw [ints_set] at hM
     replace hM : Mem _ _ [pt d #[.int .u64 (sd s (rt kd n.toNat * ar + cb kd ar q + 1)), .int .i64 m] 80, pt b6 ((ints (((rowF kd s m n.toNat ar q ++ List.replicate (n.toNat - q) 0)).set q (nm s m (rt kd n.toNat * ar + cb kd ar q))))) 3, pt b3 #[.int .i64 kd, .int .i64 n, .int .i64 0, .slice none 0 0, .slice none 0 0, .slice ao rs.length co] 25, own 22 1 (.slice ao rs.length co) rs.length ((rs.map orV)), bundle (rs.map (orC 3)), pt b1 cz0 25] _ := hM
     refine S.done ?_
     replace hA : St 46 [(0, _), (1, _), (2, _), (6, _), (7, _), (8, _), (9, _), (14, _), (15, _), (21, _), (22, _)] a := hA.sub ((.cons rfl (.cons rfl (.cons rfl (.cons rfl (.cons rfl (.cons rfl (.cons rfl (.cons rfl (.cons rfl (.cons rfl (.cons rfl .nil))))))))))))
     refine Ends.inBlock (Ends.region ?_)
     refine S.val hA (R.addI rfl rfl (r := ((q : Int)) + 1) rfl (by omega)) rfl ?_; clear hA a; intro a hA
     refine S.val hA (R.move rfl) rfl ?_; clear hA a; intro a hA
     refine S.done ?_
     replace hA : St 46 [(0, _), (1, _), (2, _), (6, _), (7, _), (8, _), (9, _), (14, _), (15, _), (21, _), (22, _)] a := hA.sub ((.cons rfl (.cons rfl (.cons rfl (.cons rfl (.cons rfl (.cons rfl (.cons rfl (.cons rfl (.cons rfl (.cons rfl (.cons rfl .nil))))))))))))
     have hns : ¬ (kd = 3 ∧ ar = q) := by have h9 := hc9; omega
     rw [show nm s m (rt kd n.toNat * ar + cb kd ar q) = ent kd s m n.toNat ar q from (ent_step hns).symm, grow_set kd s m n.toNat ar q n.toNat (by omega), show rt kd n.toNat * ar + cb kd ar q + 1 = rt kd n.toNat * ar + cb kd ar (q + 1) by rw [cb_step hns]; omega] at hM
     replace hM := hM.front (k := 5) rfl
     replace hM := hM.front (k := 5) rfl
     replace hM := hM.front (k := 5) rfl
     replace hM := hM.front (k := 5) rfl
     replace hM := hM.front (k := 4) rfl
     replace hM := hM.front (k := 5) rfl
     exact hNext1 ((q + 1)) _ _ ((by show n.toNat - (q + 1) < n.toNat - q; omega)) ⟨hA.sub ((.cons rfl (.cons rfl (.cons rfl (.cons rfl (.cons rfl (.cons rfl (.cons rfl (.cons rfl (.cons rfl (.cons rfl (.cons rfl .nil)))))))))))), hM, (by omega)⟩
    ·
     have hlen : (rowF kd s m n.toNat ar q ++ List.replicate (n.toNat - q) 0).length = n.toNat := by rw [List.length_append, rowF_len, List.length_replicate]; omega
     refine Ends.skip (Ends.inBlock (Ends.region ?_))
     refine S.val hA (R.addI rfl rfl (r := ((q : Int)) + 1) rfl (by omega)) rfl ?_; clear hA a; intro a hA
     refine S.val hA (R.move rfl) rfl ?_; clear hA a; intro a hA
     refine S.done ?_
     replace hA : St 46 [(0, _), (1, _), (2, _), (6, _), (7, _), (8, _), (9, _), (14, _), (15, _), (21, _), (22, _)] a := hA.sub ((.cons rfl (.cons rfl (.cons rfl (.cons rfl (.cons rfl (.cons rfl (.cons rfl (.cons rfl (.cons rfl (.cons rfl (.cons rfl .nil))))))))))))
     have hns : kd = 3 ∧ ar = q := by have h9 := hc9; omega
     rw [grow_skip kd s m n.toNat ar q n.toNat (by omega) (ent_skip hns), ← cb_skip hns] at hM
     replace hM := hM.front (k := 5) rfl
     replace hM := hM.front (k := 5) rfl
     replace hM := hM.front (k := 5) rfl
     replace hM := hM.front (k := 5) rfl
     replace hM := hM.front (k := 5) rfl
     replace hM := hM.front (k := 5) rfl
     exact hNext1 ((q + 1)) _ _ ((by show n.toNat - (q + 1) < n.toNat - q; omega)) ⟨hA.sub ((.cons rfl (.cons rfl (.cons rfl (.cons rfl (.cons rfl (.cons rfl (.cons rfl (.cons rfl (.cons rfl (.cons rfl (.cons rfl .nil)))))))))))), hM, (by omega)⟩
   ·
    refine Ends.region ?_
    refine S.val hA (R.move rfl) rfl ?_; clear hA a; intro a hA
    refine S.val hA (R.neq rfl rfl) rfl ?_; clear hA a; intro a hA
    refine S.val hA (R.move rfl) rfl ?_; clear hA a; intro a hA
    refine hA.split (d := 27) rfl ?_ ?_
    ·
     clear hA; intro hg10 hA
     refine S.no (dj := 27) hA (by kernel_rfl) rfl rfl rfl ?_; clear hA a; intro a hA
     refine S.no (dj := 27) hA (by kernel_rfl) rfl rfl rfl ?_; clear hA a; intro a hA
     refine S.no (dj := 27) hA (by kernel_rfl) rfl rfl rfl ?_; clear hA a; intro a hA
     refine S.val hA (R.pickT rfl rfl) rfl ?_; clear hA a; intro a hA
     refine S.done ?_
     replace hA : St 46 [(0, _), (1, _), (2, _), (6, _), (7, _), (8, _), (9, _), (10, _), (14, _), (15, _), (21, _), (22, _), (31, _)] a := hA.sub ((.cons rfl (.cons rfl (.cons rfl (.cons rfl (.cons rfl (.cons rfl (.cons rfl (.cons rfl (.cons rfl (.cons rfl (.cons rfl (.cons rfl (.cons rfl .nil))))))))))))))
     exact hJ _ _ ⟨hA.sub (.cons rfl (.cons rfl (.cons rfl (.cons rfl (.cons rfl (.cons rfl (.cons rfl (.cons rfl (.cons rfl (.cons rfl (.cons rfl (.cons rfl (.cons (by first | rfl | exact congrArg (fun b => some (Value.bool b)) (by first | (simp; done) | (simp [hg10]; done) | (have h80 := hg10; (try simp at h80); simp [h80]; done) | exact (decide_eq_false (fun h9 => hg10 h9.1)).symm)) .nil))))))))))))), hM⟩
    ·
     clear hA; intro hg10 hA
     refine S.valg (dj := 27) hA (by kernel_rfl) rfl (R.move rfl) rfl ?_; clear hA a; intro a hA
     refine S.valg (dj := 27) hA (by kernel_rfl) rfl (R.move rfl) rfl ?_; clear hA a; intro a hA
     refine S.valg (dj := 27) hA (by kernel_rfl) rfl (R.neq rfl rfl) rfl ?_; clear hA a; intro a hA
     refine S.val hA (R.pickF rfl rfl) rfl ?_; clear hA a; intro a hA
     refine S.done ?_
     replace hA : St 46 [(0, _), (1, _), (2, _), (6, _), (7, _), (8, _), (9, _), (10, _), (14, _), (15, _), (21, _), (22, _), (31, _)] a := hA.sub ((.cons rfl (.cons rfl (.cons rfl (.cons rfl (.cons rfl (.cons rfl (.cons rfl (.cons rfl (.cons rfl (.cons rfl (.cons rfl (.cons rfl (.cons rfl .nil))))))))))))))
     exact hJ _ _ ⟨hA.sub (.cons rfl (.cons rfl (.cons rfl (.cons rfl (.cons rfl (.cons rfl (.cons rfl (.cons rfl (.cons rfl (.cons rfl (.cons rfl (.cons rfl (.cons (by first | rfl | exact congrArg (fun b => some (Value.bool b)) (by first | (simp; done) | (simp [hg10]; done) | (have h80 := hg10; (try simp at h80); simp [h80]; done) | exact (decide_eq_false (fun h9 => hg10 h9.1)).symm)) .nil))))))))))))), hM⟩
  ·
   have hqn : q = n.toNat := by omega
   rw [hqn, Nat.sub_self, List.replicate_zero, List.append_nil, cb_end (show ar < n.toNat by omega)] at hM
   replace hM := hM.rowOwn (n := n.toNat) (rowF_len _ _ _ _ _ _) (by omega)
   replace hM : Mem _ _ [orC 3 ⟨rowF kd s m n.toNat ar n.toNat, some ⟨b6, 0, none⟩, n.toNat⟩, pt d #[.int .u64 (sd s (rt kd n.toNat * ar + rt kd n.toNat)), .int .i64 m] 80, pt b3 #[.int .i64 kd, .int .i64 n, .int .i64 0, .slice none 0 0, .slice none 0 0, .slice ao rs.length co] 25, own 22 1 (.slice ao rs.length co) rs.length ((rs.map orV)), bundle (rs.map (orC 3)), pt b1 cz0 25] _ := hM
   refine Ends.exit rfl ?_
   replace hA : St 46 [(0, _), (1, _), (2, _), (6, _), (7, _), (9, _), (14, _), (15, _)] a := hA.sub ((.cons rfl (.cons rfl (.cons rfl (.cons rfl (.cons rfl (.cons rfl (.cons rfl (.cons rfl .nil)))))))))
   refine Ends.region ?_
   refine S.val hA (R.fieldAddr (q := 5) fi25_5 rfl rfl rfl) rfl ?_; clear hA a; intro a hA
   refine S.val hA (R.load sz23 rfl (hM.cell (k := 2) rfl rfl)) rfl ?_; clear hA a; intro a hA
   refine S.val hA (R.move rfl) rfl ?_; clear hA a; intro a hA
   refine S.buildSl (cells := #[.slice (some ⟨b6, 0, none⟩) n.toNat n.toNat]) hA hM Tryd.underlying23 info22 rfl rfl rfl rfl (by kernel_rfl) rfl ?_; clear hA hM a; intro b11 w10 hb12 hM a hA
   replace hM : Mem _ _ [pt b11 #[.slice (some ⟨b6, 0, none⟩) n.toNat n.toNat] 22, orC 3 ⟨rowF kd s m n.toNat ar n.toNat, some ⟨b6, 0, none⟩, n.toNat⟩, pt d #[.int .u64 (sd s (rt kd n.toNat * ar + rt kd n.toNat)), .int .i64 m] 80, pt b3 #[.int .i64 kd, .int .i64 n, .int .i64 0, .slice none 0 0, .slice none 0 0, .slice ao rs.length co] 25, own 22 1 (.slice ao rs.length co) rs.length ((rs.map orV)), bundle (rs.map (orC 3)), pt b1 cz0 25] _ := hM
   refine S.append (k := 4) (k2 := 0) hA hM rfl rfl Tryd.underlying23 info22 rfl rfl rfl rfl rfl rfl rfl rfl rfl (by first | omega | (show (_ + 1) * 24 ≤ 140737488355328; omega) | (unfold maxLen; omega)) (by first | omega | (show (_ + 1) * 24 ≤ 140737488355328; omega) | (unfold maxLen; omega)) rfl ?_; clear hA hM a; intro a13 c14 w11 hM a hA
   replace hM : Mem _ _ [pt b11 #[.slice (some ⟨b6, 0, none⟩) n.toNat n.toNat] 22, orC 3 ⟨rowF kd s m n.toNat ar n.toNat, some ⟨b6, 0, none⟩, n.toNat⟩, pt d #[.int .u64 (sd s (rt kd n.toNat * ar + rt kd n.toNat)), .int .i64 m] 80, pt b3 #[.int .i64 kd, .int .i64 n, .int .i64 0, .slice none 0 0, .slice none 0 0, .slice ao rs.length co] 25, own 22 1 (.slice a13 (rs.length + 1) c14) (rs.length + 1) (((rs.map orV) ++ [.slice (some ⟨b6, 0, none⟩) n.toNat n.toNat])), bundle (rs.map (orC 3)), pt b1 cz0 25] _ := hM
   replace hM := hM.drop 0
   replace hM : Mem _ _ [orC 3 ⟨rowF kd s m n.toNat ar n.toNat, some ⟨b6, 0, none⟩, n.toNat⟩, pt d #[.int .u64 (sd s (rt kd n.toNat * ar + rt kd n.toNat)), .int .i64 m] 80, pt b3 #[.int .i64 kd, .int .i64 n, .int .i64 0, .slice none 0 0, .slice none 0 0, .slice ao rs.length co] 25, own 22 1 (.slice a13 (rs.length + 1) c14) (rs.length + 1) (((rs.map orV) ++ [.slice (some ⟨b6, 0, none⟩) n.toNat n.toNat])), bundle (rs.map (orC 3)), pt b1 cz0 25] _ := hM
   refine S.val hA (R.fieldAddr (q := 5) fi25_5 rfl rfl rfl) rfl ?_; clear hA a; intro a hA
   refine S.store (k := 2) hA hM sz23 rfl rfl rfl rfl rfl ?_; clear hM
   intro w12 hM
   replace hM : Mem _ _ [orC 3 ⟨rowF kd s m n.toNat ar n.toNat, some ⟨b6, 0, none⟩, n.toNat⟩, pt d #[.int .u64 (sd s (rt kd n.toNat * ar + rt kd n.toNat)), .int .i64 m] 80, pt b3 #[.int .i64 kd, .int .i64 n, .int .i64 0, .slice none 0 0, .slice none 0 0, .slice a13 (rs.length + 1) c14] 25, own 22 1 (.slice a13 (rs.length + 1) c14) (rs.length + 1) (((rs.map orV) ++ [.slice (some ⟨b6, 0, none⟩) n.toNat n.toNat])), bundle (rs.map (orC 3)), pt b1 cz0 25] _ := hM
   refine S.done ?_
   replace hA : St 46 [(0, _), (1, _), (2, _), (6, _), (7, _), (14, _), (15, _)] a := hA.sub ((.cons rfl (.cons rfl (.cons rfl (.cons rfl (.cons rfl (.cons rfl (.cons rfl .nil))))))))
   refine Ends.inBlock (Ends.region ?_)
   refine S.val hA (R.addI rfl rfl (r := ((ar : Int)) + 1) rfl (by omega)) rfl ?_; clear hA a; intro a hA
   refine S.val hA (R.move rfl) rfl ?_; clear hA a; intro a hA
   refine S.done ?_
   replace hA : St 46 [(0, _), (1, _), (2, _), (6, _), (7, _), (14, _), (15, _)] a := hA.sub ((.cons rfl (.cons rfl (.cons rfl (.cons rfl (.cons rfl (.cons rfl (.cons rfl .nil))))))))
   rw [show (Value.slice (some ⟨b6, 0, none⟩) n.toNat n.toNat) = orV ⟨rowF kd s m n.toNat ar n.toNat, some ⟨b6, 0, none⟩, n.toNat⟩ by simp [orV, rowF_len], orV_snoc, len_snoc rs ⟨rowF kd s m n.toNat ar n.toNat, some ⟨b6, 0, none⟩, n.toNat⟩] at hM
   replace hM := hM.front (k := 4) rfl
   replace hM := hM.front (k := 1) rfl
   replace hM := hM.bundleSnoc
   replace hM := hM.front (k := 4) rfl
   replace hM := hM.front (k := 2) rfl
   replace hM := hM.front (k := 2) rfl
   replace hM := hM.front (k := 4) rfl
   replace hM := hM.front (k := 4) rfl
   rw [show rt kd n.toNat * ar + rt kd n.toNat = rt kd n.toNat * (ar + 1) from rfl] at hM
   exact hNext ((ar + 1, a13, c14, rs ++ [⟨rowF kd s m n.toNat ar n.toNat, some ⟨b6, 0, none⟩, n.toNat⟩])) _ _ ((by show n.toNat - (ar + 1) < n.toNat - ar; omega)) ⟨hA.sub ((.cons rfl (.cons rfl (.cons rfl (.cons rfl (.cons rfl (.cons rfl (.cons rfl .nil)))))))), hM, (by omega), (Y_snoc hY)⟩
 ·
  obtain rfl : ar = n.toNat := by omega
  refine Ends.exit rfl ?_
  replace hA : St 46 [(6, _), (7, _)] a := hA.sub ((.cons rfl (.cons rfl .nil)))
  refine Ends.seq (Ends.region ?_)
  refine S.val hA (R.loadA sz25 rfl (hM.range (k := 0) rfl) rfl) rfl ?_; clear hA a; intro a hA
  refine S.storeA (k := 4) hA hM sz25 rfl rfl rfl rfl rfl rfl ?_; clear hM
  intro w13 hM
  replace hM : Mem _ _ [pt b3 #[.int .i64 kd, .int .i64 n, .int .i64 0, .slice none 0 0, .slice none 0 0, .slice ao rs.length co] 25, own 22 1 (.slice ao rs.length co) rs.length ((rs.map orV)), bundle (rs.map (orC 3)), pt d #[.int .u64 (sd s (rt kd n.toNat * n.toNat)), .int .i64 m] 80, pt b1 #[.int .i64 kd, .int .i64 n, .int .i64 0, .slice none 0 0, .slice none 0 0, .slice ao rs.length co] 25] _ := hM
  refine S.done ?_
  replace hA : St 46 [(6, _)] a := hA.sub ((.cons rfl .nil))
  refine Ends.retC (k := 4) Tryd.func54 Tryd.results54 hA hM rfl rfl sz25 rfl ?_
  replace hM := hM.front (k := 3) rfl
  replace hM := hM.front (k := 3) rfl
  replace hM := hM.front (k := 3) rfl
  replace hM : Mem _ _ [own 22 1 (.slice ao rs.length co) rs.length ((rs.map orV)), bundle (rs.map (orC 3)), pt d #[.int .u64 (sd s (rt kd n.toNat * n.toNat)), .int .i64 m] 80, pt b3 #[.int .i64 kd, .int .i64 n, .int .i64 0, .slice none 0 0, .slice none 0 0, .slice ao rs.length co] 25, pt b1 #[.int .i64 kd, .int .i64 n, .int .i64 0, .slice none 0 0, .slice none 0 0, .slice ao rs.length co] 25] _ := hM
  replace hM := hM.firstN 3
  replace hM : Mem _ _ [own 22 1 (.slice ao rs.length co) rs.length ((rs.map orV)), bundle (rs.map (orC 3)), pt d #[.int .u64 (sd s (rt kd n.toNat * n.toNat)), .int .i64 m] 80] _ := hM
  replace hM := ((hM.ownNil 3 1).ownNil 3 1)
  refine ⟨ao, co, rs, rfl, hY, Mem.pack (cs := insL 3 22 (gR kd n m s) none 0 none 0 ao co rs) hM⟩
end Go.Proofs.YtakfcekfmdjklaaDoor
namespace Go.Proofs.YtakfcekfmdjklaaDoor
open Go.RowKit
theorem gmk_kind {kd n m s : Int} {G : Ins} {er : Int} (hG : gmk kd n m s = (G, er)) (h : ¬ (1 ≤ kd ∧ kd ≤ 3)) : G = i0 ∧ er = 14 := by
  unfold gmk at hG; rw [if_pos h] at hG; cases hG; exact ⟨rfl, rfl⟩
theorem gmk_arg {kd n m s : Int} {G : Ins} {er : Int} (hG : gmk kd n m s = (G, er)) (h : 1 ≤ kd ∧ kd ≤ 3) (h2 : n < 1 ∨ m < 0 ∨ 2147483647 < m) : G = i0 ∧ er = 1 := by
  unfold gmk at hG; rw [if_neg (by omega), if_pos h2] at hG; cases hG; exact ⟨rfl, rfl⟩
theorem gmk_big {kd n m s : Int} {G : Ins} {er : Int} (hG : gmk kd n m s = (G, er)) (h : 1 ≤ kd ∧ kd ≤ 3) (h2 : ¬ (n < 1 ∨ m < 0 ∨ 2147483647 < m)) (h3 : n > 64 ∨ (1 < kd ∧ n > 24)) : G = i0 ∧ er = 5 := by
  unfold gmk at hG; rw [if_neg (by omega), if_neg h2, if_pos h3] at hG; cases hG; exact ⟨rfl, rfl⟩
theorem gmk_sack {n m s : Int} {G : Ins} {er : Int} (hG : gmk 1 n m s = (G, er)) (h2 : ¬ (n < 1 ∨ m < 0 ∨ 2147483647 < m)) (h3 : ¬ (n > 64)) : G = gK n m s ∧ er = 0 := by
  unfold gmk at hG; rw [if_neg (by omega), if_neg h2, if_neg (by omega), if_pos rfl] at hG; cases hG; exact ⟨rfl, rfl⟩
theorem gmk_rows {kd n m s : Int} {G : Ins} {er : Int} (hG : gmk kd n m s = (G, er)) (h : kd = 2 ∨ kd = 3) (h2 : ¬ (n < 1 ∨ m < 0 ∨ 2147483647 < m)) (h3 : ¬ (n > 24)) : G = gR kd n m s ∧ er = 0 := by
  unfold gmk at hG; rw [if_neg (by omega), if_neg h2, if_neg (by omega), if_neg (by omega)] at hG; cases hG; exact ⟨rfl, rfl⟩
set_option maxRecDepth 100000 in
set_option maxHeartbeats 400000 in
theorem gMake (kd n m s : Int) (G : Ins) (er : Int) (hG : gmk kd n m s = (G, er)) (w : World) :
  Calls Tryd.prog 34 #[.int .i64 kd, .int .i64 n, .int .i64 m, .int .u64 s] w fun e w' => ∃ aw cw av cv ac cc, e = .returned (.tuple #[insG G aw cw av cv ac cc, .int .i64 er]) ∧ insR w' G aw cw av cv ac cc ∧ Below w.heap.size w w' := by
 have hbs := Below.refl (B := w.heap.size) w
 have hM := Mem.start w
 refine Calls.of_ends (vs := [.int .i64 kd, .int .i64 n, .int .i64 m, .int .u64 s]) Tryd.func34 rfl Tryd.ntmps34 rfl ?_
 intro a hA
 replace hA : St 49 [(0, _), (1, _), (2, _), (3, _)] a := hA
 refine Ends.seq (Ends.region ?_)
 refine S.alloc hA hM info25 rfl rfl ?_; clear hA hM a; intro b1 w1 hb2 hM a hA
 replace hM : Mem _ _ [pt b1 cz0 25] _ := hM
 refine S.val hA (R.assign rfl) rfl ?_; clear hA a; intro a hA
 refine S.done ?_
 replace hA : St 49 [(0, _), (1, _), (2, _), (3, _), (8, _)] a := hA.sub ((.cons rfl (.cons rfl (.cons rfl (.cons rfl (.cons rfl .nil))))))
 refine Ends.seq (Ends.region ?_)
 refine S.val hA (R.assign rfl) rfl ?_; clear hA a; intro a hA
 refine S.done ?_
 replace hA : St 49 [(0, _), (1, _), (2, _), (3, _), (8, _), (10, _)] a := hA.sub ((.cons rfl (.cons rfl (.cons rfl (.cons rfl (.cons rfl (.cons rfl .nil)))))))
 refine Ends.seq (Ends.seq (Ends.region ?_))
 refine S.val hA (R.move rfl) rfl ?_; clear hA a; intro a hA
 refine S.done ?_
 replace hA : St 49 [(0, _), (1, _), (2, _), (3, _), (8, _), (10, _), (12, _)] a := hA.sub ((.cons rfl (.cons rfl (.cons rfl (.cons rfl (.cons rfl (.cons rfl (.cons rfl .nil))))))))
 refine Ends.block (Ends.seq (Ends.region ?_))
 refine S.val hA (R.eql rfl rfl) rfl ?_; clear hA a; intro a hA
 refine S.val hA (R.assign rfl) rfl ?_; clear hA a; intro a hA
 refine S.done ?_
 replace hA : St 49 [(0, _), (1, _), (2, _), (3, _), (8, _), (10, _), (12, _), (14, _)] a := hA.sub ((.cons rfl (.cons rfl (.cons rfl (.cons rfl (.cons rfl (.cons rfl (.cons rfl (.cons rfl .nil)))))))))
 refine Ends.ite hA rfl (fun hc3 => ?_) (fun hc3 => ?_)
 ·
  rw [decide_eq_true hc3] at hA
  refine Ends.region ?_
  refine S.val hA (R.assign rfl) rfl ?_; clear hA a; intro a hA
  refine S.done ?_
  replace hA : St 49 [(0, _), (1, _), (2, _), (3, _), (8, _), (10, _)] a := hA.sub ((.cons rfl (.cons rfl (.cons rfl (.cons rfl (.cons rfl (.cons rfl .nil)))))))
  refine Ends.inBlock (Ends.seq (Ends.block (Ends.seq ?_)))
  refine Ends.cut (fun (a : Act) (wv : World) => St 49 [(0, .int .i64 kd), (1, .int .i64 n), (2, .int .i64 m), (3, .int .u64 s), (8, .pointer (some ⟨b1, 0, none⟩)), (10, .int .i64 64), (19, .bool (decide (((n < 1 ∨ m < 0) ∨ 2147483647 < m))))] a ∧ Mem w nof [pt b1 cz0 25] wv) ?_ (fun k2 hJ => ?_)
  ·
   clear hA hM a; rintro a w2 ⟨hA, hM⟩
   refine Ends.ite hA rfl (fun hc4 => ?_) (fun hc4 => ?_)
   ·
    rw [decide_eq_true hc4] at hA
    refine Ends.seq (Ends.region ?_)
    refine S.val hA (R.build (cells := cz0) rfl (by kernel_rfl)) rfl ?_; clear hA a; intro a hA
    refine S.storeA (k := 0) hA hM sz25 rfl rfl rfl rfl rfl rfl ?_; clear hM
    intro w3 hM
    replace hM : Mem _ _ [pt b1 cz0 25] _ := hM
    refine S.val hA (R.assign rfl) rfl ?_; clear hA a; intro a hA
    refine S.done ?_
    replace hA : St 49 [(0, _), (1, _), (2, _), (3, _), (8, _), (9, _)] a := hA.sub ((.cons rfl (.cons rfl (.cons rfl (.cons rfl (.cons rfl (.cons rfl .nil)))))))
    refine Ends.retC2 (k := 0) Tryd.func34 Tryd.results34 hA hM rfl rfl rfl sz25 rfl ?_
    obtain ⟨rfl, rfl⟩ := gmk_arg hG (by omega) (by omega)
    exact ⟨none, 0, none, 0, none, 0, rfl, ⟨IntSl.nil _, IntSl.nil _, RowsV.nil _⟩, Mem.trans0 hbs hM.nilL⟩
   ·
    rw [decide_eq_false hc4] at hA
    refine Ends.seq (Ends.region ?_)
    refine S.val hA (R.move rfl) rfl ?_; clear hA a; intro a hA
    refine S.val hA (R.move rfl) rfl ?_; clear hA a; intro a hA
    refine S.val hA (R.gtr rfl rfl) rfl ?_; clear hA a; intro a hA
    refine S.val hA (R.assign rfl) rfl ?_; clear hA a; intro a hA
    refine S.done ?_
    replace hA : St 49 [(0, _), (1, _), (2, _), (3, _), (8, _), (31, _)] a := hA.sub ((.cons rfl (.cons rfl (.cons rfl (.cons rfl (.cons rfl (.cons rfl .nil)))))))
    refine Ends.ite hA rfl (fun hc5 => ?_) (fun hc5 => ?_)
    ·
     rw [decide_eq_true hc5] at hA
     refine Ends.seq (Ends.region ?_)
     refine S.val hA (R.build (cells := cz0) rfl (by kernel_rfl)) rfl ?_; clear hA a; intro a hA
     refine S.storeA (k := 0) hA hM sz25 rfl rfl rfl rfl rfl rfl ?_; clear hM
     intro w4 hM
     replace hM : Mem _ _ [pt b1 cz0 25] _ := hM
     refine S.val hA (R.assign rfl) rfl ?_; clear hA a; intro a hA
     refine S.done ?_
     replace hA : St 49 [(0, _), (1, _), (2, _), (3, _), (8, _), (9, _)] a := hA.sub ((.cons rfl (.cons rfl (.cons rfl (.cons rfl (.cons rfl (.cons rfl .nil)))))))
     refine Ends.retC2 (k := 0) Tryd.func34 Tryd.results34 hA hM rfl rfl rfl sz25 rfl ?_
     obtain ⟨rfl, rfl⟩ := gmk_big hG (by omega) (by omega) (by omega)
     exact ⟨none, 0, none, 0, none, 0, rfl, ⟨IntSl.nil _, IntSl.nil _, RowsV.nil _⟩, Mem.trans0 hbs hM.nilL⟩
    ·
     rw [decide_eq_false hc5] at hA
     refine Ends.skip (Ends.inBlock (Ends.seq (Ends.region ?_)))
     refine S.val hA (R.move rfl) rfl ?_; clear hA a; intro a hA
     refine S.val hA (R.move rfl) rfl ?_; clear hA a; intro a hA
     refine S.val hA (R.build (cells := #[.int .u64 s, .int .i64 m]) rfl (by kernel_rfl)) rfl ?_; clear hA a; intro a hA
     refine S.box hA hM rfl rfl ?_; clear hA hM a; intro b6 w5 hb7 hM a hA
     replace hM : Mem _ _ [pt b6 #[.int .u64 s, .int .i64 m] 80, pt b1 cz0 25] _ := hM
     refine S.val hA (R.assign rfl) rfl ?_; clear hA a; intro a hA
     refine S.done ?_
     replace hA : St 49 [(0, _), (1, _), (8, _), (11, _)] a := hA.sub ((.cons rfl (.cons rfl (.cons rfl (.cons rfl .nil)))))
     refine Ends.seq (Ends.seq (Ends.region ?_))
     refine S.val hA (R.move rfl) rfl ?_; clear hA a; intro a hA
     refine S.val hA (R.eql rfl rfl) rfl ?_; clear hA a; intro a hA
     refine S.done ?_
     replace hA : St 49 [(0, _), (1, _), (8, _), (11, _), (41, _)] a := hA.sub ((.cons rfl (.cons rfl (.cons rfl (.cons rfl (.cons rfl .nil))))))
     refine Ends.ite hA rfl (fun hc8 => ?_) (fun hc8 => ?_)
     ·
      rw [decide_eq_true hc8] at hA
      refine Ends.seq (Ends.region ?_)
      refine S.val hA (R.move rfl) rfl ?_; clear hA a; intro a hA
      refine S.val hA (R.move rfl) rfl ?_; clear hA a; intro a hA
      refine S.call hA (R.callF Tryd.func53 rfl rfl rfl) rfl (gknap b6 n s m (by omega) (by omega) _ (hM.hereN 1)) ?_; clear hA a
      rintro e w6 ⟨aw, cw, av, cv, rfl, hn⟩
      replace hM : Mem _ _ [bundle (insL 3 22 (gK n m s) aw cw av cv none 0 []), pt b6 #[.int .u64 (sd s (2 * n.toNat)), .int .i64 m] 80, pt b1 cz0 25] _ := hM.callL 1 hn; clear hn
      refine ⟨.agg #[.int .i64 1, .int .i64 n, .int .i64 (min ((nmL s m evn n.toNat).sum / 2) 2147483647), .slice aw ((nmL s m evn n.toNat).length) cw, .slice av ((nmL s m odd1 n.toNat).length) cv, .slice none 0 0], rfl, fun a hA => ?_⟩
      refine S.storeA (k := 2) hA hM sz25 rfl rfl rfl rfl rfl rfl ?_; clear hM
      intro w7 hM
      replace hM : Mem _ _ [bundle (insL 3 22 (gK n m s) aw cw av cv none 0 []), pt b6 #[.int .u64 (sd s (2 * n.toNat)), .int .i64 m] 80, pt b1 #[.int .i64 1, .int .i64 n, .int .i64 (min ((nmL s m evn n.toNat).sum / 2) 2147483647), .slice aw ((nmL s m evn n.toNat).length) cw, .slice av ((nmL s m odd1 n.toNat).length) cv, .slice none 0 0] 25] _ := hM
      refine S.val hA (R.assign rfl) rfl ?_; clear hA a; intro a hA
      refine S.done ?_
      replace hA : St 49 [(0, _), (1, _), (8, _), (9, _), (11, _)] a := hA.sub ((.cons rfl (.cons rfl (.cons rfl (.cons rfl (.cons rfl .nil))))))
      refine Ends.retC2 (k := 2) Tryd.func34 Tryd.results34 hA hM rfl rfl rfl sz25 rfl ?_
      have hkd : kd = 1 := by omega
      subst hkd
      obtain ⟨rfl, rfl⟩ := gmk_sack hG (by omega) (by omega)
      obtain ⟨he, hr⟩ := insR_of hM (k := 0) rfl rfl
      exact ⟨_, _, _, _, _, _, congrArg (fun x => Ending.returned (.tuple #[x, .int .i64 0])) he, hr, Mem.trans0 hbs hM.nilL⟩
     ·
      rw [decide_eq_false hc8] at hA
      refine Ends.skip (Ends.seq (Ends.region ?_))
      refine S.val hA (R.move rfl) rfl ?_; clear hA a; intro a hA
      refine S.val hA (R.move rfl) rfl ?_; clear hA a; intro a hA
      refine S.val hA (R.move rfl) rfl ?_; clear hA a; intro a hA
      refine S.call hA (R.callF Tryd.func54 rfl rfl rfl) rfl (growsA b6 n s m (by omega) kd (by omega) (by omega) _ (hM.hereN 1)) ?_; clear hA a
      rintro e w8 ⟨ac, cc, rs, rfl, hYY, hn⟩
      replace hM : Mem _ _ [bundle (insL 3 22 (gR kd n m s) none 0 none 0 ac cc rs), pt b6 #[.int .u64 (sd s (rt kd n.toNat * n.toNat)), .int .i64 m] 80, pt b1 cz0 25] _ := hM.callL 1 hn; clear hn
      refine ⟨.agg #[.int .i64 kd, .int .i64 n, .int .i64 0, .slice none 0 0, .slice none 0 0, .slice ac rs.length cc], rfl, fun a hA => ?_⟩
      refine S.storeA (k := 2) hA hM sz25 rfl rfl rfl rfl rfl rfl ?_; clear hM
      intro w9 hM
      replace hM : Mem _ _ [bundle (insL 3 22 (gR kd n m s) none 0 none 0 ac cc rs), pt b6 #[.int .u64 (sd s (rt kd n.toNat * n.toNat)), .int .i64 m] 80, pt b1 #[.int .i64 kd, .int .i64 n, .int .i64 0, .slice none 0 0, .slice none 0 0, .slice ac rs.length cc] 25] _ := hM
      refine S.val hA (R.assign rfl) rfl ?_; clear hA a; intro a hA
      refine S.done ?_
      replace hA : St 49 [(8, _), (9, _)] a := hA.sub ((.cons rfl (.cons rfl .nil)))
      refine Ends.retC2 (k := 2) Tryd.func34 Tryd.results34 hA hM rfl rfl rfl sz25 rfl ?_
      obtain ⟨rfl, rfl⟩ := gmk_rows hG (by omega) (by omega) (by omega)
      obtain ⟨he, hr⟩ := insR_of hM (k := 0) rfl hYY
      exact ⟨_, _, _, _, _, _, congrArg (fun x => Ending.returned (.tuple #[x, .int .i64 0])) he, hr, Mem.trans0 hbs hM.nilL⟩
  ·
   refine Ends.region ?_
   refine S.val hA (R.move rfl) rfl ?_; clear hA a; intro a hA
   refine S.val hA (R.lss rfl rfl) rfl ?_; clear hA a; intro a hA
   refine S.val hA (R.move rfl) rfl ?_; clear hA a; intro a hA
   refine hA.split (d := 22) rfl ?_ ?_
   ·
    clear hA; intro hg10 hA
    refine S.no (dj := 22) hA (by kernel_rfl) rfl rfl rfl ?_; clear hA a; intro a hA
    refine S.no (dj := 22) hA (by kernel_rfl) rfl rfl rfl ?_; clear hA a; intro a hA
    refine S.val hA (R.pickT rfl rfl) rfl ?_; clear hA a; intro a hA
    refine S.val hA (R.move rfl) rfl ?_; clear hA a; intro a hA
    refine S.no (dj := 26) hA (by kernel_rfl) rfl rfl rfl ?_; clear hA a; intro a hA
    refine S.no (dj := 26) hA (by kernel_rfl) rfl rfl rfl ?_; clear hA a; intro a hA
    refine S.val hA (R.pickT rfl rfl) rfl ?_; clear hA a; intro a hA
    refine S.val hA (R.assign rfl) rfl ?_; clear hA a; intro a hA
    refine S.done ?_
    replace hA : St 49 [(0, _), (1, _), (2, _), (3, _), (8, _), (10, _), (19, _)] a := hA.sub ((.cons rfl (.cons rfl (.cons rfl (.cons rfl (.cons rfl (.cons rfl (.cons rfl .nil))))))))
    exact hJ _ _ ⟨hA.sub (.cons rfl (.cons rfl (.cons rfl (.cons rfl (.cons rfl (.cons rfl (.cons (by first | rfl | exact congrArg (fun b => some (Value.bool b)) (by first | (simp; done) | (simp [hg10]; done) | (have h80 := hg10; (try simp at h80); simp [h80]; done) | exact (decide_eq_false (fun h9 => hg10 h9.1)).symm)) .nil))))))), hM⟩
   ·
    clear hA; intro hg10 hA
    refine S.valg (dj := 22) hA (by kernel_rfl) rfl (R.move rfl) rfl ?_; clear hA a; intro a hA
    refine S.valg (dj := 22) hA (by kernel_rfl) rfl (R.lss rfl rfl) rfl ?_; clear hA a; intro a hA
    refine S.val hA (R.pickF rfl rfl) rfl ?_; clear hA a; intro a hA
    refine S.val hA (R.move rfl) rfl ?_; clear hA a; intro a hA
    refine hA.split (d := 26) rfl ?_ ?_
    ·
     clear hA; intro hg11 hA
     refine S.no (dj := 26) hA (by kernel_rfl) rfl rfl rfl ?_; clear hA a; intro a hA
     refine S.no (dj := 26) hA (by kernel_rfl) rfl rfl rfl ?_; clear hA a; intro a hA
     refine S.val hA (R.pickT rfl rfl) rfl ?_; clear hA a; intro a hA
     refine S.val hA (R.assign rfl) rfl ?_; clear hA a; intro a hA
     refine S.done ?_
     replace hA : St 49 [(0, _), (1, _), (2, _), (3, _), (8, _), (10, _), (19, _)] a := hA.sub ((.cons rfl (.cons rfl (.cons rfl (.cons rfl (.cons rfl (.cons rfl (.cons rfl .nil))))))))
     exact hJ _ _ ⟨hA.sub (.cons rfl (.cons rfl (.cons rfl (.cons rfl (.cons rfl (.cons rfl (.cons (by first | rfl | exact congrArg (fun b => some (Value.bool b)) (by first | (simp; done) | (simp [hg10, hg11]; done) | (have h80 := hg10; (try simp at h80); have h81 := hg11; (try simp at h81); simp [h80, h81]; done) | exact (decide_eq_false (fun h9 => hg10 h9.1)).symm | exact (decide_eq_false (fun h9 => hg11 h9.1)).symm)) .nil))))))), hM⟩
    ·
     clear hA; intro hg11 hA
     refine S.valg (dj := 26) hA (by kernel_rfl) rfl (R.move rfl) rfl ?_; clear hA a; intro a hA
     refine S.valg (dj := 26) hA (by kernel_rfl) rfl (R.gtr rfl rfl) rfl ?_; clear hA a; intro a hA
     refine S.val hA (R.pickF rfl rfl) rfl ?_; clear hA a; intro a hA
     refine S.val hA (R.assign rfl) rfl ?_; clear hA a; intro a hA
     refine S.done ?_
     replace hA : St 49 [(0, _), (1, _), (2, _), (3, _), (8, _), (10, _), (19, _)] a := hA.sub ((.cons rfl (.cons rfl (.cons rfl (.cons rfl (.cons rfl (.cons rfl (.cons rfl .nil))))))))
     exact hJ _ _ ⟨hA.sub (.cons rfl (.cons rfl (.cons rfl (.cons rfl (.cons rfl (.cons rfl (.cons (by first | rfl | exact congrArg (fun b => some (Value.bool b)) (by first | (simp; done) | (simp [hg10, hg11]; done) | (have h80 := hg10; (try simp at h80); have h81 := hg11; (try simp at h81); simp [h80, h81]; done) | exact (decide_eq_false (fun h9 => hg10 h9.1)).symm | exact (decide_eq_false (fun h9 => hg11 h9.1)).symm)) .nil))))))), hM⟩
 ·
  rw [decide_eq_false hc3] at hA
  refine Ends.seq (Ends.seq (Ends.region ?_))
  refine S.val hA (R.eql rfl rfl) rfl ?_; clear hA a; intro a hA
  refine S.val hA (R.assign rfl) rfl ?_; clear hA a; intro a hA
  refine S.done ?_
  replace hA : St 49 [(0, _), (1, _), (2, _), (3, _), (8, _), (10, _), (12, _), (16, _)] a := hA.sub ((.cons rfl (.cons rfl (.cons rfl (.cons rfl (.cons rfl (.cons rfl (.cons rfl (.cons rfl .nil)))))))))
  refine Ends.ite hA rfl (fun hc12 => ?_) (fun hc12 => ?_)
  ·
   rw [decide_eq_true hc12] at hA
   refine Ends.skip ?_
   refine Ends.condT hA rfl ?_
   refine Ends.skip (Ends.inBlock (Ends.seq (Ends.block (Ends.seq ?_))))
   refine Ends.cut (fun (a : Act) (wv : World) => St 49 [(0, .int .i64 kd), (1, .int .i64 n), (2, .int .i64 m), (3, .int .u64 s), (8, .pointer (some ⟨b1, 0, none⟩)), (10, .int .i64 24), (19, .bool (decide (((n < 1 ∨ m < 0) ∨ 2147483647 < m))))] a ∧ Mem w nof [pt b1 cz0 25] wv) ?_ (fun k2 hJ => ?_)
   ·
    clear hA hM a; rintro a w10 ⟨hA, hM⟩
    refine Ends.ite hA rfl (fun hc13 => ?_) (fun hc13 => ?_)
    ·
     rw [decide_eq_true hc13] at hA
     refine Ends.seq (Ends.region ?_)
     refine S.val hA (R.build (cells := cz0) rfl (by kernel_rfl)) rfl ?_; clear hA a; intro a hA
     refine S.storeA (k := 0) hA hM sz25 rfl rfl rfl rfl rfl rfl ?_; clear hM
     intro w11 hM
     replace hM : Mem _ _ [pt b1 cz0 25] _ := hM
     refine S.val hA (R.assign rfl) rfl ?_; clear hA a; intro a hA
     refine S.done ?_
     replace hA : St 49 [(0, _), (1, _), (2, _), (3, _), (8, _), (9, _)] a := hA.sub ((.cons rfl (.cons rfl (.cons rfl (.cons rfl (.cons rfl (.cons rfl .nil)))))))
     refine Ends.retC2 (k := 0) Tryd.func34 Tryd.results34 hA hM rfl rfl rfl sz25 rfl ?_
     obtain ⟨rfl, rfl⟩ := gmk_arg hG (by omega) (by omega)
     exact ⟨none, 0, none, 0, none, 0, rfl, ⟨IntSl.nil _, IntSl.nil _, RowsV.nil _⟩, Mem.trans0 hbs hM.nilL⟩
    ·
     rw [decide_eq_false hc13] at hA
     refine Ends.seq (Ends.region ?_)
     refine S.val hA (R.move rfl) rfl ?_; clear hA a; intro a hA
     refine S.val hA (R.move rfl) rfl ?_; clear hA a; intro a hA
     refine S.val hA (R.gtr rfl rfl) rfl ?_; clear hA a; intro a hA
     refine S.val hA (R.assign rfl) rfl ?_; clear hA a; intro a hA
     refine S.done ?_
     replace hA : St 49 [(0, _), (1, _), (2, _), (3, _), (8, _), (31, _)] a := hA.sub ((.cons rfl (.cons rfl (.cons rfl (.cons rfl (.cons rfl (.cons rfl .nil)))))))
     refine Ends.ite hA rfl (fun hc14 => ?_) (fun hc14 => ?_)
     ·
      rw [decide_eq_true hc14] at hA
      refine Ends.seq (Ends.region ?_)
      refine S.val hA (R.build (cells := cz0) rfl (by kernel_rfl)) rfl ?_; clear hA a; intro a hA
      refine S.storeA (k := 0) hA hM sz25 rfl rfl rfl rfl rfl rfl ?_; clear hM
      intro w12 hM
      replace hM : Mem _ _ [pt b1 cz0 25] _ := hM
      refine S.val hA (R.assign rfl) rfl ?_; clear hA a; intro a hA
      refine S.done ?_
      replace hA : St 49 [(0, _), (1, _), (2, _), (3, _), (8, _), (9, _)] a := hA.sub ((.cons rfl (.cons rfl (.cons rfl (.cons rfl (.cons rfl (.cons rfl .nil)))))))
      refine Ends.retC2 (k := 0) Tryd.func34 Tryd.results34 hA hM rfl rfl rfl sz25 rfl ?_
      obtain ⟨rfl, rfl⟩ := gmk_big hG (by omega) (by omega) (by omega)
      exact ⟨none, 0, none, 0, none, 0, rfl, ⟨IntSl.nil _, IntSl.nil _, RowsV.nil _⟩, Mem.trans0 hbs hM.nilL⟩
     ·
      rw [decide_eq_false hc14] at hA
      refine Ends.skip (Ends.inBlock (Ends.seq (Ends.region ?_)))
      refine S.val hA (R.move rfl) rfl ?_; clear hA a; intro a hA
      refine S.val hA (R.move rfl) rfl ?_; clear hA a; intro a hA
      refine S.val hA (R.build (cells := #[.int .u64 s, .int .i64 m]) rfl (by kernel_rfl)) rfl ?_; clear hA a; intro a hA
      refine S.box hA hM rfl rfl ?_; clear hA hM a; intro b15 w13 hb16 hM a hA
      replace hM : Mem _ _ [pt b15 #[.int .u64 s, .int .i64 m] 80, pt b1 cz0 25] _ := hM
      refine S.val hA (R.assign rfl) rfl ?_; clear hA a; intro a hA
      refine S.done ?_
      replace hA : St 49 [(0, _), (1, _), (8, _), (11, _)] a := hA.sub ((.cons rfl (.cons rfl (.cons rfl (.cons rfl .nil)))))
      refine Ends.seq (Ends.seq (Ends.region ?_))
      refine S.val hA (R.move rfl) rfl ?_; clear hA a; intro a hA
      refine S.val hA (R.eql rfl rfl) rfl ?_; clear hA a; intro a hA
      refine S.done ?_
      replace hA : St 49 [(0, _), (1, _), (8, _), (11, _), (41, _)] a := hA.sub ((.cons rfl (.cons rfl (.cons rfl (.cons rfl (.cons rfl .nil))))))
      refine Ends.ite hA rfl (fun hc17 => ?_) (fun hc17 => ?_)
      ·
       rw [decide_eq_true hc17] at hA
       refine Ends.seq (Ends.region ?_)
       refine S.val hA (R.move rfl) rfl ?_; clear hA a; intro a hA
       refine S.val hA (R.move rfl) rfl ?_; clear hA a; intro a hA
       refine S.call hA (R.callF Tryd.func53 rfl rfl rfl) rfl (gknap b15 n s m (by omega) (by omega) _ (hM.hereN 1)) ?_; clear hA a
       rintro e w14 ⟨aw, cw, av, cv, rfl, hn⟩
       replace hM : Mem _ _ [bundle (insL 3 22 (gK n m s) aw cw av cv none 0 []), pt b15 #[.int .u64 (sd s (2 * n.toNat)), .int .i64 m] 80, pt b1 cz0 25] _ := hM.callL 1 hn; clear hn
       refine ⟨.agg #[.int .i64 1, .int .i64 n, .int .i64 (min ((nmL s m evn n.toNat).sum / 2) 2147483647), .slice aw ((nmL s m evn n.toNat).length) cw, .slice av ((nmL s m odd1 n.toNat).length) cv, .slice none 0 0], rfl, fun a hA => ?_⟩
       refine S.storeA (k := 2) hA hM sz25 rfl rfl rfl rfl rfl rfl ?_; clear hM
       intro w15 hM
       replace hM : Mem _ _ [bundle (insL 3 22 (gK n m s) aw cw av cv none 0 []), pt b15 #[.int .u64 (sd s (2 * n.toNat)), .int .i64 m] 80, pt b1 #[.int .i64 1, .int .i64 n, .int .i64 (min ((nmL s m evn n.toNat).sum / 2) 2147483647), .slice aw ((nmL s m evn n.toNat).length) cw, .slice av ((nmL s m odd1 n.toNat).length) cv, .slice none 0 0] 25] _ := hM
       refine S.val hA (R.assign rfl) rfl ?_; clear hA a; intro a hA
       refine S.done ?_
       replace hA : St 49 [(0, _), (1, _), (8, _), (9, _), (11, _)] a := hA.sub ((.cons rfl (.cons rfl (.cons rfl (.cons rfl (.cons rfl .nil))))))
       refine Ends.retC2 (k := 2) Tryd.func34 Tryd.results34 hA hM rfl rfl rfl sz25 rfl ?_
       have hkd : kd = 1 := by omega
       subst hkd
       obtain ⟨rfl, rfl⟩ := gmk_sack hG (by omega) (by omega)
       obtain ⟨he, hr⟩ := insR_of hM (k := 0) rfl rfl
       exact ⟨_, _, _, _, _, _, congrArg (fun x => Ending.returned (.tuple #[x, .int .i64 0])) he, hr, Mem.trans0 hbs hM.nilL⟩
      ·
       rw [decide_eq_false hc17] at hA
       refine Ends.skip (Ends.seq (Ends.region ?_))
       refine S.val hA (R.move rfl) rfl ?_; clear hA a; intro a hA
       refine S.val hA (R.move rfl) rfl ?_; clear hA a; intro a hA
       refine S.val hA (R.move rfl) rfl ?_; clear hA a; intro a hA
       refine S.call hA (R.callF Tryd.func54 rfl rfl rfl) rfl (growsA b15 n s m (by omega) kd (by omega) (by omega) _ (hM.hereN 1)) ?_; clear hA a
       rintro e w16 ⟨ac, cc, rs, rfl, hYY, hn⟩
       replace hM : Mem _ _ [bundle (insL 3 22 (gR kd n m s) none 0 none 0 ac cc rs), pt b15 #[.int .u64 (sd s (rt kd n.toNat * n.toNat)), .int .i64 m] 80, pt b1 cz0 25] _ := hM.callL 1 hn; clear hn
       refine ⟨.agg #[.int .i64 kd, .int .i64 n, .int .i64 0, .slice none 0 0, .slice none 0 0, .slice ac rs.length cc], rfl, fun a hA => ?_⟩
       refine S.storeA (k := 2) hA hM sz25 rfl rfl rfl rfl rfl rfl ?_; clear hM
       intro w17 hM
       replace hM : Mem _ _ [bundle (insL 3 22 (gR kd n m s) none 0 none 0 ac cc rs), pt b15 #[.int .u64 (sd s (rt kd n.toNat * n.toNat)), .int .i64 m] 80, pt b1 #[.int .i64 kd, .int .i64 n, .int .i64 0, .slice none 0 0, .slice none 0 0, .slice ac rs.length cc] 25] _ := hM
       refine S.val hA (R.assign rfl) rfl ?_; clear hA a; intro a hA
       refine S.done ?_
       replace hA : St 49 [(8, _), (9, _)] a := hA.sub ((.cons rfl (.cons rfl .nil)))
       refine Ends.retC2 (k := 2) Tryd.func34 Tryd.results34 hA hM rfl rfl rfl sz25 rfl ?_
       obtain ⟨rfl, rfl⟩ := gmk_rows hG (by omega) (by omega) (by omega)
       obtain ⟨he, hr⟩ := insR_of hM (k := 0) rfl hYY
       exact ⟨_, _, _, _, _, _, congrArg (fun x => Ending.returned (.tuple #[x, .int .i64 0])) he, hr, Mem.trans0 hbs hM.nilL⟩
   ·
    refine Ends.region ?_
    refine S.val hA (R.move rfl) rfl ?_; clear hA a; intro a hA
    refine S.val hA (R.lss rfl rfl) rfl ?_; clear hA a; intro a hA
    refine S.val hA (R.move rfl) rfl ?_; clear hA a; intro a hA
    refine hA.split (d := 22) rfl ?_ ?_
    ·
     clear hA; intro hg19 hA
     refine S.no (dj := 22) hA (by kernel_rfl) rfl rfl rfl ?_; clear hA a; intro a hA
     refine S.no (dj := 22) hA (by kernel_rfl) rfl rfl rfl ?_; clear hA a; intro a hA
     refine S.val hA (R.pickT rfl rfl) rfl ?_; clear hA a; intro a hA
     refine S.val hA (R.move rfl) rfl ?_; clear hA a; intro a hA
     refine S.no (dj := 26) hA (by kernel_rfl) rfl rfl rfl ?_; clear hA a; intro a hA
     refine S.no (dj := 26) hA (by kernel_rfl) rfl rfl rfl ?_; clear hA a; intro a hA
     refine S.val hA (R.pickT rfl rfl) rfl ?_; clear hA a; intro a hA
     refine S.val hA (R.assign rfl) rfl ?_; clear hA a; intro a hA
     refine S.done ?_
     replace hA : St 49 [(0, _), (1, _), (2, _), (3, _), (8, _), (10, _), (19, _)] a := hA.sub ((.cons rfl (.cons rfl (.cons rfl (.cons rfl (.cons rfl (.cons rfl (.cons rfl .nil))))))))
     exact hJ _ _ ⟨hA.sub (.cons rfl (.cons rfl (.cons rfl (.cons rfl (.cons rfl (.cons rfl (.cons (by first | rfl | exact congrArg (fun b => some (Value.bool b)) (by first | (simp; done) | (simp [hg19]; done) | (have h80 := hg19; (try simp at h80); simp [h80]; done) | exact (decide_eq_false (fun h9 => hg19 h9.1)).symm)) .nil))))))), hM⟩
    ·
     clear hA; intro hg19 hA
     refine S.valg (dj := 22) hA (by kernel_rfl) rfl (R.move rfl) rfl ?_; clear hA a; intro a hA
     refine S.valg (dj := 22) hA (by kernel_rfl) rfl (R.lss rfl rfl) rfl ?_; clear hA a; intro a hA
     refine S.val hA (R.pickF rfl rfl) rfl ?_; clear hA a; intro a hA
     refine S.val hA (R.move rfl) rfl ?_; clear hA a; intro a hA
     refine hA.split (d := 26) rfl ?_ ?_
     ·
      clear hA; intro hg20 hA
      refine S.no (dj := 26) hA (by kernel_rfl) rfl rfl rfl ?_; clear hA a; intro a hA
      refine S.no (dj := 26) hA (by kernel_rfl) rfl rfl rfl ?_; clear hA a; intro a hA
      refine S.val hA (R.pickT rfl rfl) rfl ?_; clear hA a; intro a hA
      refine S.val hA (R.assign rfl) rfl ?_; clear hA a; intro a hA
      refine S.done ?_
      replace hA : St 49 [(0, _), (1, _), (2, _), (3, _), (8, _), (10, _), (19, _)] a := hA.sub ((.cons rfl (.cons rfl (.cons rfl (.cons rfl (.cons rfl (.cons rfl (.cons rfl .nil))))))))
      exact hJ _ _ ⟨hA.sub (.cons rfl (.cons rfl (.cons rfl (.cons rfl (.cons rfl (.cons rfl (.cons (by first | rfl | exact congrArg (fun b => some (Value.bool b)) (by first | (simp; done) | (simp [hg19, hg20]; done) | (have h80 := hg19; (try simp at h80); have h81 := hg20; (try simp at h81); simp [h80, h81]; done) | exact (decide_eq_false (fun h9 => hg19 h9.1)).symm | exact (decide_eq_false (fun h9 => hg20 h9.1)).symm)) .nil))))))), hM⟩
     ·
      clear hA; intro hg20 hA
      refine S.valg (dj := 26) hA (by kernel_rfl) rfl (R.move rfl) rfl ?_; clear hA a; intro a hA
      refine S.valg (dj := 26) hA (by kernel_rfl) rfl (R.gtr rfl rfl) rfl ?_; clear hA a; intro a hA
      refine S.val hA (R.pickF rfl rfl) rfl ?_; clear hA a; intro a hA
      refine S.val hA (R.assign rfl) rfl ?_; clear hA a; intro a hA
      refine S.done ?_
      replace hA : St 49 [(0, _), (1, _), (2, _), (3, _), (8, _), (10, _), (19, _)] a := hA.sub ((.cons rfl (.cons rfl (.cons rfl (.cons rfl (.cons rfl (.cons rfl (.cons rfl .nil))))))))
      exact hJ _ _ ⟨hA.sub (.cons rfl (.cons rfl (.cons rfl (.cons rfl (.cons rfl (.cons rfl (.cons (by first | rfl | exact congrArg (fun b => some (Value.bool b)) (by first | (simp; done) | (simp [hg19, hg20]; done) | (have h80 := hg19; (try simp at h80); have h81 := hg20; (try simp at h81); simp [h80, h81]; done) | exact (decide_eq_false (fun h9 => hg19 h9.1)).symm | exact (decide_eq_false (fun h9 => hg20 h9.1)).symm)) .nil))))))), hM⟩
  ·
   rw [decide_eq_false hc12] at hA
   refine Ends.region ?_
   refine S.val hA (R.eql rfl rfl) rfl ?_; clear hA a; intro a hA
   refine S.val hA (R.assign rfl) rfl ?_; clear hA a; intro a hA
   refine S.done ?_
   replace hA : St 49 [(0, _), (1, _), (2, _), (3, _), (8, _), (10, _), (16, _)] a := hA.sub ((.cons rfl (.cons rfl (.cons rfl (.cons rfl (.cons rfl (.cons rfl (.cons rfl .nil))))))))
   refine Ends.ite hA rfl (fun hc21 => ?_) (fun hc21 => ?_)
   ·
    rw [decide_eq_true hc21] at hA
    refine Ends.skip (Ends.inBlock (Ends.seq (Ends.block (Ends.seq ?_))))
    refine Ends.cut (fun (a : Act) (wv : World) => St 49 [(0, .int .i64 kd), (1, .int .i64 n), (2, .int .i64 m), (3, .int .u64 s), (8, .pointer (some ⟨b1, 0, none⟩)), (10, .int .i64 24), (19, .bool (decide (((n < 1 ∨ m < 0) ∨ 2147483647 < m))))] a ∧ Mem w nof [pt b1 cz0 25] wv) ?_ (fun k2 hJ => ?_)
    ·
     clear hA hM a; rintro a w18 ⟨hA, hM⟩
     refine Ends.ite hA rfl (fun hc22 => ?_) (fun hc22 => ?_)
     ·
      rw [decide_eq_true hc22] at hA
      refine Ends.seq (Ends.region ?_)
      refine S.val hA (R.build (cells := cz0) rfl (by kernel_rfl)) rfl ?_; clear hA a; intro a hA
      refine S.storeA (k := 0) hA hM sz25 rfl rfl rfl rfl rfl rfl ?_; clear hM
      intro w19 hM
      replace hM : Mem _ _ [pt b1 cz0 25] _ := hM
      refine S.val hA (R.assign rfl) rfl ?_; clear hA a; intro a hA
      refine S.done ?_
      replace hA : St 49 [(0, _), (1, _), (2, _), (3, _), (8, _), (9, _)] a := hA.sub ((.cons rfl (.cons rfl (.cons rfl (.cons rfl (.cons rfl (.cons rfl .nil)))))))
      refine Ends.retC2 (k := 0) Tryd.func34 Tryd.results34 hA hM rfl rfl rfl sz25 rfl ?_
      obtain ⟨rfl, rfl⟩ := gmk_arg hG (by omega) (by omega)
      exact ⟨none, 0, none, 0, none, 0, rfl, ⟨IntSl.nil _, IntSl.nil _, RowsV.nil _⟩, Mem.trans0 hbs hM.nilL⟩
     ·
      rw [decide_eq_false hc22] at hA
      refine Ends.seq (Ends.region ?_)
      refine S.val hA (R.move rfl) rfl ?_; clear hA a; intro a hA
      refine S.val hA (R.move rfl) rfl ?_; clear hA a; intro a hA
      refine S.val hA (R.gtr rfl rfl) rfl ?_; clear hA a; intro a hA
      refine S.val hA (R.assign rfl) rfl ?_; clear hA a; intro a hA
      refine S.done ?_
      replace hA : St 49 [(0, _), (1, _), (2, _), (3, _), (8, _), (31, _)] a := hA.sub ((.cons rfl (.cons rfl (.cons rfl (.cons rfl (.cons rfl (.cons rfl .nil)))))))
      refine Ends.ite hA rfl (fun hc23 => ?_) (fun hc23 => ?_)
      ·
       rw [decide_eq_true hc23] at hA
       refine Ends.seq (Ends.region ?_)
       refine S.val hA (R.build (cells := cz0) rfl (by kernel_rfl)) rfl ?_; clear hA a; intro a hA
       refine S.storeA (k := 0) hA hM sz25 rfl rfl rfl rfl rfl rfl ?_; clear hM
       intro w20 hM
       replace hM : Mem _ _ [pt b1 cz0 25] _ := hM
       refine S.val hA (R.assign rfl) rfl ?_; clear hA a; intro a hA
       refine S.done ?_
       replace hA : St 49 [(0, _), (1, _), (2, _), (3, _), (8, _), (9, _)] a := hA.sub ((.cons rfl (.cons rfl (.cons rfl (.cons rfl (.cons rfl (.cons rfl .nil)))))))
       refine Ends.retC2 (k := 0) Tryd.func34 Tryd.results34 hA hM rfl rfl rfl sz25 rfl ?_
       obtain ⟨rfl, rfl⟩ := gmk_big hG (by omega) (by omega) (by omega)
       exact ⟨none, 0, none, 0, none, 0, rfl, ⟨IntSl.nil _, IntSl.nil _, RowsV.nil _⟩, Mem.trans0 hbs hM.nilL⟩
      ·
       rw [decide_eq_false hc23] at hA
       refine Ends.skip (Ends.inBlock (Ends.seq (Ends.region ?_)))
       refine S.val hA (R.move rfl) rfl ?_; clear hA a; intro a hA
       refine S.val hA (R.move rfl) rfl ?_; clear hA a; intro a hA
       refine S.val hA (R.build (cells := #[.int .u64 s, .int .i64 m]) rfl (by kernel_rfl)) rfl ?_; clear hA a; intro a hA
       refine S.box hA hM rfl rfl ?_; clear hA hM a; intro b24 w21 hb25 hM a hA
       replace hM : Mem _ _ [pt b24 #[.int .u64 s, .int .i64 m] 80, pt b1 cz0 25] _ := hM
       refine S.val hA (R.assign rfl) rfl ?_; clear hA a; intro a hA
       refine S.done ?_
       replace hA : St 49 [(0, _), (1, _), (8, _), (11, _)] a := hA.sub ((.cons rfl (.cons rfl (.cons rfl (.cons rfl .nil)))))
       refine Ends.seq (Ends.seq (Ends.region ?_))
       refine S.val hA (R.move rfl) rfl ?_; clear hA a; intro a hA
       refine S.val hA (R.eql rfl rfl) rfl ?_; clear hA a; intro a hA
       refine S.done ?_
       replace hA : St 49 [(0, _), (1, _), (8, _), (11, _), (41, _)] a := hA.sub ((.cons rfl (.cons rfl (.cons rfl (.cons rfl (.cons rfl .nil))))))
       refine Ends.ite hA rfl (fun hc26 => ?_) (fun hc26 => ?_)
       ·
        rw [decide_eq_true hc26] at hA
        refine Ends.seq (Ends.region ?_)
        refine S.val hA (R.move rfl) rfl ?_; clear hA a; intro a hA
        refine S.val hA (R.move rfl) rfl ?_; clear hA a; intro a hA
        refine S.call hA (R.callF Tryd.func53 rfl rfl rfl) rfl (gknap b24 n s m (by omega) (by omega) _ (hM.hereN 1)) ?_; clear hA a
        rintro e w22 ⟨aw, cw, av, cv, rfl, hn⟩
        replace hM : Mem _ _ [bundle (insL 3 22 (gK n m s) aw cw av cv none 0 []), pt b24 #[.int .u64 (sd s (2 * n.toNat)), .int .i64 m] 80, pt b1 cz0 25] _ := hM.callL 1 hn; clear hn
        refine ⟨.agg #[.int .i64 1, .int .i64 n, .int .i64 (min ((nmL s m evn n.toNat).sum / 2) 2147483647), .slice aw ((nmL s m evn n.toNat).length) cw, .slice av ((nmL s m odd1 n.toNat).length) cv, .slice none 0 0], rfl, fun a hA => ?_⟩
        refine S.storeA (k := 2) hA hM sz25 rfl rfl rfl rfl rfl rfl ?_; clear hM
        intro w23 hM
        replace hM : Mem _ _ [bundle (insL 3 22 (gK n m s) aw cw av cv none 0 []), pt b24 #[.int .u64 (sd s (2 * n.toNat)), .int .i64 m] 80, pt b1 #[.int .i64 1, .int .i64 n, .int .i64 (min ((nmL s m evn n.toNat).sum / 2) 2147483647), .slice aw ((nmL s m evn n.toNat).length) cw, .slice av ((nmL s m odd1 n.toNat).length) cv, .slice none 0 0] 25] _ := hM
        refine S.val hA (R.assign rfl) rfl ?_; clear hA a; intro a hA
        refine S.done ?_
        replace hA : St 49 [(0, _), (1, _), (8, _), (9, _), (11, _)] a := hA.sub ((.cons rfl (.cons rfl (.cons rfl (.cons rfl (.cons rfl .nil))))))
        refine Ends.retC2 (k := 2) Tryd.func34 Tryd.results34 hA hM rfl rfl rfl sz25 rfl ?_
        have hkd : kd = 1 := by omega
        subst hkd
        obtain ⟨rfl, rfl⟩ := gmk_sack hG (by omega) (by omega)
        obtain ⟨he, hr⟩ := insR_of hM (k := 0) rfl rfl
        exact ⟨_, _, _, _, _, _, congrArg (fun x => Ending.returned (.tuple #[x, .int .i64 0])) he, hr, Mem.trans0 hbs hM.nilL⟩
       ·
        rw [decide_eq_false hc26] at hA
        refine Ends.skip (Ends.seq (Ends.region ?_))
        refine S.val hA (R.move rfl) rfl ?_; clear hA a; intro a hA
        refine S.val hA (R.move rfl) rfl ?_; clear hA a; intro a hA
        refine S.val hA (R.move rfl) rfl ?_; clear hA a; intro a hA
        refine S.call hA (R.callF Tryd.func54 rfl rfl rfl) rfl (growsA b24 n s m (by omega) kd (by omega) (by omega) _ (hM.hereN 1)) ?_; clear hA a
        rintro e w24 ⟨ac, cc, rs, rfl, hYY, hn⟩
        replace hM : Mem _ _ [bundle (insL 3 22 (gR kd n m s) none 0 none 0 ac cc rs), pt b24 #[.int .u64 (sd s (rt kd n.toNat * n.toNat)), .int .i64 m] 80, pt b1 cz0 25] _ := hM.callL 1 hn; clear hn
        refine ⟨.agg #[.int .i64 kd, .int .i64 n, .int .i64 0, .slice none 0 0, .slice none 0 0, .slice ac rs.length cc], rfl, fun a hA => ?_⟩
        refine S.storeA (k := 2) hA hM sz25 rfl rfl rfl rfl rfl rfl ?_; clear hM
        intro w25 hM
        replace hM : Mem _ _ [bundle (insL 3 22 (gR kd n m s) none 0 none 0 ac cc rs), pt b24 #[.int .u64 (sd s (rt kd n.toNat * n.toNat)), .int .i64 m] 80, pt b1 #[.int .i64 kd, .int .i64 n, .int .i64 0, .slice none 0 0, .slice none 0 0, .slice ac rs.length cc] 25] _ := hM
        refine S.val hA (R.assign rfl) rfl ?_; clear hA a; intro a hA
        refine S.done ?_
        replace hA : St 49 [(8, _), (9, _)] a := hA.sub ((.cons rfl (.cons rfl .nil)))
        refine Ends.retC2 (k := 2) Tryd.func34 Tryd.results34 hA hM rfl rfl rfl sz25 rfl ?_
        obtain ⟨rfl, rfl⟩ := gmk_rows hG (by omega) (by omega) (by omega)
        obtain ⟨he, hr⟩ := insR_of hM (k := 0) rfl hYY
        exact ⟨_, _, _, _, _, _, congrArg (fun x => Ending.returned (.tuple #[x, .int .i64 0])) he, hr, Mem.trans0 hbs hM.nilL⟩
    ·
     refine Ends.region ?_
     refine S.val hA (R.move rfl) rfl ?_; clear hA a; intro a hA
     refine S.val hA (R.lss rfl rfl) rfl ?_; clear hA a; intro a hA
     refine S.val hA (R.move rfl) rfl ?_; clear hA a; intro a hA
     refine hA.split (d := 22) rfl ?_ ?_
     ·
      clear hA; intro hg28 hA
      refine S.no (dj := 22) hA (by kernel_rfl) rfl rfl rfl ?_; clear hA a; intro a hA
      refine S.no (dj := 22) hA (by kernel_rfl) rfl rfl rfl ?_; clear hA a; intro a hA
      refine S.val hA (R.pickT rfl rfl) rfl ?_; clear hA a; intro a hA
      refine S.val hA (R.move rfl) rfl ?_; clear hA a; intro a hA
      refine S.no (dj := 26) hA (by kernel_rfl) rfl rfl rfl ?_; clear hA a; intro a hA
      refine S.no (dj := 26) hA (by kernel_rfl) rfl rfl rfl ?_; clear hA a; intro a hA
      refine S.val hA (R.pickT rfl rfl) rfl ?_; clear hA a; intro a hA
      refine S.val hA (R.assign rfl) rfl ?_; clear hA a; intro a hA
      refine S.done ?_
      replace hA : St 49 [(0, _), (1, _), (2, _), (3, _), (8, _), (10, _), (19, _)] a := hA.sub ((.cons rfl (.cons rfl (.cons rfl (.cons rfl (.cons rfl (.cons rfl (.cons rfl .nil))))))))
      exact hJ _ _ ⟨hA.sub (.cons rfl (.cons rfl (.cons rfl (.cons rfl (.cons rfl (.cons rfl (.cons (by first | rfl | exact congrArg (fun b => some (Value.bool b)) (by first | (simp; done) | (simp [hg28]; done) | (have h80 := hg28; (try simp at h80); simp [h80]; done) | exact (decide_eq_false (fun h9 => hg28 h9.1)).symm)) .nil))))))), hM⟩
     ·
      clear hA; intro hg28 hA
      refine S.valg (dj := 22) hA (by kernel_rfl) rfl (R.move rfl) rfl ?_; clear hA a; intro a hA
      refine S.valg (dj := 22) hA (by kernel_rfl) rfl (R.lss rfl rfl) rfl ?_; clear hA a; intro a hA
      refine S.val hA (R.pickF rfl rfl) rfl ?_; clear hA a; intro a hA
      refine S.val hA (R.move rfl) rfl ?_; clear hA a; intro a hA
      refine hA.split (d := 26) rfl ?_ ?_
      ·
       clear hA; intro hg29 hA
       refine S.no (dj := 26) hA (by kernel_rfl) rfl rfl rfl ?_; clear hA a; intro a hA
       refine S.no (dj := 26) hA (by kernel_rfl) rfl rfl rfl ?_; clear hA a; intro a hA
       refine S.val hA (R.pickT rfl rfl) rfl ?_; clear hA a; intro a hA
       refine S.val hA (R.assign rfl) rfl ?_; clear hA a; intro a hA
       refine S.done ?_
       replace hA : St 49 [(0, _), (1, _), (2, _), (3, _), (8, _), (10, _), (19, _)] a := hA.sub ((.cons rfl (.cons rfl (.cons rfl (.cons rfl (.cons rfl (.cons rfl (.cons rfl .nil))))))))
       exact hJ _ _ ⟨hA.sub (.cons rfl (.cons rfl (.cons rfl (.cons rfl (.cons rfl (.cons rfl (.cons (by first | rfl | exact congrArg (fun b => some (Value.bool b)) (by first | (simp; done) | (simp [hg28, hg29]; done) | (have h80 := hg28; (try simp at h80); have h81 := hg29; (try simp at h81); simp [h80, h81]; done) | exact (decide_eq_false (fun h9 => hg28 h9.1)).symm | exact (decide_eq_false (fun h9 => hg29 h9.1)).symm)) .nil))))))), hM⟩
      ·
       clear hA; intro hg29 hA
       refine S.valg (dj := 26) hA (by kernel_rfl) rfl (R.move rfl) rfl ?_; clear hA a; intro a hA
       refine S.valg (dj := 26) hA (by kernel_rfl) rfl (R.gtr rfl rfl) rfl ?_; clear hA a; intro a hA
       refine S.val hA (R.pickF rfl rfl) rfl ?_; clear hA a; intro a hA
       refine S.val hA (R.assign rfl) rfl ?_; clear hA a; intro a hA
       refine S.done ?_
       replace hA : St 49 [(0, _), (1, _), (2, _), (3, _), (8, _), (10, _), (19, _)] a := hA.sub ((.cons rfl (.cons rfl (.cons rfl (.cons rfl (.cons rfl (.cons rfl (.cons rfl .nil))))))))
       exact hJ _ _ ⟨hA.sub (.cons rfl (.cons rfl (.cons rfl (.cons rfl (.cons rfl (.cons rfl (.cons (by first | rfl | exact congrArg (fun b => some (Value.bool b)) (by first | (simp; done) | (simp [hg28, hg29]; done) | (have h80 := hg28; (try simp at h80); have h81 := hg29; (try simp at h81); simp [h80, h81]; done) | exact (decide_eq_false (fun h9 => hg28 h9.1)).symm | exact (decide_eq_false (fun h9 => hg29 h9.1)).symm)) .nil))))))), hM⟩
   ·
    rw [decide_eq_false hc21] at hA
    refine Ends.seq (Ends.region ?_)
    refine S.val hA (R.build (cells := cz0) rfl (by kernel_rfl)) rfl ?_; clear hA a; intro a hA
    refine S.storeA (k := 0) hA hM sz25 rfl rfl rfl rfl rfl rfl ?_; clear hM
    intro w26 hM
    replace hM : Mem _ _ [pt b1 cz0 25] _ := hM
    refine S.val hA (R.assign rfl) rfl ?_; clear hA a; intro a hA
    refine S.done ?_
    replace hA : St 49 [(0, _), (1, _), (2, _), (3, _), (8, _), (9, _), (10, _)] a := hA.sub ((.cons rfl (.cons rfl (.cons rfl (.cons rfl (.cons rfl (.cons rfl (.cons rfl .nil))))))))
    refine Ends.retC2 (k := 0) Tryd.func34 Tryd.results34 hA hM rfl rfl rfl sz25 rfl ?_
    obtain ⟨rfl, rfl⟩ := gmk_kind hG (by omega)
    exact ⟨none, 0, none, 0, none, 0, rfl, ⟨IntSl.nil _, IntSl.nil _, RowsV.nil _⟩, Mem.trans0 hbs hM.nilL⟩
end Go.Proofs.YtakfcekfmdjklaaDoor
namespace Go.Proofs.YtakfcekfmdjklaaDoor
open Go.RowKit
theorem form_gmk {kd n m s : Int} {G : Ins} (hk : 1 ≤ kd ∧ kd ≤ 3) (hn : 1 ≤ n ∧ n ≤ 24) (hm : 0 ≤ m ∧ m ≤ 2147483647) : ∃ G, gmk kd n m s = (G, 0) ∧ chk G = 0 := by
  obtain ⟨N, rfl⟩ : ∃ N : Nat, n = (N : Int) := ⟨n.toNat, by omega⟩
  unfold gmk
  rw [if_neg (by omega), if_neg (by omega), if_neg (by omega)]
  by_cases h1 : kd = 1
  · rw [if_pos h1]
    refine ⟨_, rfl, chk_of ⟨?_, .inl ⟨rfl, ?_, ?_, rfl⟩, ?_⟩⟩
    · unfold sizeE gK; rw [if_neg (by simp only; omega), if_neg (by simp only; omega), if_neg (by simp only; omega)]
    · show ((nmL s m evn ((N : Int)).toNat).length : Int) = N; rw [nmL_len, Int.toNat_natCast]
    · show ((nmL s m odd1 ((N : Int)).toNat).length : Int) = N; rw [nmL_len, Int.toNat_natCast]
    · unfold numsE
      rw [if_pos (show (gK (N : Int) m s).kind = 1 from rfl)]
      have hs := nmL_sum s m evn hm ((N : Int)).toNat
      have e0 : numE (min ((nmL s m evn ((N : Int)).toNat).sum / 2) 2147483647) = 0 := numE_ok ⟨by omega, by omega⟩
      show (if numE (min ((nmL s m evn ((N : Int)).toNat).sum / 2) 2147483647) ≠ 0 then numE (min ((nmL s m evn ((N : Int)).toNat).sum / 2) 2147483647) else pfx _ ((N : Int)).toNat) = 0
      rw [if_neg (not_not_intro e0)]
      refine pfx_all _ (fun k hk => ?_)
      unfold itF gK
      show (if numE ((nmL s m evn ((N : Int)).toNat).getD k 0) ≠ 0 then numE ((nmL s m evn ((N : Int)).toNat).getD k 0) else numE ((nmL s m odd1 ((N : Int)).toNat).getD k 0)) = 0
      rw [nmL_get s m evn hk, nmL_get s m odd1 hk]
      have r1 := nm_bd s m (evn k) hm.1
      have r2 := nm_bd s m (odd1 k) hm.1
      rw [numE_ok ⟨r1.1, by omega⟩, numE_ok ⟨r2.1, by omega⟩]; rfl
  · rw [if_neg h1]
    refine ⟨_, rfl, chk_of ?_⟩
    have e : gR kd (N : Int) m s = ⟨kd, N, 0, [], [], mat N (ent kd s m N)⟩ := by
      unfold gR; rw [Int.toNat_natCast]; rfl
    rw [e]
    refine form_mat (by omega) (by omega) (by omega) (fun r c _ _ => ?_) (fun h3 r _ => ent_skip ⟨h3, rfl⟩)
    unfold ent
    split
    · decide
    · have := nm_bd s m (rt kd N * r + cb kd r c) hm.1; omega
set_option maxRecDepth 100000 in
set_option maxHeartbeats 400000 in
theorem genFine_w (x0 x1 x2 : Int) (w : World) (htab : Lib.TabIs Tryd.prog w "internal/strconv.uint64pow10" .u64 Lib.pow10Tab) (hut : U8T w) :
  Calls Tryd.prog 14 #[.int .i64 x0, .int .i64 x1, .int .u64 x2] w fun e w' => e = .returned (.bool true) ∧ Below w.heap.size w w' := by
 have hbs := Below.refl (B := w.heap.size) w
 have hM := Mem.start w
 refine Calls.of_ends (vs := [.int .i64 x0, .int .i64 x1, .int .u64 x2]) Tryd.func14 rfl Tryd.ntmps14 rfl ?_
 intro a hA
 replace hA : St 78 [(0, _), (1, _), (2, _)] a := hA
 refine Ends.seq (Ends.region ?_)
 refine S.val hA (R.assign rfl) rfl ?_; clear hA a; intro a hA
 refine S.done ?_
 refine Ends.seq (Ends.region ?_)
 refine S.val hA (R.move rfl) rfl ?_; clear hA a; intro a hA
 refine S.val hA (R.conv Tryd.underlying38 Tryd.underlying3 rfl) rfl ?_; clear hA a; intro a hA
 refine S.val hA (R.remI rfl rfl rfl ⟨u64_nn _, by decide⟩) rfl ?_; clear hA a; intro a hA
 obtain ⟨n1, hn2, en3⟩ := umod_ex x0 3 (by decide)
 refine S.val hA (R.to (v := .int .i64 (n1 : Int)) (R.conv Tryd.underlying3 Tryd.underlying38 rfl) (congrArg (Value.int .i64) en3)) rfl ?_; clear hA a; intro a hA
 refine S.val hA (R.addI rfl rfl (r := 1 + ((n1 : Int))) rfl (by omega)) rfl ?_; clear hA a; intro a hA
 refine S.val hA (R.move rfl) rfl ?_; clear hA a; intro a hA
 refine S.val hA (R.conv Tryd.underlying38 Tryd.underlying3 rfl) rfl ?_; clear hA a; intro a hA
 refine S.val hA (R.remI rfl rfl rfl ⟨u64_nn _, by decide⟩) rfl ?_; clear hA a; intro a hA
 obtain ⟨n4, hn5, en6⟩ := umod_ex x1 24 (by decide)
 refine S.val hA (R.to (v := .int .i64 (n4 : Int)) (R.conv Tryd.underlying3 Tryd.underlying38 rfl) (congrArg (Value.int .i64) en6)) rfl ?_; clear hA a; intro a hA
 refine S.val hA (R.addI rfl rfl (r := 1 + ((n4 : Int))) rfl (by omega)) rfl ?_; clear hA a; intro a hA
 refine S.val hA (R.assign rfl) rfl ?_; clear hA a; intro a hA
 refine S.val hA (R.assign rfl) rfl ?_; clear hA a; intro a hA
 refine S.done ?_
 replace hA : St 78 [(0, _), (1, _), (2, _)] a := hA.sub ((.cons rfl (.cons rfl (.cons rfl .nil))))
 refine Ends.seq (Ends.region ?_)
 refine S.val hA (R.move rfl) rfl ?_; clear hA a; intro a hA
 refine S.val hA (R.move rfl) rfl ?_; clear hA a; intro a hA
 refine S.val hA (R.move rfl) rfl ?_; clear hA a; intro a hA
 obtain ⟨G, hG, hzG⟩ := form_gmk (G := insZ) (kd := (1 + ((n1 : Int)))) (n := (1 + ((n4 : Int)))) (m := 2147483647) (s := x2) (by omega) (by omega) (by omega)
 have hFG := chk_inF hzG
 obtain ⟨hl1, hl2, hl3⟩ := inF_len hFG
 refine S.call hA (R.callF Tryd.func34 rfl rfl rfl) rfl (gMake (1 + ((n1 : Int))) (1 + ((n4 : Int))) 2147483647 x2 G 0 hG _) ?_; clear hA a
 rintro e w1 ⟨ag73, cg73, ag74, cg74, ag75, cg75, rfl, ⟨hg73, hg74, hg75⟩, hb⟩
 replace hM := hM.callB hb; clear hb
 have hbs := hbs.trans (hM.below.mono hbs.size)
 replace hM := Mem.start w1
 refine ⟨.tuple #[.agg #[.int .i64 G.kind, .int .i64 G.n, .int .i64 G.cap, .slice ag73 G.wt.length cg73, .slice ag74 G.vl.length cg74, .slice ag75 G.cost.length cg75], .int .i64 0], rfl, fun a hA => ?_⟩
 refine S.val hA (R.move rfl) rfl ?_; clear hA a; intro a hA
 refine S.val hA (R.extract (v := .agg #[.int .i64 G.kind, .int .i64 G.n, .int .i64 G.cap, .slice ag73 G.wt.length cg73, .slice ag74 G.vl.length cg74, .slice ag75 G.cost.length cg75]) rfl rfl) rfl ?_; clear hA a; intro a hA
 refine S.val hA (R.extract (v := .int .i64 0) rfl rfl) rfl ?_; clear hA a; intro a hA
 refine S.alloc hA hM info25 rfl rfl ?_; clear hA hM a; intro b8 w2 hb9 hM a hA
 replace hM : Mem _ _ [pt b8 cz0 25] _ := hM
 refine S.storeA (k := 0) hA hM sz25 rfl rfl rfl rfl rfl rfl ?_; clear hM
 intro w3 hM
 replace hM : Mem _ _ [pt b8 #[.int .i64 G.kind, .int .i64 G.n, .int .i64 G.cap, .slice ag73 G.wt.length cg73, .slice ag74 G.vl.length cg74, .slice ag75 G.cost.length cg75] 25] _ := hM
 refine S.val hA (R.assign rfl) rfl ?_; clear hA a; intro a hA
 refine S.done ?_
 replace hA : St 78 [(0, _), (1, _), (2, _), (7, _), (8, _)] a := hA.sub ((.cons rfl (.cons rfl (.cons rfl (.cons rfl (.cons rfl .nil))))))
 refine Ends.seq (Ends.region ?_)
 refine S.val hA (R.move rfl) rfl ?_; clear hA a; intro a hA
 refine S.val hA (R.move rfl) rfl ?_; clear hA a; intro a hA
 refine S.val hA (R.move rfl) rfl ?_; clear hA a; intro a hA
 refine S.call hA (R.callF Tryd.func34 rfl rfl rfl) rfl (gMake (1 + ((n1 : Int))) (1 + ((n4 : Int))) 2147483647 x2 G 0 hG _) ?_; clear hA a
 rintro e w4 ⟨ag103, cg103, ag104, cg104, ag105, cg105, rfl, ⟨hg103, hg104, hg105⟩, hb⟩
 replace hM := hM.callB hb; clear hb
 have hbx11 := hM.block (k := 0) rfl
 have hbs := hbs.trans (hM.below.mono hbs.size)
 have hg73 := hg73.mem hM
 have hg74 := hg74.mem hM
 have hg75 := hg75.mem hM
 replace hM := Mem.start w4
 refine ⟨.tuple #[.agg #[.int .i64 G.kind, .int .i64 G.n, .int .i64 G.cap, .slice ag103 G.wt.length cg103, .slice ag104 G.vl.length cg104, .slice ag105 G.cost.length cg105], .int .i64 0], rfl, fun a hA => ?_⟩
 refine S.val hA (R.move rfl) rfl ?_; clear hA a; intro a hA
 refine S.val hA (R.extract (v := .agg #[.int .i64 G.kind, .int .i64 G.n, .int .i64 G.cap, .slice ag103 G.wt.length cg103, .slice ag104 G.vl.length cg104, .slice ag105 G.cost.length cg105]) rfl rfl) rfl ?_; clear hA a; intro a hA
 refine S.val hA (R.extract (v := .int .i64 0) rfl rfl) rfl ?_; clear hA a; intro a hA
 refine S.alloc hA hM info25 rfl rfl ?_; clear hA hM a; intro b12 w5 hb13 hM a hA
 replace hM : Mem _ _ [pt b12 cz0 25] _ := hM
 refine S.storeA (k := 0) hA hM sz25 rfl rfl rfl rfl rfl rfl ?_; clear hM
 intro w6 hM
 replace hM : Mem _ _ [pt b12 #[.int .i64 G.kind, .int .i64 G.n, .int .i64 G.cap, .slice ag103 G.wt.length cg103, .slice ag104 G.vl.length cg104, .slice ag105 G.cost.length cg105] 25] _ := hM
 refine S.val hA (R.assign rfl) rfl ?_; clear hA a; intro a hA
 refine S.done ?_
 replace hA : St 78 [(7, _), (8, _), (9, _), (10, _)] a := hA.sub ((.cons rfl (.cons rfl (.cons rfl (.cons rfl .nil)))))
 refine Ends.seq (Ends.region ?_)
 refine S.val hA (R.loadA sz25 rfl (hM.oldRange hbx11) rfl) rfl ?_; clear hA a; intro a hA
 refine S.call hA (R.callF Tryd.func20 rfl rfl rfl) rfl (write05 G ag73 cg73 ag74 cg74 ag75 cg75 ⟨by omega, by omega⟩ _ (hg73.mem hM) (hg74.mem hM) (hg75.mem hM) (tab_below htab (Mem.trans0 hbs hM.nilL))) ?_; clear hA a
 rintro e w7 ⟨rfl, hb⟩
 replace hM := hM.callB hb; clear hb
 refine ⟨.tuple #[.string ((bs (wtxt G))), .int .i64 (chk G)], rfl, fun a hA => ?_⟩
 refine S.val hA (R.move rfl) rfl ?_; clear hA a; intro a hA
 refine S.val hA (R.extract (v := .string ((bs (wtxt G)))) rfl rfl) rfl ?_; clear hA a; intro a hA
 refine S.val hA (R.extract (v := .int .i64 (chk G)) rfl rfl) rfl ?_; clear hA a; intro a hA
 refine S.val hA (R.assign rfl) rfl ?_; clear hA a; intro a hA
 refine S.val hA (R.assign rfl) rfl ?_; clear hA a; intro a hA
 refine S.done ?_
 replace hA : St 78 [(7, _), (8, _), (9, _), (10, _), (11, _), (12, _)] a := hA.sub ((.cons rfl (.cons rfl (.cons rfl (.cons rfl (.cons rfl (.cons rfl .nil)))))))
 refine Ends.seq (Ends.region ?_)
 refine S.val hA (R.move rfl) rfl ?_; clear hA a; intro a hA
 refine S.call hA (R.callF Tryd.func28 rfl rfl rfl) rfl (parse_eq (bs (wtxt G)) (by rw [bs_size]; have h9 := wtxt_len hzG; omega) G 0 0 (prs_wtxt hzG) _ (U8T.below hut (Mem.trans0 hbs hM.nilL))) ?_; clear hA a
 rintro e w8 ⟨ap143, cp143, ap144, cp144, ap145, cp145, rfl, ⟨hp143, hp144, hp145⟩, hb⟩
 replace hM := hM.callB hb; clear hb
 have hbx15 := hM.block (k := 0) rfl
 have hbs := hbs.trans (hM.below.mono hbs.size)
 have hg73 := hg73.mem hM
 have hg74 := hg74.mem hM
 have hg75 := hg75.mem hM
 have hg103 := hg103.mem hM
 have hg104 := hg104.mem hM
 have hg105 := hg105.mem hM
 have hbx11 := hM.keepB hbx11
 replace hM := Mem.start w8
 refine ⟨.tuple #[.agg #[.int .i64 G.kind, .int .i64 G.n, .int .i64 G.cap, .slice ap143 G.wt.length cp143, .slice ap144 G.vl.length cp144, .slice ap145 G.cost.length cp145], .int .i64 0, .int .i64 0], rfl, fun a hA => ?_⟩
 refine S.val hA (R.move rfl) rfl ?_; clear hA a; intro a hA
 refine S.val hA (R.extract (v := .agg #[.int .i64 G.kind, .int .i64 G.n, .int .i64 G.cap, .slice ap143 G.wt.length cp143, .slice ap144 G.vl.length cp144, .slice ap145 G.cost.length cp145]) rfl rfl) rfl ?_; clear hA a; intro a hA
 refine S.val hA (R.extract (v := .int .i64 0) rfl rfl) rfl ?_; clear hA a; intro a hA
 refine S.val hA (R.extract (v := .int .i64 0) rfl rfl) rfl ?_; clear hA a; intro a hA
 refine S.alloc hA hM info25 rfl rfl ?_; clear hA hM a; intro b16 w9 hb17 hM a hA
 replace hM : Mem _ _ [pt b16 cz0 25] _ := hM
 refine S.storeA (k := 0) hA hM sz25 rfl rfl rfl rfl rfl rfl ?_; clear hM
 intro w10 hM
 replace hM : Mem _ _ [pt b16 #[.int .i64 G.kind, .int .i64 G.n, .int .i64 G.cap, .slice ap143 G.wt.length cp143, .slice ap144 G.vl.length cp144, .slice ap145 G.cost.length cp145] 25] _ := hM
 refine S.val hA (R.assign rfl) rfl ?_; clear hA a; intro a hA
 refine S.val hA (R.assign rfl) rfl ?_; clear hA a; intro a hA
 refine S.done ?_
 replace hA : St 78 [(7, _), (8, _), (9, _), (10, _), (12, _), (13, _), (15, _)] a := hA.sub ((.cons rfl (.cons rfl (.cons rfl (.cons rfl (.cons rfl (.cons rfl (.cons rfl .nil))))))))
 refine Ends.seq (Ends.region ?_)
 refine S.call hA (R.callF Tryd.func35 rfl rfl rfl) rfl (gens_any _) ?_; clear hA a
 rintro e w11 ⟨rfl, rfl⟩
 refine ⟨.bool true, rfl, fun a hA => ?_⟩
 refine S.val hA (R.move rfl) rfl ?_; clear hA a; intro a hA
 refine S.valg (dj := 52) hA (by kernel_rfl) rfl (R.move rfl) rfl ?_; clear hA a; intro a hA
 refine S.valg (dj := 52) hA (by kernel_rfl) rfl (R.tt (R.eql rfl rfl) (by first | decide | simp | omega)) rfl ?_; clear hA a; intro a hA
 refine S.val hA (R.pickT rfl rfl) rfl ?_; clear hA a; intro a hA
 refine S.val hA (R.move rfl) rfl ?_; clear hA a; intro a hA
 refine S.valg (dj := 56) hA (by kernel_rfl) rfl (R.move rfl) rfl ?_; clear hA a; intro a hA
 refine S.valg (dj := 56) hA (by kernel_rfl) rfl (R.tt (R.eql rfl rfl) (by first | decide | simp | omega)) rfl ?_; clear hA a; intro a hA
 refine S.val hA (R.pickT rfl rfl) rfl ?_; clear hA a; intro a hA
 refine S.val hA (R.move rfl) rfl ?_; clear hA a; intro a hA
 refine S.valg (dj := 60) hA (by kernel_rfl) rfl (R.move rfl) rfl ?_; clear hA a; intro a hA
 refine S.valg (dj := 60) hA (by kernel_rfl) rfl (R.tt (R.eql rfl rfl) (hzG)) rfl ?_; clear hA a; intro a hA
 refine S.val hA (R.pickT rfl rfl) rfl ?_; clear hA a; intro a hA
 refine S.val hA (R.move rfl) rfl ?_; clear hA a; intro a hA
 refine S.valg (dj := 64) hA (by kernel_rfl) rfl (R.move rfl) rfl ?_; clear hA a; intro a hA
 refine S.valg (dj := 64) hA (by kernel_rfl) rfl (R.tt (R.eql rfl rfl) (by first | decide | simp | omega)) rfl ?_; clear hA a; intro a hA
 refine S.val hA (R.pickT rfl rfl) rfl ?_; clear hA a; intro a hA
 refine S.val hA (R.move rfl) rfl ?_; clear hA a; intro a hA
 refine S.valg (dj := 68) hA (by kernel_rfl) rfl (R.loadA sz25 rfl (hM.oldRange hbx11) rfl) rfl ?_; clear hA a; intro a hA
 refine S.valg (dj := 68) hA (by kernel_rfl) rfl (R.loadA sz25 rfl (hM.oldRange hbx15) rfl) rfl ?_; clear hA a; intro a hA
 refine S.callg (dj := 68) hA (by kernel_rfl) rfl (R.callF Tryd.func22 rfl rfl rfl) rfl (rSame_eq G ag73 cg73 ag74 cg74 ag75 cg75 ag103 cg103 ag104 cg104 ag105 cg105 _ (hg73.mem hM) (hg74.mem hM) (hg75.mem hM) (hg103.mem hM) (hg104.mem hM) (hg105.mem hM)) ?_; clear hA a
 rintro e w12 ⟨rfl, hb⟩
 replace hM := hM.callB hb; clear hb
 refine ⟨.bool true, rfl, fun a hA => ?_⟩
 refine S.val hA (R.pickT rfl rfl) rfl ?_; clear hA a; intro a hA
 refine S.val hA (R.move rfl) rfl ?_; clear hA a; intro a hA
 refine S.valg (dj := 73) hA (by kernel_rfl) rfl (R.loadA sz25 rfl (hM.oldRange hbx11) rfl) rfl ?_; clear hA a; intro a hA
 refine S.valg (dj := 73) hA (by kernel_rfl) rfl (R.loadA sz25 rfl (hM.range (k := 0) rfl) rfl) rfl ?_; clear hA a; intro a hA
 refine S.callg (dj := 73) hA (by kernel_rfl) rfl (R.callF Tryd.func22 rfl rfl rfl) rfl (rSame_eq G ag73 cg73 ag74 cg74 ag75 cg75 ap143 cp143 ap144 cp144 ap145 cp145 _ (hg73.mem hM) (hg74.mem hM) (hg75.mem hM) (hp143.mem hM) (hp144.mem hM) (hp145.mem hM)) ?_; clear hA a
 rintro e w13 ⟨rfl, hb⟩
 replace hM := hM.callB hb; clear hb
 refine ⟨.bool true, rfl, fun a hA => ?_⟩
 refine S.val hA (R.pickT rfl rfl) rfl ?_; clear hA a; intro a hA
 refine S.val hA (R.assign rfl) rfl ?_; clear hA a; intro a hA
 refine S.done ?_
 replace hA : St 78 [(6, _)] a := hA.sub ((.cons rfl .nil))
 refine Ends.ret1 Tryd.func14 Tryd.results14 hA rfl ?_
 exact ⟨rfl, Mem.trans0 hbs hM.nilL⟩
theorem genFine_any (n0 n1 n2 : Int) (_h0 : (Lit.int .i64 n0).wf = true) (_h1 : (Lit.int .i64 n1).wf = true) (_h2 : (Lit.int .u64 n2).wf = true) (w : World) (htab : Lib.TabIs Tryd.prog w "internal/strconv.uint64pow10" .u64 Lib.pow10Tab) (hut : U8T w) : Calls Tryd.prog 14 #[.int .i64 n0, .int .i64 n1, .int .u64 n2] w fun e w' => e = .returned (.bool true) ∧ Below w.heap.size w w' := genFine_w n0 n1 n2 w htab hut
end Go.Proofs.YtakfcekfmdjklaaDoor
