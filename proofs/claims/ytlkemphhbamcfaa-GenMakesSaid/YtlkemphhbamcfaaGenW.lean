/-
  gen.Make and kurganref07.Make: both tell 'gmk'.
-/
import Derived.Test.YtlkemphhbamcfaaGen1
import Derived.Test.YtlkemphhbamcfaaGenDraws
import Derived.Test.YtlkemphhbamcfaaTy
import Derived.Test.YtlkemphhbamcfaaEngA
namespace Go.Proofs.Ytlkemphhbamcfaa
open Go.RowKit

set_option maxRecDepth 100000 in
set_option maxHeartbeats 400000 in
theorem gnext (d : Nat) (s m : Int) (hm : 0 ≤ m ∧ m ≤ 2147483647) (w : World) (hM : Mem w (feet [pt d #[.int .u64 s, .int .i64 m] 110]) [pt d #[.int .u64 s, .int .i64 m] 110] w) :
    Calls Try.prog 80 #[.pointer (some ⟨d, 0, none⟩)] w fun e w' => e = .returned (.int .i64 (drawN s m)) ∧ Mem w (feet [pt d #[.int .u64 s, .int .i64 m] 110]) [pt d #[.int .u64 (drawS s), .int .i64 m] 110] w' := by
  have hM0 : True := trivial  -- have hM
  refine Calls.of_ends (vs := [.pointer (some ⟨d, 0, none⟩)]) Try.func80 rfl Try.ntmps80 rfl ?_
  intro a hA
  replace hA : St 22 [(0, _)] a := hA
  refine Ends.seq ?_
  refine Ends.region ?_
  refine S.val hA (R.assign rfl) rfl ?_; clear hA a; intro a hA
  refine S.done ?_
  replace hA : St 22 [(0, _)] a := hA.sub ((.cons rfl .nil))
  refine Ends.seq ?_
  refine Ends.drawn (Mem w (feet [pt d #[.int .u64 s, .int .i64 m] 110]) [pt d #[.int .u64 s, .int .i64 m] 110]) (.cons (0, true) (.cons (1, true) (.cons (2, true) (.cons (3, true) (.cons (4, true) (.cons (5, true) (.cons (6, true) (.cons (7, true) (.cons (8, false) (.cons (9, true) (.cons (10, true) (.cons (11, true) (.cons (12, true) (.cons (13, true) .nil)))))))))))))) 14 mixed (by kernel_rfl) (by kernel_rfl) (by kernel_rfl) hM.drew ?_
  replace hM := hM.drew
  refine D.valF hA rfl (fun _ => R.move rfl) rfl ?_; clear hA a; intro a hA
  refine D.valF hA rfl (fun _ => R.nilCheck rfl) rfl ?_; clear hA a; intro a hA
  refine D.valF hA rfl (fun _ => R.fieldAddr (q := 0) fi110_0 rfl rfl rfl) rfl ?_; clear hA a; intro a hA
  refine D.val hA rfl (by kernel_rfl) (fun _ hM => R.load sz22 rfl (hM.cell (k := 0) rfl rfl)) rfl ?_; clear hA a; intro a hA
  refine D.valF hA rfl (fun _ => R.move rfl) rfl ?_; clear hA a; intro a hA
  refine D.valF hA rfl (fun _ => R.nilCheck rfl) rfl ?_; clear hA a; intro a hA
  refine D.valF hA rfl (fun _ => R.fieldAddr (q := 1) fi110_1 rfl rfl rfl) rfl ?_; clear hA a; intro a hA
  refine D.val hA rfl (by kernel_rfl) (fun _ hM => R.load sz3 rfl (hM.cell (k := 0) rfl rfl)) rfl ?_; clear hA a; intro a hA
  refine D.call hA rfl (R.callF Try.func15 rfl rfl rfl) rfl (draw_in s m hm.1 hm.2 _) ?_; clear hA a
  rintro e w1 ⟨rfl, rfl⟩
  refine ⟨.tuple #[.int .i64 (drawN s m), .int .u64 (drawS s)], rfl, hM, fun a hA => ?_⟩
  refine D.valF hA rfl (fun _ => R.move rfl) rfl ?_; clear hA a; intro a hA
  refine D.valF hA rfl (fun _ => R.extract (v := .int .i64 (drawN s m)) rfl rfl) rfl ?_; clear hA a; intro a hA
  refine D.valF hA rfl (fun _ => R.extract (v := .int .u64 (drawS s)) rfl rfl) rfl ?_; clear hA a; intro a hA
  refine D.valF hA rfl (fun _ => R.assign rfl) rfl ?_; clear hA a; intro a hA
  refine D.valF hA rfl (fun _ => R.assign rfl) rfl ?_; clear hA a; intro a hA
  refine D.done ?_
  replace hA : St 22 [(0, _), (3, _), (4, _)] a := hA.sub ((.cons rfl (.cons rfl (.cons rfl .nil))))
  refine Ends.seq ?_
  refine Ends.region ?_
  refine S.val hA (R.move rfl) rfl ?_; clear hA a; intro a hA
  refine S.val hA (R.move rfl) rfl ?_; clear hA a; intro a hA
  refine S.val hA (R.nilCheck rfl) rfl ?_; clear hA a; intro a hA
  refine S.val hA (R.fieldAddr (q := 0) fi110_0 rfl rfl rfl) rfl ?_; clear hA a; intro a hA
  refine S.store (k := 0) hA hM sz22 rfl rfl rfl rfl rfl ?_; clear hM
  intro w2 hM
  replace hM : Mem _ _ [pt d #[.int .u64 (drawS s), .int .i64 m] 110] _ := hM
  refine S.done ?_
  replace hA : St 22 [(3, _)] a := hA.sub ((.cons rfl .nil))
  refine Ends.seq ?_
  refine Ends.region ?_
  refine S.val hA (R.move rfl) rfl ?_; clear hA a; intro a hA
  refine S.val hA (R.assign rfl) rfl ?_; clear hA a; intro a hA
  refine S.done ?_
  replace hA : St 22 [(2, _)] a := hA.sub ((.cons rfl .nil))
  refine Ends.ret1 Try.func80 Try.results80 hA rfl ?_
  exact ⟨rfl, hM⟩
set_option maxRecDepth 100000 in
set_option maxHeartbeats 400000 in
theorem gknap (d : Nat) (n s m : Int) (hm : 0 ≤ m ∧ m ≤ 2147483647) (hn : 1 ≤ n ∧ n ≤ 64) (w : World) (hM : Mem w (feet [pt d #[.int .u64 (sd s (0)), .int .i64 m] 110]) [pt d #[.int .u64 (sd s (0)), .int .i64 m] 110] w) :
    Calls Try.prog 70 #[.pointer (some ⟨d, 0, none⟩), .int .i64 n] w fun e w' => ∃ aw cw av cv, e = .returned (insA (gK n m s) aw cw av cv none 0 []) ∧ Mem w (feet [pt d #[.int .u64 (sd s (0)), .int .i64 m] 110]) [bundle (insL 3 40 (gK n m s) aw cw av cv none 0 []), pt d #[.int .u64 (sd s (2 * n.toNat)), .int .i64 m] 110] w' := by
  have hM0 : True := trivial  -- have hM
  refine Calls.of_ends (vs := [.pointer (some ⟨d, 0, none⟩), .int .i64 n]) Try.func70 rfl Try.ntmps70 rfl ?_
  intro a hA
  replace hA : St 37 [(0, _), (1, _)] a := hA
  refine Ends.seq ?_
  refine Ends.region ?_
  refine S.alloc hA hM info56 rfl rfl ?_; clear hA hM a; intro b1 w1 hb2 hM a hA
  replace hM : Mem _ _ [pt b1 #[.int .i64 0, .int .i64 0, .int .i64 0, .slice none 0 0, .slice none 0 0, .slice none 0 0] 56, pt d #[.int .u64 (sd s (0)), .int .i64 m] 110] _ := hM
  refine S.done ?_
  replace hA : St 37 [(0, _), (1, _), (4, _)] a := hA.sub ((.cons rfl (.cons rfl (.cons rfl .nil))))
  refine Ends.seq ?_
  refine Ends.region ?_
  refine S.val hA (R.move rfl) rfl ?_; clear hA a; intro a hA
  refine S.val hA (R.build (cells := #[.int .i64 1, .int .i64 n, .int .i64 0, .slice none 0 0, .slice none 0 0, .slice none 0 0]) rfl (by kernel_rfl)) rfl ?_; clear hA a; intro a hA
  refine S.alloc hA hM info56 rfl rfl ?_; clear hA hM a; intro b3 w2 hb4 hM a hA
  replace hM : Mem _ _ [pt b3 #[.int .i64 0, .int .i64 0, .int .i64 0, .slice none 0 0, .slice none 0 0, .slice none 0 0] 56, pt b1 #[.int .i64 0, .int .i64 0, .int .i64 0, .slice none 0 0, .slice none 0 0, .slice none 0 0] 56, pt d #[.int .u64 (sd s (0)), .int .i64 m] 110] _ := hM
  refine S.storeA (k := 0) hA hM sz56 rfl rfl rfl rfl rfl rfl ?_; clear hM
  intro w3 hM
  replace hM : Mem _ _ [pt b3 #[.int .i64 1, .int .i64 n, .int .i64 0, .slice none 0 0, .slice none 0 0, .slice none 0 0] 56, pt b1 #[.int .i64 0, .int .i64 0, .int .i64 0, .slice none 0 0, .slice none 0 0, .slice none 0 0] 56, pt d #[.int .u64 (sd s (0)), .int .i64 m] 110] _ := hM
  refine S.done ?_
  replace hA : St 37 [(0, _), (1, _), (4, _), (5, _)] a := hA.sub ((.cons rfl (.cons rfl (.cons rfl (.cons rfl .nil)))))
  refine Ends.seq ?_
  refine Ends.region ?_
  refine S.val hA (R.assign rfl) rfl ?_; clear hA a; intro a hA
  refine S.done ?_
  replace hA : St 37 [(0, _), (1, _), (4, _), (5, _), (6, _)] a := hA.sub ((.cons rfl (.cons rfl (.cons rfl (.cons rfl (.cons rfl .nil))))))
  refine Ends.seq ?_
  refine Ends.seq ?_
  refine Ends.region ?_
  refine S.val hA (R.move rfl) rfl ?_; clear hA a; intro a hA
  refine S.val hA (R.move rfl) rfl ?_; clear hA a; intro a hA
  refine S.done ?_
  replace hA : St 37 [(0, _), (4, _), (5, _), (6, _), (10, _), (11, _)] a := hA.sub ((.cons rfl (.cons rfl (.cons rfl (.cons rfl (.cons rfl (.cons rfl .nil)))))))
  refine Ends.block ?_
  replace hM := hM.front (k := 1) rfl
  replace hM := hM.front (k := 2) rfl
  replace hM := hM.front (k := 2) rfl
  replace hM : Mem _ _ [pt b3 #[.int .i64 1, .int .i64 n, .int .i64 0, .slice none 0 0, .slice none 0 0, .slice none 0 0] 56, pt d #[.int .u64 (sd s (0)), .int .i64 m] 110, pt b1 #[.int .i64 0, .int .i64 0, .int .i64 0, .slice none 0 0, .slice none 0 0, .slice none 0 0] 56] _ := hM
  replace hM := (hM.ownNil 3 1).ownNil 3 1
  have hM1 := ((hM.front (k := 2) rfl))
  replace hM : Mem _ _ [pt b3 #[.int .i64 1, .int .i64 n, .int .i64 0, .slice none ((nmL s m evn 0).length) 0, .slice none ((nmL s m odd1 0).length) 0, .slice none 0 0] 56, own 3 1 (.slice none (((nmL s m evn 0)).length) 0) (((nmL s m evn 0)).length) (((nmL s m evn 0)).map (Value.int .i64)), own 3 1 (.slice none (((nmL s m odd1 0)).length) 0) (((nmL s m odd1 0)).length) (((nmL s m odd1 0)).map (Value.int .i64)), pt d #[.int .u64 (sd s (2 * 0)), .int .i64 m] 110, pt b1 #[.int .i64 0, .int .i64 0, .int .i64 0, .slice none 0 0, .slice none 0 0, .slice none 0 0] 56] _ := hM1
  clear hM1
  refine Ends.loop (σ := Nat × Option Addr × Nat × Option Addr × Nat) (fun (k, aw, cw, av, cv) (a : Act) (wv : World) => St 37 [(0, .pointer (some ⟨d, 0, none⟩)), (4, .pointer (some ⟨b1, 0, none⟩)), (5, .pointer (some ⟨b3, 0, none⟩)), (6, .int .i64 ((nmL s m evn k).sum)), (10, .int .i64 n), (11, .int .i64 ((k : Int)))] a ∧ Mem w (feet [pt d #[.int .u64 (sd s (0)), .int .i64 m] 110]) [pt b3 #[.int .i64 1, .int .i64 n, .int .i64 0, .slice aw ((nmL s m evn k).length) cw, .slice av ((nmL s m odd1 k).length) cv, .slice none 0 0] 56, own 3 1 (.slice aw (((nmL s m evn k)).length) cw) (((nmL s m evn k)).length) (((nmL s m evn k)).map (Value.int .i64)), own 3 1 (.slice av (((nmL s m odd1 k)).length) cv) (((nmL s m odd1 k)).length) (((nmL s m odd1 k)).map (Value.int .i64)), pt d #[.int .u64 (sd s (2 * k)), .int .i64 m] 110, pt b1 #[.int .i64 0, .int .i64 0, .int .i64 0, .slice none 0 0, .slice none 0 0, .slice none 0 0] 56] wv ∧ (k ≤ n.toNat)) (fun (k, aw, cw, av, cv) => n.toNat - k) ((0, none, 0, none, 0)) ⟨hA.sub ((.cons rfl (.cons rfl (.cons rfl (.cons rfl (.cons rfl (.cons rfl .nil))))))), hM, (Nat.zero_le _)⟩ ?_
  clear hA hM a
  rintro ⟨k, aw, cw, av, cv⟩ a w4 ⟨hA, hM, hk⟩ hNext
  refine Ends.seq ?_
  refine Ends.region ?_
  refine S.val hA (R.lss rfl rfl) rfl ?_; clear hA a; intro a hA
  refine S.done ?_
  replace hA : St 37 [(0, _), (4, _), (5, _), (6, _), (10, _), (11, _), (12, _)] a := hA.sub ((.cons rfl (.cons rfl (.cons rfl (.cons rfl (.cons rfl (.cons rfl (.cons rfl .nil))))))))
  refine Ends.seq ?_
  refine Ends.ite hA rfl (fun hc5 => ?_) (fun hc5 => ?_)
  ·
    have hsm := nmL_sum s m evn hm k
    have hb1 := nm_bd s m (2 * k) hm.1
    refine Ends.skip ?_
    refine Ends.seq ?_
    refine Ends.block ?_
    refine Ends.seq ?_
    refine Ends.region ?_
    refine S.val hA (R.move rfl) rfl ?_; clear hA a; intro a hA
    replace hM := hM.front (k := 3) rfl
    replace hM : Mem _ _ [pt d #[.int .u64 (sd s (2 * k)), .int .i64 m] 110, pt b3 #[.int .i64 1, .int .i64 n, .int .i64 0, .slice aw ((nmL s m evn k).length) cw, .slice av ((nmL s m odd1 k).length) cv, .slice none 0 0] 56, own 3 1 (.slice aw (((nmL s m evn k)).length) cw) (((nmL s m evn k)).length) (((nmL s m evn k)).map (Value.int .i64)), own 3 1 (.slice av (((nmL s m odd1 k)).length) cv) (((nmL s m odd1 k)).length) (((nmL s m odd1 k)).map (Value.int .i64)), pt b1 #[.int .i64 0, .int .i64 0, .int .i64 0, .slice none 0 0, .slice none 0 0, .slice none 0 0] 56] _ := hM
    refine S.call hA (R.callF Try.func80 rfl rfl rfl) rfl (gnext d (sd s (2 * k)) m hm _ (hM.hereN 1)) ?_; clear hA a
    rintro e w5 ⟨rfl, hn⟩
    replace hM : Mem _ _ [pt d #[.int .u64 (sd s (2 * k + 1)), .int .i64 m] 110, pt b3 #[.int .i64 1, .int .i64 n, .int .i64 0, .slice aw ((nmL s m evn k).length) cw, .slice av ((nmL s m odd1 k).length) cv, .slice none 0 0] 56, own 3 1 (.slice aw (((nmL s m evn k)).length) cw) (((nmL s m evn k)).length) (((nmL s m evn k)).map (Value.int .i64)), own 3 1 (.slice av (((nmL s m odd1 k)).length) cv) (((nmL s m odd1 k)).length) (((nmL s m odd1 k)).map (Value.int .i64)), pt b1 #[.int .i64 0, .int .i64 0, .int .i64 0, .slice none 0 0, .slice none 0 0, .slice none 0 0] 56] _ := hM.callL 1 hn; clear hn
    refine ⟨.int .i64 (nm s m (2 * k)), rfl, fun a hA => ?_⟩
    refine S.val hA (R.assign rfl) rfl ?_; clear hA a; intro a hA
    refine S.done ?_
    replace hA : St 37 [(0, _), (4, _), (5, _), (6, _), (7, _), (10, _), (11, _)] a := hA.sub ((.cons rfl (.cons rfl (.cons rfl (.cons rfl (.cons rfl (.cons rfl (.cons rfl .nil))))))))
    refine Ends.seq ?_
    refine Ends.region ?_
    refine S.val hA (R.move rfl) rfl ?_; clear hA a; intro a hA
    refine S.val hA (R.move rfl) rfl ?_; clear hA a; intro a hA
    refine S.val hA (R.addI rfl rfl (r := ((nmL s m evn k).sum) + (nm s m (2 * k))) rfl (by omega)) rfl ?_; clear hA a; intro a hA
    refine S.val hA (R.assign rfl) rfl ?_; clear hA a; intro a hA
    refine S.done ?_
    replace hA : St 37 [(0, _), (4, _), (5, _), (6, _), (7, _), (10, _), (11, _)] a := hA.sub ((.cons rfl (.cons rfl (.cons rfl (.cons rfl (.cons rfl (.cons rfl (.cons rfl .nil))))))))
    refine Ends.seq ?_
    refine Ends.region ?_
    refine S.val hA (R.fieldAddr (q := 3) fi56_3 rfl rfl rfl) rfl ?_; clear hA a; intro a hA
    refine S.val hA (R.load sz40 rfl (hM.cell (k := 1) rfl rfl)) rfl ?_; clear hA a; intro a hA
    refine S.val hA (R.move rfl) rfl ?_; clear hA a; intro a hA
    refine S.buildSl (cells := #[.int .i64 (nm s m (2 * k))]) hA hM Try.underlying40 info3 rfl rfl rfl rfl (by kernel_rfl) rfl ?_; clear hA hM a; intro b6 w6 hb7 hM a hA
    replace hM : Mem _ _ [pt b6 #[.int .i64 (nm s m (2 * k))] 3, pt d #[.int .u64 (sd s (2 * k + 1)), .int .i64 m] 110, pt b3 #[.int .i64 1, .int .i64 n, .int .i64 0, .slice aw ((nmL s m evn k).length) cw, .slice av ((nmL s m odd1 k).length) cv, .slice none 0 0] 56, own 3 1 (.slice aw (((nmL s m evn k)).length) cw) (((nmL s m evn k)).length) (((nmL s m evn k)).map (Value.int .i64)), own 3 1 (.slice av (((nmL s m odd1 k)).length) cv) (((nmL s m odd1 k)).length) (((nmL s m odd1 k)).map (Value.int .i64)), pt b1 #[.int .i64 0, .int .i64 0, .int .i64 0, .slice none 0 0, .slice none 0 0, .slice none 0 0] 56] _ := hM
    refine S.append (k := 3) (k2 := 0) hA hM rfl rfl Try.underlying40 info3 rfl rfl rfl rfl rfl rfl rfl rfl rfl (by first | omega | (show (_ + 1) * 8 ≤ 140737488355328; simp only [nmL_len]; omega) | (show (_ + 1) * 8 ≤ 140737488355328; omega) | (simp only [nmL_len]; unfold maxLen; omega) | (unfold maxLen; omega)) (by first | omega | (show (_ + 1) * 8 ≤ 140737488355328; simp only [nmL_len]; omega) | (show (_ + 1) * 8 ≤ 140737488355328; omega) | (simp only [nmL_len]; unfold maxLen; omega) | (unfold maxLen; omega)) rfl ?_; clear hA hM a; intro a8 c9 w7 hM a hA
    replace hM : Mem _ _ [pt b6 #[.int .i64 (nm s m (2 * k))] 3, pt d #[.int .u64 (sd s (2 * k + 1)), .int .i64 m] 110, pt b3 #[.int .i64 1, .int .i64 n, .int .i64 0, .slice aw ((nmL s m evn k).length) cw, .slice av ((nmL s m odd1 k).length) cv, .slice none 0 0] 56, own 3 1 (.slice a8 ((((nmL s m evn k)).length) + 1) c9) ((((nmL s m evn k)).length) + 1) (((nmL s m evn k)).map (Value.int .i64) ++ [.int .i64 (nm s m (2 * k))]), own 3 1 (.slice av (((nmL s m odd1 k)).length) cv) (((nmL s m odd1 k)).length) (((nmL s m odd1 k)).map (Value.int .i64)), pt b1 #[.int .i64 0, .int .i64 0, .int .i64 0, .slice none 0 0, .slice none 0 0, .slice none 0 0] 56] _ := hM
    have hl10 : (((nmL s m evn k)).length) + 1 = ((nmL s m evn k) ++ [nm s m (2 * k)]).length := by simp
    rw [hl10, show ((nmL s m evn k)).map (Value.int .i64) ++ [.int .i64 (nm s m (2 * k))] = ((nmL s m evn k) ++ [nm s m (2 * k)]).map (Value.int .i64) by simp] at hM; rw [hl10] at hA
    clear hl10
    replace hM := hM.drop 0
    replace hM : Mem _ _ [pt d #[.int .u64 (sd s (2 * k + 1)), .int .i64 m] 110, pt b3 #[.int .i64 1, .int .i64 n, .int .i64 0, .slice aw ((nmL s m evn k).length) cw, .slice av ((nmL s m odd1 k).length) cv, .slice none 0 0] 56, own 3 1 (.slice a8 ((((nmL s m evn k) ++ [nm s m (2 * k)])).length) c9) ((((nmL s m evn k) ++ [nm s m (2 * k)])).length) ((((nmL s m evn k) ++ [nm s m (2 * k)])).map (Value.int .i64)), own 3 1 (.slice av (((nmL s m odd1 k)).length) cv) (((nmL s m odd1 k)).length) (((nmL s m odd1 k)).map (Value.int .i64)), pt b1 #[.int .i64 0, .int .i64 0, .int .i64 0, .slice none 0 0, .slice none 0 0, .slice none 0 0] 56] _ := hM
    refine S.val hA (R.fieldAddr (q := 3) fi56_3 rfl rfl rfl) rfl ?_; clear hA a; intro a hA
    refine S.store (k := 1) hA hM sz40 rfl rfl rfl rfl rfl ?_; clear hM
    intro w8 hM
    replace hM : Mem _ _ [pt d #[.int .u64 (sd s (2 * k + 1)), .int .i64 m] 110, pt b3 #[.int .i64 1, .int .i64 n, .int .i64 0, .slice a8 ((((nmL s m evn k) ++ [nm s m (2 * k)])).length) c9, .slice av ((nmL s m odd1 k).length) cv, .slice none 0 0] 56, own 3 1 (.slice a8 ((((nmL s m evn k) ++ [nm s m (2 * k)])).length) c9) ((((nmL s m evn k) ++ [nm s m (2 * k)])).length) ((((nmL s m evn k) ++ [nm s m (2 * k)])).map (Value.int .i64)), own 3 1 (.slice av (((nmL s m odd1 k)).length) cv) (((nmL s m odd1 k)).length) (((nmL s m odd1 k)).map (Value.int .i64)), pt b1 #[.int .i64 0, .int .i64 0, .int .i64 0, .slice none 0 0, .slice none 0 0, .slice none 0 0] 56] _ := hM
    refine S.done ?_
    replace hA : St 37 [(0, _), (4, _), (5, _), (6, _), (10, _), (11, _)] a := hA.sub ((.cons rfl (.cons rfl (.cons rfl (.cons rfl (.cons rfl (.cons rfl .nil)))))))
    refine Ends.drawn (Mem w (feet [pt d #[.int .u64 (sd s (0)), .int .i64 m] 110]) [pt b3 #[.int .i64 1, .int .i64 n, .int .i64 0, .slice a8 ((((nmL s m evn k) ++ [nm s m (2 * k)])).length) c9, .slice av ((nmL s m odd1 k).length) cv, .slice none 0 0] 56, pt b1 #[.int .i64 0, .int .i64 0, .int .i64 0, .slice none 0 0, .slice none 0 0, .slice none 0 0] 56]) (.cons (0, true) (.cons (1, true) (.cons (2, true) (.cons (3, false) (.cons (4, false) (.cons (5, false) (.cons (6, true) (.cons (7, false) .nil)))))))) 7 mixed (by kernel_rfl) (by kernel_rfl) (by kernel_rfl) (((hM.drop 3).drop 2).drop 0).drew ?_
    replace hM := hM.drew
    refine D.valF hA rfl (fun _ => R.fieldAddr (q := 4) fi56_4 rfl rfl rfl) rfl ?_; clear hA a; intro a hA
    refine D.val hA rfl (by kernel_rfl) (fun _ hM => R.load sz40 rfl (hM.cell (k := 0) rfl rfl)) rfl ?_; clear hA a; intro a hA
    refine D.valF hA rfl (fun _ => R.move rfl) rfl ?_; clear hA a; intro a hA
    refine D.call hA rfl (R.callF Try.func80 rfl rfl rfl) rfl (gnext d (sd s (2 * k + 1)) m hm _ (hM.hereN 1)) ?_; clear hA a
    rintro e w9 ⟨rfl, hn⟩
    replace hM : Mem _ _ [pt d #[.int .u64 (sd s (2 * k + 1 + 1)), .int .i64 m] 110, pt b3 #[.int .i64 1, .int .i64 n, .int .i64 0, .slice a8 ((((nmL s m evn k) ++ [nm s m (2 * k)])).length) c9, .slice av ((nmL s m odd1 k).length) cv, .slice none 0 0] 56, own 3 1 (.slice a8 ((((nmL s m evn k) ++ [nm s m (2 * k)])).length) c9) ((((nmL s m evn k) ++ [nm s m (2 * k)])).length) ((((nmL s m evn k) ++ [nm s m (2 * k)])).map (Value.int .i64)), own 3 1 (.slice av (((nmL s m odd1 k)).length) cv) (((nmL s m odd1 k)).length) (((nmL s m odd1 k)).map (Value.int .i64)), pt b1 #[.int .i64 0, .int .i64 0, .int .i64 0, .slice none 0 0, .slice none 0 0, .slice none 0 0] 56] _ := hM.callL 1 hn; clear hn
    refine ⟨.int .i64 (nm s m (2 * k + 1)), rfl, (((hM.drop 3).drop 2).drop 0), fun a hA => ?_⟩
    refine D.buildSl (cells := #[.int .i64 (nm s m (2 * k + 1))]) hA hM rfl Try.underlying40 info3 rfl rfl rfl rfl (by kernel_rfl) rfl ?_; clear hA hM a; intro b11 w10 hb12 hM; refine ⟨(fun hM => (((hM.drop 3).drop 2).drop 0)) hM.tail, fun a hA => ?_⟩
    replace hM : Mem _ _ [pt b11 #[.int .i64 (nm s m (2 * k + 1))] 3, pt d #[.int .u64 (sd s (2 * k + 1 + 1)), .int .i64 m] 110, pt b3 #[.int .i64 1, .int .i64 n, .int .i64 0, .slice a8 ((((nmL s m evn k) ++ [nm s m (2 * k)])).length) c9, .slice av ((nmL s m odd1 k).length) cv, .slice none 0 0] 56, own 3 1 (.slice a8 ((((nmL s m evn k) ++ [nm s m (2 * k)])).length) c9) ((((nmL s m evn k) ++ [nm s m (2 * k)])).length) ((((nmL s m evn k) ++ [nm s m (2 * k)])).map (Value.int .i64)), own 3 1 (.slice av (((nmL s m odd1 k)).length) cv) (((nmL s m odd1 k)).length) (((nmL s m odd1 k)).map (Value.int .i64)), pt b1 #[.int .i64 0, .int .i64 0, .int .i64 0, .slice none 0 0, .slice none 0 0, .slice none 0 0] 56] _ := hM
    refine D.append (k := 4) (k2 := 0) hA hM rfl rfl rfl Try.underlying40 info3 rfl rfl rfl rfl rfl rfl rfl rfl rfl (by first | omega | (show (_ + 1) * 8 ≤ 140737488355328; simp only [nmL_len]; omega) | (show (_ + 1) * 8 ≤ 140737488355328; omega) | (simp only [nmL_len]; unfold maxLen; omega) | (unfold maxLen; omega)) (by first | omega | (show (_ + 1) * 8 ≤ 140737488355328; simp only [nmL_len]; omega) | (show (_ + 1) * 8 ≤ 140737488355328; omega) | (simp only [nmL_len]; unfold maxLen; omega) | (unfold maxLen; omega)) rfl ?_; clear hA hM a; intro a13 c14 w11 hM
    replace hM : Mem _ _ [pt b11 #[.int .i64 (nm s m (2 * k + 1))] 3, pt d #[.int .u64 (sd s (2 * k + 1 + 1)), .int .i64 m] 110, pt b3 #[.int .i64 1, .int .i64 n, .int .i64 0, .slice a8 ((((nmL s m evn k) ++ [nm s m (2 * k)])).length) c9, .slice av ((nmL s m odd1 k).length) cv, .slice none 0 0] 56, own 3 1 (.slice a8 ((((nmL s m evn k) ++ [nm s m (2 * k)])).length) c9) ((((nmL s m evn k) ++ [nm s m (2 * k)])).length) ((((nmL s m evn k) ++ [nm s m (2 * k)])).map (Value.int .i64)), own 3 1 (.slice a13 ((((nmL s m odd1 k)).length) + 1) c14) ((((nmL s m odd1 k)).length) + 1) (((nmL s m odd1 k)).map (Value.int .i64) ++ [.int .i64 (nm s m (2 * k + 1))]), pt b1 #[.int .i64 0, .int .i64 0, .int .i64 0, .slice none 0 0, .slice none 0 0, .slice none 0 0] 56] _ := hM
    have hl15 : (((nmL s m odd1 k)).length) + 1 = ((nmL s m odd1 k) ++ [nm s m (2 * k + 1)]).length := by simp
    rw [hl15, show ((nmL s m odd1 k)).map (Value.int .i64) ++ [.int .i64 (nm s m (2 * k + 1))] = ((nmL s m odd1 k) ++ [nm s m (2 * k + 1)]).map (Value.int .i64) by simp] at hM
    replace hM := hM.drop 0
    replace hM : Mem _ _ [pt d #[.int .u64 (sd s (2 * k + 1 + 1)), .int .i64 m] 110, pt b3 #[.int .i64 1, .int .i64 n, .int .i64 0, .slice a8 ((((nmL s m evn k) ++ [nm s m (2 * k)])).length) c9, .slice av ((nmL s m odd1 k).length) cv, .slice none 0 0] 56, own 3 1 (.slice a8 ((((nmL s m evn k) ++ [nm s m (2 * k)])).length) c9) ((((nmL s m evn k) ++ [nm s m (2 * k)])).length) ((((nmL s m evn k) ++ [nm s m (2 * k)])).map (Value.int .i64)), own 3 1 (.slice a13 ((((nmL s m odd1 k) ++ [nm s m (2 * k + 1)])).length) c14) ((((nmL s m odd1 k) ++ [nm s m (2 * k + 1)])).length) ((((nmL s m odd1 k) ++ [nm s m (2 * k + 1)])).map (Value.int .i64)), pt b1 #[.int .i64 0, .int .i64 0, .int .i64 0, .slice none 0 0, .slice none 0 0, .slice none 0 0] 56] _ := hM
    refine ⟨(((hM.drop 3).drop 2).drop 0), fun a hA => ?_⟩; rw [hl15] at hA; clear hl15
    refine D.valF hA rfl (fun _ => R.fieldAddr (q := 4) fi56_4 rfl rfl rfl) rfl ?_; clear hA a; intro a hA
    refine D.store (k := 1) hA hM rfl sz40 rfl rfl rfl rfl rfl ?_; clear hM
    intro w12 hM; refine ⟨fun _ hne => absurd rfl hne, ?_⟩
    replace hM : Mem _ _ [pt d #[.int .u64 (sd s (2 * k + 1 + 1)), .int .i64 m] 110, pt b3 #[.int .i64 1, .int .i64 n, .int .i64 0, .slice a8 ((((nmL s m evn k) ++ [nm s m (2 * k)])).length) c9, .slice a13 ((((nmL s m odd1 k) ++ [nm s m (2 * k + 1)])).length) c14, .slice none 0 0] 56, own 3 1 (.slice a8 ((((nmL s m evn k) ++ [nm s m (2 * k)])).length) c9) ((((nmL s m evn k) ++ [nm s m (2 * k)])).length) ((((nmL s m evn k) ++ [nm s m (2 * k)])).map (Value.int .i64)), own 3 1 (.slice a13 ((((nmL s m odd1 k) ++ [nm s m (2 * k + 1)])).length) c14) ((((nmL s m odd1 k) ++ [nm s m (2 * k + 1)])).length) ((((nmL s m odd1 k) ++ [nm s m (2 * k + 1)])).map (Value.int .i64)), pt b1 #[.int .i64 0, .int .i64 0, .int .i64 0, .slice none 0 0, .slice none 0 0, .slice none 0 0] 56] _ := hM
    refine D.done ?_
    replace hA : St 37 [(0, _), (4, _), (5, _), (6, _), (10, _), (11, _)] a := hA.sub ((.cons rfl (.cons rfl (.cons rfl (.cons rfl (.cons rfl (.cons rfl .nil)))))))
    refine Ends.inBlock ?_
    refine Ends.region ?_
    refine S.val hA (R.addI rfl rfl (r := ((k : Int)) + 1) rfl (by omega)) rfl ?_; clear hA a; intro a hA
    refine S.val hA (R.move rfl) rfl ?_; clear hA a; intro a hA
    refine S.done ?_
    replace hA : St 37 [(0, _), (4, _), (5, _), (6, _), (10, _), (11, _)] a := hA.sub ((.cons rfl (.cons rfl (.cons rfl (.cons rfl (.cons rfl (.cons rfl .nil)))))))
    rw [show nmL s m evn k ++ [nm s m (2 * k)] = nmL s m evn (k + 1) from nmL_succ s m evn k, show nmL s m odd1 k ++ [nm s m (2 * k + 1)] = nmL s m odd1 (k + 1) from nmL_succ s m odd1 k, show 2 * k + 1 + 1 = 2 * (k + 1) by omega] at hM
    rw [show (nmL s m evn k).sum + nm s m (2 * k) = (nmL s m evn (k + 1)).sum from (nmL_sumS s m evn k).symm] at hA
    replace hM := hM.front (k := 4) rfl
    replace hM := hM.front (k := 1) rfl
    replace hM := hM.front (k := 4) rfl
    replace hM := hM.front (k := 4) rfl
    replace hM := hM.front (k := 4) rfl
    exact hNext ((k + 1, a8, c9, a13, c14)) _ _ ((by show n.toNat - (k + 1) < n.toNat - k; omega)) ⟨hA.sub ((.cons rfl (.cons rfl (.cons rfl (.cons rfl (.cons rfl (.cons rfl .nil))))))), hM, (by omega)⟩
  ·
    obtain rfl : k = n.toNat := by omega
    have hsm := nmL_sum s m evn hm n.toNat
    refine Ends.exit rfl ?_
    replace hA : St 37 [(4, _), (5, _), (6, _)] a := hA.sub ((.cons rfl (.cons rfl (.cons rfl .nil))))
    refine Ends.seq ?_
    refine Ends.region ?_
    refine S.val hA (R.move rfl) rfl ?_; clear hA a; intro a hA
    refine S.val hA (R.quoI rfl rfl (r := (nmL s m evn n.toNat).sum / 2) rfl (by omega)) rfl ?_; clear hA a; intro a hA
    refine S.val hA (R.min rfl rfl) rfl ?_; clear hA a; intro a hA
    refine S.val hA (R.fieldAddr (q := 2) fi56_2 rfl rfl rfl) rfl ?_; clear hA a; intro a hA
    refine S.store (k := 0) hA hM sz3 rfl rfl rfl rfl rfl ?_; clear hM
    intro w13 hM
    replace hM : Mem _ _ [pt b3 #[.int .i64 1, .int .i64 n, .int .i64 (min ((nmL s m evn n.toNat).sum / 2) 2147483647), .slice aw ((nmL s m evn n.toNat).length) cw, .slice av ((nmL s m odd1 n.toNat).length) cv, .slice none 0 0] 56, own 3 1 (.slice aw (((nmL s m evn n.toNat)).length) cw) (((nmL s m evn n.toNat)).length) (((nmL s m evn n.toNat)).map (Value.int .i64)), own 3 1 (.slice av (((nmL s m odd1 n.toNat)).length) cv) (((nmL s m odd1 n.toNat)).length) (((nmL s m odd1 n.toNat)).map (Value.int .i64)), pt d #[.int .u64 (sd s (2 * n.toNat)), .int .i64 m] 110, pt b1 #[.int .i64 0, .int .i64 0, .int .i64 0, .slice none 0 0, .slice none 0 0, .slice none 0 0] 56] _ := hM
    refine S.done ?_
    replace hA : St 37 [(4, _), (5, _)] a := hA.sub ((.cons rfl (.cons rfl .nil)))
    refine Ends.seq ?_
    refine Ends.region ?_
    refine S.val hA (R.loadA sz56 rfl (hM.range (k := 0) rfl) rfl) rfl ?_; clear hA a; intro a hA
    refine S.storeA (k := 4) hA hM sz56 rfl rfl rfl rfl rfl rfl ?_; clear hM
    intro w14 hM
    replace hM : Mem _ _ [pt b3 #[.int .i64 1, .int .i64 n, .int .i64 (min ((nmL s m evn n.toNat).sum / 2) 2147483647), .slice aw ((nmL s m evn n.toNat).length) cw, .slice av ((nmL s m odd1 n.toNat).length) cv, .slice none 0 0] 56, own 3 1 (.slice aw (((nmL s m evn n.toNat)).length) cw) (((nmL s m evn n.toNat)).length) (((nmL s m evn n.toNat)).map (Value.int .i64)), own 3 1 (.slice av (((nmL s m odd1 n.toNat)).length) cv) (((nmL s m odd1 n.toNat)).length) (((nmL s m odd1 n.toNat)).map (Value.int .i64)), pt d #[.int .u64 (sd s (2 * n.toNat)), .int .i64 m] 110, pt b1 #[.int .i64 1, .int .i64 n, .int .i64 (min ((nmL s m evn n.toNat).sum / 2) 2147483647), .slice aw ((nmL s m evn n.toNat).length) cw, .slice av ((nmL s m odd1 n.toNat).length) cv, .slice none 0 0] 56] _ := hM
    refine S.done ?_
    replace hA : St 37 [(4, _)] a := hA.sub ((.cons rfl .nil))
    refine Ends.retC (k := 4) Try.func70 Try.results70 hA hM rfl rfl sz56 rfl ?_
    replace hM := hM.front (k := 3) rfl
    replace hM := hM.front (k := 3) rfl
    replace hM := hM.front (k := 3) rfl
    replace hM : Mem _ _ [own 3 1 (.slice aw (((nmL s m evn n.toNat)).length) cw) (((nmL s m evn n.toNat)).length) (((nmL s m evn n.toNat)).map (Value.int .i64)), own 3 1 (.slice av (((nmL s m odd1 n.toNat)).length) cv) (((nmL s m odd1 n.toNat)).length) (((nmL s m odd1 n.toNat)).map (Value.int .i64)), pt d #[.int .u64 (sd s (2 * n.toNat)), .int .i64 m] 110, pt b3 #[.int .i64 1, .int .i64 n, .int .i64 (min ((nmL s m evn n.toNat).sum / 2) 2147483647), .slice aw ((nmL s m evn n.toNat).length) cw, .slice av ((nmL s m odd1 n.toNat).length) cv, .slice none 0 0] 56, pt b1 #[.int .i64 1, .int .i64 n, .int .i64 (min ((nmL s m evn n.toNat).sum / 2) 2147483647), .slice aw ((nmL s m evn n.toNat).length) cw, .slice av ((nmL s m odd1 n.toNat).length) cv, .slice none 0 0] 56] _ := hM
    replace hM := hM.firstN 3
    replace hM : Mem _ _ [own 3 1 (.slice aw (((nmL s m evn n.toNat)).length) cw) (((nmL s m evn n.toNat)).length) (((nmL s m evn n.toNat)).map (Value.int .i64)), own 3 1 (.slice av (((nmL s m odd1 n.toNat)).length) cv) (((nmL s m odd1 n.toNat)).length) (((nmL s m odd1 n.toNat)).map (Value.int .i64)), pt d #[.int .u64 (sd s (2 * n.toNat)), .int .i64 m] 110] _ := hM
    replace hM := ((hM.bundleNil (e := 3)).ownNil 40 1)
    have hM1 := ((hM.front (k := 3) rfl).front (k := 3) rfl)
    refine ⟨aw, cw, av, cv, rfl, Mem.pack (cs := insL 3 40 (gK n m s) aw cw av cv none 0 []) hM1⟩
set_option maxRecDepth 100000 in
set_option maxHeartbeats 400000 in
theorem growsA (d : Nat) (n s m : Int) (hm : 0 ≤ m ∧ m ≤ 2147483647) (kd : Int) (hk : kd = 2 ∨ kd = 3) (hn : 1 ≤ n ∧ n ≤ 24) (w : World) (hM : Mem w (feet [pt d #[.int .u64 (sd s (0)), .int .i64 m] 110]) [pt d #[.int .u64 (sd s (0)), .int .i64 m] 110] w) :
    Calls Try.prog 71 #[.pointer (some ⟨d, 0, none⟩), .int .i64 kd, .int .i64 n] w fun e w' => ∃ ao co rs, e = .returned (insA (gR kd n m s) none 0 none 0 ao co rs) ∧ rs.map (·.Y) = rowsF kd s m n.toNat n.toNat ∧ Mem w (feet [pt d #[.int .u64 (sd s (0)), .int .i64 m] 110]) [bundle (insL 3 40 (gR kd n m s) none 0 none 0 ao co rs), pt d #[.int .u64 (sd s (rt kd n.toNat * n.toNat)), .int .i64 m] 110] w' := by
  have hM0 : True := trivial  -- have hM
  refine Calls.of_ends (vs := [.pointer (some ⟨d, 0, none⟩), .int .i64 kd, .int .i64 n]) Try.func71 rfl Try.ntmps71 rfl ?_
  intro a hA
  replace hA : St 46 [(0, _), (1, _), (2, _)] a := hA
  refine Ends.seq ?_
  refine Ends.region ?_
  refine S.alloc hA hM info56 rfl rfl ?_; clear hA hM a; intro b1 w1 hb2 hM a hA
  replace hM : Mem _ _ [pt b1 #[.int .i64 0, .int .i64 0, .int .i64 0, .slice none 0 0, .slice none 0 0, .slice none 0 0] 56, pt d #[.int .u64 (sd s (0)), .int .i64 m] 110] _ := hM
  refine S.done ?_
  replace hA : St 46 [(0, _), (1, _), (2, _), (6, _)] a := hA.sub ((.cons rfl (.cons rfl (.cons rfl (.cons rfl .nil)))))
  refine Ends.seq ?_
  refine Ends.region ?_
  refine S.val hA (R.move rfl) rfl ?_; clear hA a; intro a hA
  refine S.val hA (R.move rfl) rfl ?_; clear hA a; intro a hA
  refine S.val hA (R.build (cells := #[.int .i64 kd, .int .i64 n, .int .i64 0, .slice none 0 0, .slice none 0 0, .slice none 0 0]) rfl (by kernel_rfl)) rfl ?_; clear hA a; intro a hA
  refine S.alloc hA hM info56 rfl rfl ?_; clear hA hM a; intro b3 w2 hb4 hM a hA
  replace hM : Mem _ _ [pt b3 #[.int .i64 0, .int .i64 0, .int .i64 0, .slice none 0 0, .slice none 0 0, .slice none 0 0] 56, pt b1 #[.int .i64 0, .int .i64 0, .int .i64 0, .slice none 0 0, .slice none 0 0, .slice none 0 0] 56, pt d #[.int .u64 (sd s (0)), .int .i64 m] 110] _ := hM
  refine S.storeA (k := 0) hA hM sz56 rfl rfl rfl rfl rfl rfl ?_; clear hM
  intro w3 hM
  replace hM : Mem _ _ [pt b3 #[.int .i64 kd, .int .i64 n, .int .i64 0, .slice none 0 0, .slice none 0 0, .slice none 0 0] 56, pt b1 #[.int .i64 0, .int .i64 0, .int .i64 0, .slice none 0 0, .slice none 0 0, .slice none 0 0] 56, pt d #[.int .u64 (sd s (0)), .int .i64 m] 110] _ := hM
  refine S.done ?_
  replace hA : St 46 [(0, _), (1, _), (2, _), (6, _), (7, _)] a := hA.sub ((.cons rfl (.cons rfl (.cons rfl (.cons rfl (.cons rfl .nil))))))
  refine Ends.seq ?_
  refine Ends.seq ?_
  refine Ends.region ?_
  refine S.val hA (R.move rfl) rfl ?_; clear hA a; intro a hA
  refine S.val hA (R.move rfl) rfl ?_; clear hA a; intro a hA
  refine S.done ?_
  replace hA : St 46 [(0, _), (1, _), (2, _), (6, _), (7, _), (14, _), (15, _)] a := hA.sub ((.cons rfl (.cons rfl (.cons rfl (.cons rfl (.cons rfl (.cons rfl (.cons rfl .nil))))))))
  refine Ends.block ?_
  replace hM := (hM.bundleNil (e := 3)).ownNil 40 1
  replace hM := hM.front (k := 3) rfl
  replace hM := hM.front (k := 4) rfl
  replace hM := hM.front (k := 3) rfl
  replace hM := hM.front (k := 3) rfl
  replace hM := hM.front (k := 4) rfl
  skip
  replace hM : Mem _ _ [pt b3 #[.int .i64 kd, .int .i64 n, .int .i64 0, .slice none 0 0, .slice none 0 0, .slice none (([] : List OwR).length) 0] 56, own 40 1 (.slice none (([] : List OwR).length) 0) (([] : List OwR).length) ((([] : List OwR).map orV)), bundle (([] : List OwR).map (orC 3)), pt d #[.int .u64 (sd s (rt kd n.toNat * 0)), .int .i64 m] 110, pt b1 #[.int .i64 0, .int .i64 0, .int .i64 0, .slice none 0 0, .slice none 0 0, .slice none 0 0] 56] _ := hM
  refine Ends.loop (σ := Nat × Option Addr × Nat × List OwR) (fun (ar, ao, co, rs) (a : Act) (wv : World) => St 46 [(0, .pointer (some ⟨d, 0, none⟩)), (1, .int .i64 kd), (2, .int .i64 n), (6, .pointer (some ⟨b1, 0, none⟩)), (7, .pointer (some ⟨b3, 0, none⟩)), (14, .int .i64 n), (15, .int .i64 ((ar : Int)))] a ∧ Mem w (feet [pt d #[.int .u64 (sd s (0)), .int .i64 m] 110]) [pt b3 #[.int .i64 kd, .int .i64 n, .int .i64 0, .slice none 0 0, .slice none 0 0, .slice ao rs.length co] 56, own 40 1 (.slice ao rs.length co) rs.length ((rs.map orV)), bundle (rs.map (orC 3)), pt d #[.int .u64 (sd s (rt kd n.toNat * ar)), .int .i64 m] 110, pt b1 #[.int .i64 0, .int .i64 0, .int .i64 0, .slice none 0 0, .slice none 0 0, .slice none 0 0] 56] wv ∧ (ar ≤ n.toNat) ∧ (rs.map (·.Y) = rowsF kd s m n.toNat ar)) (fun (ar, ao, co, rs) => n.toNat - ar) ((0, none, 0, [])) ⟨hA.sub ((.cons rfl (.cons rfl (.cons rfl (.cons rfl (.cons rfl (.cons rfl (.cons rfl .nil)))))))), hM, (Nat.zero_le _), rfl⟩ ?_
  clear hA hM a
  rintro ⟨ar, ao, co, rs⟩ a w4 ⟨hA, hM, ha, hY⟩ hNext
  refine Ends.seq ?_
  refine Ends.region ?_
  refine S.val hA (R.lss rfl rfl) rfl ?_; clear hA a; intro a hA
  refine S.done ?_
  replace hA : St 46 [(0, _), (1, _), (2, _), (6, _), (7, _), (14, _), (15, _), (16, _)] a := hA.sub ((.cons rfl (.cons rfl (.cons rfl (.cons rfl (.cons rfl (.cons rfl (.cons rfl (.cons rfl .nil)))))))))
  refine Ends.seq ?_
  refine Ends.ite hA rfl (fun hc5 => ?_) (fun hc5 => ?_)
  ·
    refine Ends.skip ?_
    refine Ends.seq ?_
    refine Ends.block ?_
    refine Ends.seq ?_
    refine Ends.region ?_
    refine S.val hA (R.move rfl) rfl ?_; clear hA a; intro a hA
    refine S.val hA (R.assign rfl) rfl ?_; clear hA a; intro a hA
    refine S.done ?_
    replace hA : St 46 [(0, _), (1, _), (2, _), (6, _), (7, _), (8, _), (14, _), (15, _)] a := hA.sub ((.cons rfl (.cons rfl (.cons rfl (.cons rfl (.cons rfl (.cons rfl (.cons rfl (.cons rfl .nil)))))))))
    refine Ends.seq ?_
    refine Ends.region ?_
    refine S.val hA (R.move rfl) rfl ?_; clear hA a; intro a hA
    refine S.make hA hM Try.underlying40 info3 rfl rfl rfl (by omega) (by show (8 : Int) * _ ≤ _; omega) (by omega) rfl ?_; clear hA hM a; intro b6 w5 hb7 hM a hA
    replace hM : Mem _ _ [pt b6 (madeCells #[.int .i64 0] (n.toNat * 1)) 3, pt b3 #[.int .i64 kd, .int .i64 n, .int .i64 0, .slice none 0 0, .slice none 0 0, .slice ao rs.length co] 56, own 40 1 (.slice ao rs.length co) rs.length ((rs.map orV)), bundle (rs.map (orC 3)), pt d #[.int .u64 (sd s (rt kd n.toNat * ar)), .int .i64 m] 110, pt b1 #[.int .i64 0, .int .i64 0, .int .i64 0, .slice none 0 0, .slice none 0 0, .slice none 0 0] 56] _ := hM
    rw [Nat.mul_one, made_ints] at hM
    replace hM : Mem _ _ [pt b6 ((ints (List.replicate n.toNat 0))) 3, pt b3 #[.int .i64 kd, .int .i64 n, .int .i64 0, .slice none 0 0, .slice none 0 0, .slice ao rs.length co] 56, own 40 1 (.slice ao rs.length co) rs.length ((rs.map orV)), bundle (rs.map (orC 3)), pt d #[.int .u64 (sd s (rt kd n.toNat * ar)), .int .i64 m] 110, pt b1 #[.int .i64 0, .int .i64 0, .int .i64 0, .slice none 0 0, .slice none 0 0, .slice none 0 0] 56] _ := hM
    refine S.val hA (R.assign rfl) rfl ?_; clear hA a; intro a hA
    refine S.done ?_
    replace hA : St 46 [(0, _), (1, _), (2, _), (6, _), (7, _), (8, _), (9, _), (14, _), (15, _)] a := hA.sub ((.cons rfl (.cons rfl (.cons rfl (.cons rfl (.cons rfl (.cons rfl (.cons rfl (.cons rfl (.cons rfl .nil))))))))))
    refine Ends.seq ?_
    refine Ends.seq ?_
    refine Ends.region ?_
    refine S.val hA (R.move rfl) rfl ?_; clear hA a; intro a hA
    refine S.val hA (R.lenS Try.underlying40 rfl rfl) rfl ?_; clear hA a; intro a hA
    refine S.val hA (R.move rfl) rfl ?_; clear hA a; intro a hA
    refine S.done ?_
    replace hA : St 46 [(0, _), (1, _), (2, _), (6, _), (7, _), (8, _), (9, _), (14, _), (15, _), (21, _), (22, _)] a := hA.sub ((.cons rfl (.cons rfl (.cons rfl (.cons rfl (.cons rfl (.cons rfl (.cons rfl (.cons rfl (.cons rfl (.cons rfl (.cons rfl .nil))))))))))))
    refine Ends.block ?_
    have hln : rs.length = ar := by have := congrArg List.length hY; simpa [rowsF] using this
    replace hM := hM.front (k := 5) rfl
    replace hM := hM.front (k := 4) rfl
    replace hM := hM.front (k := 4) rfl
    replace hM := hM.front (k := 4) rfl
    replace hM := hM.front (k := 5) rfl
    replace hM := hM.front (k := 5) rfl
    rw [show rt kd n.toNat * ar = rt kd n.toNat * ar + cb kd ar 0 by rw [cb_zero]; rfl] at hM
    replace hM : Mem _ _ [pt b6 ((ints (rowF kd s m n.toNat ar 0 ++ List.replicate (n.toNat - 0) 0))) 3, pt d #[.int .u64 (sd s (rt kd n.toNat * ar + cb kd ar 0)), .int .i64 m] 110, pt b3 #[.int .i64 kd, .int .i64 n, .int .i64 0, .slice none 0 0, .slice none 0 0, .slice ao rs.length co] 56, own 40 1 (.slice ao rs.length co) rs.length ((rs.map orV)), bundle (rs.map (orC 3)), pt b1 #[.int .i64 0, .int .i64 0, .int .i64 0, .slice none 0 0, .slice none 0 0, .slice none 0 0] 56] _ := hM
    refine Ends.loop (σ := Nat) (fun q (a : Act) (wv : World) => St 46 [(0, .pointer (some ⟨d, 0, none⟩)), (1, .int .i64 kd), (2, .int .i64 n), (6, .pointer (some ⟨b1, 0, none⟩)), (7, .pointer (some ⟨b3, 0, none⟩)), (8, .int .i64 ((ar : Int))), (9, .slice (some ⟨b6, 0, none⟩) n.toNat n.toNat), (14, .int .i64 n), (15, .int .i64 ((ar : Int))), (21, .int .i64 ((n.toNat : Int))), (22, .int .i64 ((q : Int)))] a ∧ Mem w (feet [pt d #[.int .u64 (sd s (0)), .int .i64 m] 110]) [pt b6 ((ints (rowF kd s m n.toNat ar q ++ List.replicate (n.toNat - q) 0))) 3, pt d #[.int .u64 (sd s (rt kd n.toNat * ar + cb kd ar q)), .int .i64 m] 110, pt b3 #[.int .i64 kd, .int .i64 n, .int .i64 0, .slice none 0 0, .slice none 0 0, .slice ao rs.length co] 56, own 40 1 (.slice ao rs.length co) rs.length ((rs.map orV)), bundle (rs.map (orC 3)), pt b1 #[.int .i64 0, .int .i64 0, .int .i64 0, .slice none 0 0, .slice none 0 0, .slice none 0 0] 56] wv ∧ (q ≤ n.toNat)) (fun q => n.toNat - q) 0 ⟨hA.sub ((.cons rfl (.cons rfl (.cons rfl (.cons rfl (.cons rfl (.cons rfl (.cons rfl (.cons rfl (.cons rfl (.cons rfl (.cons rfl .nil)))))))))))), hM, (Nat.zero_le _)⟩ ?_
    clear hA hM a
    rintro q a w6 ⟨hA, hM, hq⟩ hNext1
    refine Ends.seq ?_
    refine Ends.region ?_
    refine S.val hA (R.lss rfl rfl) rfl ?_; clear hA a; intro a hA
    refine S.done ?_
    replace hA : St 46 [(0, _), (1, _), (2, _), (6, _), (7, _), (8, _), (9, _), (14, _), (15, _), (21, _), (22, _), (23, _)] a := hA.sub ((.cons rfl (.cons rfl (.cons rfl (.cons rfl (.cons rfl (.cons rfl (.cons rfl (.cons rfl (.cons rfl (.cons rfl (.cons rfl (.cons rfl .nil)))))))))))))
    refine Ends.seq ?_
    refine Ends.ite hA rfl (fun hc8 => ?_) (fun hc8 => ?_)
    ·
      refine Ends.skip ?_
      refine Ends.seq ?_
      refine Ends.block ?_
      refine Ends.seq ?_
      refine Ends.region ?_
      refine S.val hA (R.move rfl) rfl ?_; clear hA a; intro a hA
      refine S.val hA (R.assign rfl) rfl ?_; clear hA a; intro a hA
      refine S.done ?_
      replace hA : St 46 [(0, _), (1, _), (2, _), (6, _), (7, _), (8, _), (9, _), (10, _), (14, _), (15, _), (21, _), (22, _)] a := hA.sub ((.cons rfl (.cons rfl (.cons rfl (.cons rfl (.cons rfl (.cons rfl (.cons rfl (.cons rfl (.cons rfl (.cons rfl (.cons rfl (.cons rfl .nil)))))))))))))
      refine Ends.seq ?_
      refine Ends.cut (fun (a : Act) (wv : World) => St 46 [(0, .pointer (some ⟨d, 0, none⟩)), (1, .int .i64 kd), (2, .int .i64 n), (6, .pointer (some ⟨b1, 0, none⟩)), (7, .pointer (some ⟨b3, 0, none⟩)), (8, .int .i64 ((ar : Int))), (9, .slice (some ⟨b6, 0, none⟩) n.toNat n.toNat), (10, .int .i64 ((q : Int))), (14, .int .i64 n), (15, .int .i64 ((ar : Int))), (21, .int .i64 ((n.toNat : Int))), (22, .int .i64 ((q : Int))), (31, .bool (decide ((kd ≠ 3 ∨ ((ar : Int)) ≠ ((q : Int))))))] a ∧ Mem w (feet [pt d #[.int .u64 (sd s (0)), .int .i64 m] 110]) [pt b6 ((ints (rowF kd s m n.toNat ar q ++ List.replicate (n.toNat - q) 0))) 3, pt d #[.int .u64 (sd s (rt kd n.toNat * ar + cb kd ar q)), .int .i64 m] 110, pt b3 #[.int .i64 kd, .int .i64 n, .int .i64 0, .slice none 0 0, .slice none 0 0, .slice ao rs.length co] 56, own 40 1 (.slice ao rs.length co) rs.length ((rs.map orV)), bundle (rs.map (orC 3)), pt b1 #[.int .i64 0, .int .i64 0, .int .i64 0, .slice none 0 0, .slice none 0 0, .slice none 0 0] 56] wv) ?_ (fun k2 hJ => ?_)
      · clear hA hM a; rintro a w7 ⟨hA, hM⟩
        refine Ends.ite hA rfl (fun hc9 => ?_) (fun hc9 => ?_)
        ·
          have hlen : (rowF kd s m n.toNat ar q ++ List.replicate (n.toNat - q) 0).length = n.toNat := by rw [List.length_append, rowF_len, List.length_replicate]; omega
          refine Ends.region ?_
          refine S.val hA (R.move rfl) rfl ?_; clear hA a; intro a hA
          refine S.val hA (R.move rfl) rfl ?_; clear hA a; intro a hA
          refine S.val hA (R.move rfl) rfl ?_; clear hA a; intro a hA
          replace hM := hM.front (k := 1) rfl
          replace hM : Mem _ _ [pt d #[.int .u64 (sd s (rt kd n.toNat * ar + cb kd ar q)), .int .i64 m] 110, pt b6 ((ints (rowF kd s m n.toNat ar q ++ List.replicate (n.toNat - q) 0))) 3, pt b3 #[.int .i64 kd, .int .i64 n, .int .i64 0, .slice none 0 0, .slice none 0 0, .slice ao rs.length co] 56, own 40 1 (.slice ao rs.length co) rs.length ((rs.map orV)), bundle (rs.map (orC 3)), pt b1 #[.int .i64 0, .int .i64 0, .int .i64 0, .slice none 0 0, .slice none 0 0, .slice none 0 0] 56] _ := hM
          refine S.call hA (R.callF Try.func80 rfl rfl rfl) rfl (gnext d (sd s (rt kd n.toNat * ar + cb kd ar q)) m hm _ (hM.hereN 1)) ?_; clear hA a
          rintro e w8 ⟨rfl, hn⟩
          replace hM : Mem _ _ [pt d #[.int .u64 (sd s (rt kd n.toNat * ar + cb kd ar q + 1)), .int .i64 m] 110, pt b6 ((ints (rowF kd s m n.toNat ar q ++ List.replicate (n.toNat - q) 0))) 3, pt b3 #[.int .i64 kd, .int .i64 n, .int .i64 0, .slice none 0 0, .slice none 0 0, .slice ao rs.length co] 56, own 40 1 (.slice ao rs.length co) rs.length ((rs.map orV)), bundle (rs.map (orC 3)), pt b1 #[.int .i64 0, .int .i64 0, .int .i64 0, .slice none 0 0, .slice none 0 0, .slice none 0 0] 56] _ := hM.callL 1 hn; clear hn
          refine ⟨.int .i64 (nm s m (rt kd n.toNat * ar + cb kd ar q)), rfl, fun a hA => ?_⟩
          refine S.val hA (R.indexAddr (q := q) sl40 rfl rfl (by omega) (by omega)) rfl ?_; clear hA a; intro a hA
          refine S.store (k := 1) hA hM sz3 rfl rfl rfl rfl (ints_getD ((rowF kd s m n.toNat ar q ++ List.replicate (n.toNat - q) 0)) _ (by omega)) ?_; clear hM
          intro w9 hM
          rw [ints_set] at hM
          replace hM : Mem _ _ [pt d #[.int .u64 (sd s (rt kd n.toNat * ar + cb kd ar q + 1)), .int .i64 m] 110, pt b6 ((ints (((rowF kd s m n.toNat ar q ++ List.replicate (n.toNat - q) 0)).set q (nm s m (rt kd n.toNat * ar + cb kd ar q))))) 3, pt b3 #[.int .i64 kd, .int .i64 n, .int .i64 0, .slice none 0 0, .slice none 0 0, .slice ao rs.length co] 56, own 40 1 (.slice ao rs.length co) rs.length ((rs.map orV)), bundle (rs.map (orC 3)), pt b1 #[.int .i64 0, .int .i64 0, .int .i64 0, .slice none 0 0, .slice none 0 0, .slice none 0 0] 56] _ := hM
          refine S.done ?_
          replace hA : St 46 [(0, _), (1, _), (2, _), (6, _), (7, _), (8, _), (9, _), (14, _), (15, _), (21, _), (22, _)] a := hA.sub ((.cons rfl (.cons rfl (.cons rfl (.cons rfl (.cons rfl (.cons rfl (.cons rfl (.cons rfl (.cons rfl (.cons rfl (.cons rfl .nil))))))))))))
          refine Ends.inBlock ?_
          refine Ends.region ?_
          refine S.val hA (R.addI rfl rfl (r := ((q : Int)) + 1) rfl (by omega)) rfl ?_; clear hA a; intro a hA
          refine S.val hA (R.move rfl) rfl ?_; clear hA a; intro a hA
          refine S.done ?_
          replace hA : St 46 [(0, _), (1, _), (2, _), (6, _), (7, _), (8, _), (9, _), (14, _), (15, _), (21, _), (22, _)] a := hA.sub ((.cons rfl (.cons rfl (.cons rfl (.cons rfl (.cons rfl (.cons rfl (.cons rfl (.cons rfl (.cons rfl (.cons rfl (.cons rfl .nil))))))))))))
          have hns : ¬ (kd = 3 ∧ ar = q) := by have h9 := hc9; omega
          rw [show nm s m (rt kd n.toNat * ar + cb kd ar q) = ent kd s m n.toNat ar q from (ent_step hns).symm, grow_set kd s m n.toNat ar q n.toNat (by omega), show rt kd n.toNat * ar + cb kd ar q + 1 = rt kd n.toNat * ar + cb kd ar (q + 1) by rw [cb_step hns]; omega] at hM
          replace hM := hM.front (k := 5) rfl
          replace hM := hM.front (k := 5) rfl
          replace hM := hM.front (k := 5) rfl
          replace hM := hM.front (k := 5) rfl
          replace hM := hM.front (k := 4) rfl
          replace hM := hM.front (k := 5) rfl
          exact hNext1 ((q + 1)) _ _ ((by show n.toNat - (q + 1) < n.toNat - q; omega)) ⟨hA.sub ((.cons rfl (.cons rfl (.cons rfl (.cons rfl (.cons rfl (.cons rfl (.cons rfl (.cons rfl (.cons rfl (.cons rfl (.cons rfl .nil)))))))))))), hM, (by omega)⟩
        ·
          have hlen : (rowF kd s m n.toNat ar q ++ List.replicate (n.toNat - q) 0).length = n.toNat := by rw [List.length_append, rowF_len, List.length_replicate]; omega
          refine Ends.skip ?_
          refine Ends.inBlock ?_
          refine Ends.region ?_
          refine S.val hA (R.addI rfl rfl (r := ((q : Int)) + 1) rfl (by omega)) rfl ?_; clear hA a; intro a hA
          refine S.val hA (R.move rfl) rfl ?_; clear hA a; intro a hA
          refine S.done ?_
          replace hA : St 46 [(0, _), (1, _), (2, _), (6, _), (7, _), (8, _), (9, _), (14, _), (15, _), (21, _), (22, _)] a := hA.sub ((.cons rfl (.cons rfl (.cons rfl (.cons rfl (.cons rfl (.cons rfl (.cons rfl (.cons rfl (.cons rfl (.cons rfl (.cons rfl .nil))))))))))))
          have hns : kd = 3 ∧ ar = q := by have h9 := hc9; omega
          rw [grow_skip kd s m n.toNat ar q n.toNat (by omega) (ent_skip hns), ← cb_skip hns] at hM
          replace hM := hM.front (k := 5) rfl
          replace hM := hM.front (k := 5) rfl
          replace hM := hM.front (k := 5) rfl
          replace hM := hM.front (k := 5) rfl
          replace hM := hM.front (k := 5) rfl
          replace hM := hM.front (k := 5) rfl
          exact hNext1 ((q + 1)) _ _ ((by show n.toNat - (q + 1) < n.toNat - q; omega)) ⟨hA.sub ((.cons rfl (.cons rfl (.cons rfl (.cons rfl (.cons rfl (.cons rfl (.cons rfl (.cons rfl (.cons rfl (.cons rfl (.cons rfl .nil)))))))))))), hM, (by omega)⟩
      ·
        refine Ends.region ?_
        refine S.val hA (R.move rfl) rfl ?_; clear hA a; intro a hA
        refine S.val hA (R.neq rfl rfl) rfl ?_; clear hA a; intro a hA
        refine S.val hA (R.move rfl) rfl ?_; clear hA a; intro a hA
        refine hA.split (d := 27) rfl ?_ ?_
        · clear hA; intro hg10 hA
          refine S.no (dj := 27) hA (by kernel_rfl) rfl rfl rfl ?_; clear hA a; intro a hA
          refine S.no (dj := 27) hA (by kernel_rfl) rfl rfl rfl ?_; clear hA a; intro a hA
          refine S.no (dj := 27) hA (by kernel_rfl) rfl rfl rfl ?_; clear hA a; intro a hA
          refine S.val hA (R.pickT rfl rfl) rfl ?_; clear hA a; intro a hA
          refine S.done ?_
          replace hA : St 46 [(0, _), (1, _), (2, _), (6, _), (7, _), (8, _), (9, _), (10, _), (14, _), (15, _), (21, _), (22, _), (31, _)] a := hA.sub ((.cons rfl (.cons rfl (.cons rfl (.cons rfl (.cons rfl (.cons rfl (.cons rfl (.cons rfl (.cons rfl (.cons rfl (.cons rfl (.cons rfl (.cons rfl .nil))))))))))))))
          exact hJ _ _ ⟨hA.sub (.cons rfl (.cons rfl (.cons rfl (.cons rfl (.cons rfl (.cons rfl (.cons rfl (.cons rfl (.cons rfl (.cons rfl (.cons rfl (.cons rfl (.cons (by first | rfl | exact congrArg (fun b => some (Value.bool b)) (by first | (simp; done) | (simp [hg10]; done) | (have h80 := hg10; (try simp at h80); simp [h80]; done) | exact (decide_eq_false (fun h9 => hg10 h9.1)).symm)) .nil))))))))))))), hM⟩
        · clear hA; intro hg10 hA
          refine S.valg (dj := 27) hA (by kernel_rfl) rfl (R.move rfl) rfl ?_; clear hA a; intro a hA
          refine S.valg (dj := 27) hA (by kernel_rfl) rfl (R.move rfl) rfl ?_; clear hA a; intro a hA
          refine S.valg (dj := 27) hA (by kernel_rfl) rfl (R.neq rfl rfl) rfl ?_; clear hA a; intro a hA
          refine S.val hA (R.pickF rfl rfl) rfl ?_; clear hA a; intro a hA
          refine S.done ?_
          replace hA : St 46 [(0, _), (1, _), (2, _), (6, _), (7, _), (8, _), (9, _), (10, _), (14, _), (15, _), (21, _), (22, _), (31, _)] a := hA.sub ((.cons rfl (.cons rfl (.cons rfl (.cons rfl (.cons rfl (.cons rfl (.cons rfl (.cons rfl (.cons rfl (.cons rfl (.cons rfl (.cons rfl (.cons rfl .nil))))))))))))))
          exact hJ _ _ ⟨hA.sub (.cons rfl (.cons rfl (.cons rfl (.cons rfl (.cons rfl (.cons rfl (.cons rfl (.cons rfl (.cons rfl (.cons rfl (.cons rfl (.cons rfl (.cons (by first | rfl | exact congrArg (fun b => some (Value.bool b)) (by first | (simp; done) | (simp [hg10]; done) | (have h80 := hg10; (try simp at h80); simp [h80]; done) | exact (decide_eq_false (fun h9 => hg10 h9.1)).symm)) .nil))))))))))))), hM⟩
    ·
      have hqn : q = n.toNat := by omega
      rw [hqn, Nat.sub_self, List.replicate_zero, List.append_nil, cb_end (show ar < n.toNat by omega)] at hM
      replace hM := hM.rowOwn (n := n.toNat) (rowF_len _ _ _ _ _ _) (by omega)
      replace hM : Mem _ _ [orC 3 ⟨rowF kd s m n.toNat ar n.toNat, some ⟨b6, 0, none⟩, n.toNat⟩, pt d #[.int .u64 (sd s (rt kd n.toNat * ar + rt kd n.toNat)), .int .i64 m] 110, pt b3 #[.int .i64 kd, .int .i64 n, .int .i64 0, .slice none 0 0, .slice none 0 0, .slice ao rs.length co] 56, own 40 1 (.slice ao rs.length co) rs.length ((rs.map orV)), bundle (rs.map (orC 3)), pt b1 #[.int .i64 0, .int .i64 0, .int .i64 0, .slice none 0 0, .slice none 0 0, .slice none 0 0] 56] _ := hM
      refine Ends.exit rfl ?_
      replace hA : St 46 [(0, _), (1, _), (2, _), (6, _), (7, _), (9, _), (14, _), (15, _)] a := hA.sub ((.cons rfl (.cons rfl (.cons rfl (.cons rfl (.cons rfl (.cons rfl (.cons rfl (.cons rfl .nil)))))))))
      refine Ends.region ?_
      refine S.val hA (R.fieldAddr (q := 5) fi56_5 rfl rfl rfl) rfl ?_; clear hA a; intro a hA
      refine S.val hA (R.load sz54 rfl (hM.cell (k := 2) rfl rfl)) rfl ?_; clear hA a; intro a hA
      refine S.val hA (R.move rfl) rfl ?_; clear hA a; intro a hA
      refine S.buildSl (cells := #[.slice (some ⟨b6, 0, none⟩) n.toNat n.toNat]) hA hM Try.underlying54 info40 rfl rfl rfl rfl (by kernel_rfl) rfl ?_; clear hA hM a; intro b11 w10 hb12 hM a hA
      replace hM : Mem _ _ [pt b11 #[.slice (some ⟨b6, 0, none⟩) n.toNat n.toNat] 40, orC 3 ⟨rowF kd s m n.toNat ar n.toNat, some ⟨b6, 0, none⟩, n.toNat⟩, pt d #[.int .u64 (sd s (rt kd n.toNat * ar + rt kd n.toNat)), .int .i64 m] 110, pt b3 #[.int .i64 kd, .int .i64 n, .int .i64 0, .slice none 0 0, .slice none 0 0, .slice ao rs.length co] 56, own 40 1 (.slice ao rs.length co) rs.length ((rs.map orV)), bundle (rs.map (orC 3)), pt b1 #[.int .i64 0, .int .i64 0, .int .i64 0, .slice none 0 0, .slice none 0 0, .slice none 0 0] 56] _ := hM
      refine S.append (k := 4) (k2 := 0) hA hM rfl rfl Try.underlying54 info40 rfl rfl rfl rfl rfl rfl rfl rfl rfl (by first | omega | (show (_ + 1) * 24 ≤ 140737488355328; omega) | (unfold maxLen; omega)) (by first | omega | (show (_ + 1) * 24 ≤ 140737488355328; omega) | (unfold maxLen; omega)) rfl ?_; clear hA hM a; intro a13 c14 w11 hM a hA
      replace hM : Mem _ _ [pt b11 #[.slice (some ⟨b6, 0, none⟩) n.toNat n.toNat] 40, orC 3 ⟨rowF kd s m n.toNat ar n.toNat, some ⟨b6, 0, none⟩, n.toNat⟩, pt d #[.int .u64 (sd s (rt kd n.toNat * ar + rt kd n.toNat)), .int .i64 m] 110, pt b3 #[.int .i64 kd, .int .i64 n, .int .i64 0, .slice none 0 0, .slice none 0 0, .slice ao rs.length co] 56, own 40 1 (.slice a13 (rs.length + 1) c14) (rs.length + 1) (((rs.map orV) ++ [.slice (some ⟨b6, 0, none⟩) n.toNat n.toNat])), bundle (rs.map (orC 3)), pt b1 #[.int .i64 0, .int .i64 0, .int .i64 0, .slice none 0 0, .slice none 0 0, .slice none 0 0] 56] _ := hM
      replace hM := hM.drop 0
      replace hM : Mem _ _ [orC 3 ⟨rowF kd s m n.toNat ar n.toNat, some ⟨b6, 0, none⟩, n.toNat⟩, pt d #[.int .u64 (sd s (rt kd n.toNat * ar + rt kd n.toNat)), .int .i64 m] 110, pt b3 #[.int .i64 kd, .int .i64 n, .int .i64 0, .slice none 0 0, .slice none 0 0, .slice ao rs.length co] 56, own 40 1 (.slice a13 (rs.length + 1) c14) (rs.length + 1) (((rs.map orV) ++ [.slice (some ⟨b6, 0, none⟩) n.toNat n.toNat])), bundle (rs.map (orC 3)), pt b1 #[.int .i64 0, .int .i64 0, .int .i64 0, .slice none 0 0, .slice none 0 0, .slice none 0 0] 56] _ := hM
      refine S.val hA (R.fieldAddr (q := 5) fi56_5 rfl rfl rfl) rfl ?_; clear hA a; intro a hA
      refine S.store (k := 2) hA hM sz54 rfl rfl rfl rfl rfl ?_; clear hM
      intro w12 hM
      replace hM : Mem _ _ [orC 3 ⟨rowF kd s m n.toNat ar n.toNat, some ⟨b6, 0, none⟩, n.toNat⟩, pt d #[.int .u64 (sd s (rt kd n.toNat * ar + rt kd n.toNat)), .int .i64 m] 110, pt b3 #[.int .i64 kd, .int .i64 n, .int .i64 0, .slice none 0 0, .slice none 0 0, .slice a13 (rs.length + 1) c14] 56, own 40 1 (.slice a13 (rs.length + 1) c14) (rs.length + 1) (((rs.map orV) ++ [.slice (some ⟨b6, 0, none⟩) n.toNat n.toNat])), bundle (rs.map (orC 3)), pt b1 #[.int .i64 0, .int .i64 0, .int .i64 0, .slice none 0 0, .slice none 0 0, .slice none 0 0] 56] _ := hM
      refine S.done ?_
      replace hA : St 46 [(0, _), (1, _), (2, _), (6, _), (7, _), (14, _), (15, _)] a := hA.sub ((.cons rfl (.cons rfl (.cons rfl (.cons rfl (.cons rfl (.cons rfl (.cons rfl .nil))))))))
      refine Ends.inBlock ?_
      refine Ends.region ?_
      refine S.val hA (R.addI rfl rfl (r := ((ar : Int)) + 1) rfl (by omega)) rfl ?_; clear hA a; intro a hA
      refine S.val hA (R.move rfl) rfl ?_; clear hA a; intro a hA
      refine S.done ?_
      replace hA : St 46 [(0, _), (1, _), (2, _), (6, _), (7, _), (14, _), (15, _)] a := hA.sub ((.cons rfl (.cons rfl (.cons rfl (.cons rfl (.cons rfl (.cons rfl (.cons rfl .nil))))))))
      rw [show (Value.slice (some ⟨b6, 0, none⟩) n.toNat n.toNat) = orV ⟨rowF kd s m n.toNat ar n.toNat, some ⟨b6, 0, none⟩, n.toNat⟩ by simp [orV, rowF_len], orV_snoc, len_snoc rs ⟨rowF kd s m n.toNat ar n.toNat, some ⟨b6, 0, none⟩, n.toNat⟩] at hM
      replace hM := hM.front (k := 4) rfl
      replace hM := hM.front (k := 1) rfl
      replace hM := hM.bundleSnoc
      replace hM := hM.front (k := 4) rfl
      replace hM := hM.front (k := 2) rfl
      replace hM := hM.front (k := 2) rfl
      replace hM := hM.front (k := 4) rfl
      replace hM := hM.front (k := 4) rfl
      rw [show rt kd n.toNat * ar + rt kd n.toNat = rt kd n.toNat * (ar + 1) from rfl] at hM
      exact hNext ((ar + 1, a13, c14, rs ++ [⟨rowF kd s m n.toNat ar n.toNat, some ⟨b6, 0, none⟩, n.toNat⟩])) _ _ ((by show n.toNat - (ar + 1) < n.toNat - ar; omega)) ⟨hA.sub ((.cons rfl (.cons rfl (.cons rfl (.cons rfl (.cons rfl (.cons rfl (.cons rfl .nil)))))))), hM, (by omega), (Y_snoc hY)⟩
  ·
    obtain rfl : ar = n.toNat := by omega
    refine Ends.exit rfl ?_
    replace hA : St 46 [(6, _), (7, _)] a := hA.sub ((.cons rfl (.cons rfl .nil)))
    refine Ends.seq ?_
    refine Ends.region ?_
    refine S.val hA (R.loadA sz56 rfl (hM.range (k := 0) rfl) rfl) rfl ?_; clear hA a; intro a hA
    refine S.storeA (k := 4) hA hM sz56 rfl rfl rfl rfl rfl rfl ?_; clear hM
    intro w13 hM
    replace hM : Mem _ _ [pt b3 #[.int .i64 kd, .int .i64 n, .int .i64 0, .slice none 0 0, .slice none 0 0, .slice ao rs.length co] 56, own 40 1 (.slice ao rs.length co) rs.length ((rs.map orV)), bundle (rs.map (orC 3)), pt d #[.int .u64 (sd s (rt kd n.toNat * n.toNat)), .int .i64 m] 110, pt b1 #[.int .i64 kd, .int .i64 n, .int .i64 0, .slice none 0 0, .slice none 0 0, .slice ao rs.length co] 56] _ := hM
    refine S.done ?_
    replace hA : St 46 [(6, _)] a := hA.sub ((.cons rfl .nil))
    refine Ends.retC (k := 4) Try.func71 Try.results71 hA hM rfl rfl sz56 rfl ?_
    replace hM := hM.front (k := 3) rfl
    replace hM := hM.front (k := 3) rfl
    replace hM := hM.front (k := 3) rfl
    replace hM : Mem _ _ [own 40 1 (.slice ao rs.length co) rs.length ((rs.map orV)), bundle (rs.map (orC 3)), pt d #[.int .u64 (sd s (rt kd n.toNat * n.toNat)), .int .i64 m] 110, pt b3 #[.int .i64 kd, .int .i64 n, .int .i64 0, .slice none 0 0, .slice none 0 0, .slice ao rs.length co] 56, pt b1 #[.int .i64 kd, .int .i64 n, .int .i64 0, .slice none 0 0, .slice none 0 0, .slice ao rs.length co] 56] _ := hM
    replace hM := hM.firstN 3
    replace hM : Mem _ _ [own 40 1 (.slice ao rs.length co) rs.length ((rs.map orV)), bundle (rs.map (orC 3)), pt d #[.int .u64 (sd s (rt kd n.toNat * n.toNat)), .int .i64 m] 110] _ := hM
    replace hM := ((hM.ownNil 3 1).ownNil 3 1)
    refine ⟨ao, co, rs, rfl, hY, Mem.pack (cs := insL 3 40 (gR kd n m s) none 0 none 0 ao co rs) hM⟩
end Go.Proofs.Ytlkemphhbamcfaa
