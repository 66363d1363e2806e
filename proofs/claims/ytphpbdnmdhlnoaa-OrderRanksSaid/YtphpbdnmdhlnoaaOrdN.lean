/-
  The order of a rank, by the program and by the reference.
-/
import Derived.Test.YtphpbdnmdhlnoaaOrdZ
namespace Go.Proofs.Ytphpbdnmdhlnoaa
open Go.RowKit
set_option maxRecDepth 100000 in
set_option maxHeartbeats 400000 in
theorem nth_bad1 (n rk_ : Int) (hn : ¬ (0 ≤ n ∧ n ≤ 20)) (w : World) :
    Calls Try.prog 22 #[.int .i64 n, .int .i64 rk_] w fun e w' => ∃ a c, e = .returned (.tuple #[.slice a (nthV n rk_).length c, .int .i64 (nthE n rk_)]) ∧ IntSl w' (.slice a (nthV n rk_).length c) (nthV n rk_) ∧ Below w.heap.size w w' := by
  have hbs := Below.refl (B := w.heap.size) w
  have hM := Mem.start w
  refine Calls.of_ends (vs := [.int .i64 n, .int .i64 rk_]) Try.func22 rfl Try.ntmps22 rfl ?_
  intro a hA
  replace hA : St 65 [(0, _), (1, _)] a := hA
  refine Ends.seq ?_
  refine Ends.region ?_
  refine S.val hA (R.assign rfl) rfl ?_; clear hA a; intro a hA
  refine S.val hA (R.assign rfl) rfl ?_; clear hA a; intro a hA
  refine S.done ?_
  replace hA : St 65 [(0, _), (1, _)] a := hA.sub ((.cons rfl (.cons rfl .nil)))
  refine Ends.seq ?_
  refine Ends.seq ?_
  refine Ends.cut (fun (a : Act) (wv : World) => St 65 [(0, .int .i64 n), (1, .int .i64 rk_), (17, .bool (decide ((n < 0 ∨ 20 < n))))] a ∧ Mem w nof [] wv) ?_ (fun k2 hJ => ?_)
  · clear hA hM a; rintro a w1 ⟨hA, hM⟩
    refine Ends.ite hA rfl (fun hc1 => ?_) (fun hc1 => ?_)
    ·
      refine Ends.seq ?_
      refine Ends.region ?_
      refine S.val hA (R.assign rfl) rfl ?_; clear hA a; intro a hA
      refine S.val hA (R.assign rfl) rfl ?_; clear hA a; intro a hA
      refine S.done ?_
      replace hA : St 65 [(0, _), (1, _), (4, _), (5, _)] a := hA.sub ((.cons rfl (.cons rfl (.cons rfl (.cons rfl .nil)))))
      refine Ends.ret2 Try.func22 Try.results22 hA rfl rfl ?_
      rw [show nthV n rk_ = [] by unfold nthV; rw [if_neg (by omega)], show nthE n rk_ = 1 by unfold nthE; rw [if_pos hn]]
      exact ⟨none, 0, rfl, IntSl.nil _, Mem.trans0 hbs hM.nilL⟩
    · exfalso; omega
  ·
    refine Ends.region ?_
    refine S.val hA (R.move rfl) rfl ?_; clear hA a; intro a hA
    refine S.val hA (R.lss rfl rfl) rfl ?_; clear hA a; intro a hA
    refine S.val hA (R.move rfl) rfl ?_; clear hA a; intro a hA
    refine hA.split (d := 14) rfl ?_ ?_
    · clear hA; intro hg2 hA
      refine S.no (dj := 14) hA (by kernel_rfl) rfl rfl rfl ?_; clear hA a; intro a hA
      refine S.no (dj := 14) hA (by kernel_rfl) rfl rfl rfl ?_; clear hA a; intro a hA
      refine S.val hA (R.pickT rfl rfl) rfl ?_; clear hA a; intro a hA
      refine S.done ?_
      replace hA : St 65 [(0, _), (1, _), (17, _)] a := hA.sub ((.cons rfl (.cons rfl (.cons rfl .nil))))
      exact hJ _ _ ⟨hA.sub (.cons rfl (.cons rfl (.cons (by first | rfl | exact congrArg (fun b => some (Value.bool b)) (by first | exact decide_eq_decide.2 (by omega) | exact or_bool (by omega) | exact and_bool (by omega) | (simp; done) | (simp [hg2]; done) | (have h80 := hg2; (try simp at h80); simp [h80]; done) | exact (decide_eq_false (fun h9 => hg2 h9.1)).symm)) .nil))), hM⟩
    · clear hA; intro hg2 hA
      refine S.valg (dj := 14) hA (by kernel_rfl) rfl (R.move rfl) rfl ?_; clear hA a; intro a hA
      refine S.valg (dj := 14) hA (by kernel_rfl) rfl (R.gtr rfl rfl) rfl ?_; clear hA a; intro a hA
      refine S.val hA (R.pickF rfl rfl) rfl ?_; clear hA a; intro a hA
      refine S.done ?_
      replace hA : St 65 [(0, _), (1, _), (17, _)] a := hA.sub ((.cons rfl (.cons rfl (.cons rfl .nil))))
      exact hJ _ _ ⟨hA.sub (.cons rfl (.cons rfl (.cons (by first | rfl | exact congrArg (fun b => some (Value.bool b)) (by first | exact decide_eq_decide.2 (by omega) | exact or_bool (by omega) | exact and_bool (by omega) | (simp; done) | (simp [hg2]; done) | (have h80 := hg2; (try simp at h80); simp [h80]; done) | exact (decide_eq_false (fun h9 => hg2 h9.1)).symm)) .nil))), hM⟩
set_option maxRecDepth 100000 in
set_option maxHeartbeats 400000 in
theorem nth_bad2 (n rk_ : Int) (hn : 0 ≤ n ∧ n ≤ 20) (hr : rk_ < 0) (w : World) :
    Calls Try.prog 22 #[.int .i64 n, .int .i64 rk_] w fun e w' => ∃ a c, e = .returned (.tuple #[.slice a (nthV n rk_).length c, .int .i64 (nthE n rk_)]) ∧ IntSl w' (.slice a (nthV n rk_).length c) (nthV n rk_) ∧ Below w.heap.size w w' := by
  have hbs := Below.refl (B := w.heap.size) w
  have hM := Mem.start w
  refine Calls.of_ends (vs := [.int .i64 n, .int .i64 rk_]) Try.func22 rfl Try.ntmps22 rfl ?_
  intro a hA
  replace hA : St 65 [(0, _), (1, _)] a := hA
  refine Ends.seq ?_
  refine Ends.region ?_
  refine S.val hA (R.assign rfl) rfl ?_; clear hA a; intro a hA
  refine S.val hA (R.assign rfl) rfl ?_; clear hA a; intro a hA
  refine S.done ?_
  replace hA : St 65 [(0, _), (1, _)] a := hA.sub ((.cons rfl (.cons rfl .nil)))
  refine Ends.seq ?_
  refine Ends.seq ?_
  refine Ends.region ?_
  refine S.val hA (R.move rfl) rfl ?_; clear hA a; intro a hA
  refine S.val hA (R.ff (R.lss rfl rfl) (by omega)) rfl ?_; clear hA a; intro a hA
  refine S.val hA (R.move rfl) rfl ?_; clear hA a; intro a hA
  refine S.valg (dj := 14) hA (by kernel_rfl) rfl (R.move rfl) rfl ?_; clear hA a; intro a hA
  refine S.valg (dj := 14) hA (by kernel_rfl) rfl (R.ff (R.gtr rfl rfl) (by omega)) rfl ?_; clear hA a; intro a hA
  refine S.val hA (R.pickF rfl rfl) rfl ?_; clear hA a; intro a hA
  refine S.done ?_
  replace hA : St 65 [(0, _), (1, _), (17, _)] a := hA.sub ((.cons rfl (.cons rfl (.cons rfl .nil))))
  refine Ends.condF hA rfl ?_
  refine Ends.skip ?_
  refine Ends.seq ?_
  refine Ends.seq ?_
  refine Ends.region ?_
  refine S.val hA (R.move rfl) rfl ?_; clear hA a; intro a hA
  refine S.val hA (R.tt (R.lss rfl rfl) (by omega)) rfl ?_; clear hA a; intro a hA
  refine S.done ?_
  replace hA : St 65 [(0, _), (1, _), (19, _)] a := hA.sub ((.cons rfl (.cons rfl (.cons rfl .nil))))
  refine Ends.condT hA rfl ?_
  refine Ends.seq ?_
  refine Ends.region ?_
  refine S.val hA (R.assign rfl) rfl ?_; clear hA a; intro a hA
  refine S.val hA (R.assign rfl) rfl ?_; clear hA a; intro a hA
  refine S.done ?_
  replace hA : St 65 [(0, _), (1, _), (4, _), (5, _)] a := hA.sub ((.cons rfl (.cons rfl (.cons rfl (.cons rfl .nil)))))
  refine Ends.ret2 Try.func22 Try.results22 hA rfl rfl ?_
  rw [show nthV n rk_ = [] by unfold nthV; rw [if_neg (by omega)], show nthE n rk_ = 11 by unfold nthE; rw [if_neg (by omega), if_pos (by omega)]]
  exact ⟨none, 0, rfl, IntSl.nil _, Mem.trans0 hbs hM.nilL⟩
set_option maxRecDepth 100000 in
set_option maxHeartbeats 400000 in
theorem rnth_bad1 (n rk_ : Int) (hn : ¬ (0 ≤ n ∧ n ≤ 20)) (w : World) :
    Calls Try.prog 23 #[.int .i64 n, .int .i64 rk_] w fun e w' => ∃ a c, e = .returned (.tuple #[.slice a (nthV n rk_).length c, .int .i64 (nthE n rk_)]) ∧ IntSl w' (.slice a (nthV n rk_).length c) (nthV n rk_) ∧ Below w.heap.size w w' := by
  have hbs := Below.refl (B := w.heap.size) w
  have hM := Mem.start w
  refine Calls.of_ends (vs := [.int .i64 n, .int .i64 rk_]) Try.func23 rfl Try.ntmps23 rfl ?_
  intro a hA
  replace hA : St 62 [(0, _), (1, _)] a := hA
  refine Ends.seq ?_
  refine Ends.region ?_
  refine S.val hA (R.assign rfl) rfl ?_; clear hA a; intro a hA
  refine S.val hA (R.assign rfl) rfl ?_; clear hA a; intro a hA
  refine S.done ?_
  replace hA : St 62 [(0, _), (1, _)] a := hA.sub ((.cons rfl (.cons rfl .nil)))
  refine Ends.seq ?_
  refine Ends.seq ?_
  refine Ends.cut (fun (a : Act) (wv : World) => St 62 [(0, .int .i64 n), (1, .int .i64 rk_), (17, .bool (decide ((n < 0 ∨ 20 < n))))] a ∧ Mem w nof [] wv) ?_ (fun k2 hJ => ?_)
  · clear hA hM a; rintro a w1 ⟨hA, hM⟩
    refine Ends.ite hA rfl (fun hc1 => ?_) (fun hc1 => ?_)
    ·
      refine Ends.seq ?_
      refine Ends.region ?_
      refine S.val hA (R.assign rfl) rfl ?_; clear hA a; intro a hA
      refine S.val hA (R.assign rfl) rfl ?_; clear hA a; intro a hA
      refine S.done ?_
      replace hA : St 62 [(0, _), (1, _), (4, _), (5, _)] a := hA.sub ((.cons rfl (.cons rfl (.cons rfl (.cons rfl .nil)))))
      refine Ends.ret2 Try.func23 Try.results23 hA rfl rfl ?_
      rw [show nthV n rk_ = [] by unfold nthV; rw [if_neg (by omega)], show nthE n rk_ = 1 by unfold nthE; rw [if_pos hn]]
      exact ⟨none, 0, rfl, IntSl.nil _, Mem.trans0 hbs hM.nilL⟩
    · exfalso; omega
  ·
    refine Ends.region ?_
    refine S.val hA (R.move rfl) rfl ?_; clear hA a; intro a hA
    refine S.val hA (R.lss rfl rfl) rfl ?_; clear hA a; intro a hA
    refine S.val hA (R.move rfl) rfl ?_; clear hA a; intro a hA
    refine hA.split (d := 14) rfl ?_ ?_
    · clear hA; intro hg2 hA
      refine S.no (dj := 14) hA (by kernel_rfl) rfl rfl rfl ?_; clear hA a; intro a hA
      refine S.no (dj := 14) hA (by kernel_rfl) rfl rfl rfl ?_; clear hA a; intro a hA
      refine S.val hA (R.pickT rfl rfl) rfl ?_; clear hA a; intro a hA
      refine S.done ?_
      replace hA : St 62 [(0, _), (1, _), (17, _)] a := hA.sub ((.cons rfl (.cons rfl (.cons rfl .nil))))
      exact hJ _ _ ⟨hA.sub (.cons rfl (.cons rfl (.cons (by first | rfl | exact congrArg (fun b => some (Value.bool b)) (by first | exact decide_eq_decide.2 (by omega) | exact or_bool (by omega) | exact and_bool (by omega) | (simp; done) | (simp [hg2]; done) | (have h80 := hg2; (try simp at h80); simp [h80]; done) | exact (decide_eq_false (fun h9 => hg2 h9.1)).symm)) .nil))), hM⟩
    · clear hA; intro hg2 hA
      refine S.valg (dj := 14) hA (by kernel_rfl) rfl (R.move rfl) rfl ?_; clear hA a; intro a hA
      refine S.valg (dj := 14) hA (by kernel_rfl) rfl (R.gtr rfl rfl) rfl ?_; clear hA a; intro a hA
      refine S.val hA (R.pickF rfl rfl) rfl ?_; clear hA a; intro a hA
      refine S.done ?_
      replace hA : St 62 [(0, _), (1, _), (17, _)] a := hA.sub ((.cons rfl (.cons rfl (.cons rfl .nil))))
      exact hJ _ _ ⟨hA.sub (.cons rfl (.cons rfl (.cons (by first | rfl | exact congrArg (fun b => some (Value.bool b)) (by first | exact decide_eq_decide.2 (by omega) | exact or_bool (by omega) | exact and_bool (by omega) | (simp; done) | (simp [hg2]; done) | (have h80 := hg2; (try simp at h80); simp [h80]; done) | exact (decide_eq_false (fun h9 => hg2 h9.1)).symm)) .nil))), hM⟩
set_option maxRecDepth 100000 in
set_option maxHeartbeats 400000 in
theorem rnth_bad2 (n rk_ : Int) (hn : 0 ≤ n ∧ n ≤ 20) (hr : rk_ < 0) (w : World) :
    Calls Try.prog 23 #[.int .i64 n, .int .i64 rk_] w fun e w' => ∃ a c, e = .returned (.tuple #[.slice a (nthV n rk_).length c, .int .i64 (nthE n rk_)]) ∧ IntSl w' (.slice a (nthV n rk_).length c) (nthV n rk_) ∧ Below w.heap.size w w' := by
  have hbs := Below.refl (B := w.heap.size) w
  have hM := Mem.start w
  refine Calls.of_ends (vs := [.int .i64 n, .int .i64 rk_]) Try.func23 rfl Try.ntmps23 rfl ?_
  intro a hA
  replace hA : St 62 [(0, _), (1, _)] a := hA
  refine Ends.seq ?_
  refine Ends.region ?_
  refine S.val hA (R.assign rfl) rfl ?_; clear hA a; intro a hA
  refine S.val hA (R.assign rfl) rfl ?_; clear hA a; intro a hA
  refine S.done ?_
  replace hA : St 62 [(0, _), (1, _)] a := hA.sub ((.cons rfl (.cons rfl .nil)))
  refine Ends.seq ?_
  refine Ends.seq ?_
  refine Ends.region ?_
  refine S.val hA (R.move rfl) rfl ?_; clear hA a; intro a hA
  refine S.val hA (R.ff (R.lss rfl rfl) (by omega)) rfl ?_; clear hA a; intro a hA
  refine S.val hA (R.move rfl) rfl ?_; clear hA a; intro a hA
  refine S.valg (dj := 14) hA (by kernel_rfl) rfl (R.move rfl) rfl ?_; clear hA a; intro a hA
  refine S.valg (dj := 14) hA (by kernel_rfl) rfl (R.ff (R.gtr rfl rfl) (by omega)) rfl ?_; clear hA a; intro a hA
  refine S.val hA (R.pickF rfl rfl) rfl ?_; clear hA a; intro a hA
  refine S.done ?_
  replace hA : St 62 [(0, _), (1, _), (17, _)] a := hA.sub ((.cons rfl (.cons rfl (.cons rfl .nil))))
  refine Ends.condF hA rfl ?_
  refine Ends.skip ?_
  refine Ends.seq ?_
  refine Ends.seq ?_
  refine Ends.region ?_
  refine S.val hA (R.move rfl) rfl ?_; clear hA a; intro a hA
  refine S.val hA (R.tt (R.lss rfl rfl) (by omega)) rfl ?_; clear hA a; intro a hA
  refine S.val hA (R.move rfl) rfl ?_; clear hA a; intro a hA
  refine S.no (dj := 20) hA (by kernel_rfl) rfl rfl rfl ?_; clear hA a; intro a hA
  refine S.no (dj := 20) hA (by kernel_rfl) rfl rfl rfl ?_; clear hA a; intro a hA
  refine S.no (dj := 20) hA (by kernel_rfl) rfl rfl rfl ?_; clear hA a; intro a hA
  refine S.no (dj := 20) hA (by kernel_rfl) rfl rfl rfl ?_; clear hA a; intro a hA
  refine S.val hA (R.pickT rfl rfl) rfl ?_; clear hA a; intro a hA
  refine S.done ?_
  replace hA : St 62 [(0, _), (1, _), (25, _)] a := hA.sub ((.cons rfl (.cons rfl (.cons rfl .nil))))
  refine Ends.condT hA rfl ?_
  refine Ends.seq ?_
  refine Ends.region ?_
  refine S.val hA (R.assign rfl) rfl ?_; clear hA a; intro a hA
  refine S.val hA (R.assign rfl) rfl ?_; clear hA a; intro a hA
  refine S.done ?_
  replace hA : St 62 [(0, _), (1, _), (4, _), (5, _)] a := hA.sub ((.cons rfl (.cons rfl (.cons rfl (.cons rfl .nil)))))
  refine Ends.ret2 Try.func23 Try.results23 hA rfl rfl ?_
  rw [show nthV n rk_ = [] by unfold nthV; rw [if_neg (by omega)], show nthE n rk_ = 11 by unfold nthE; rw [if_neg (by omega), if_pos (by omega)]]
  exact ⟨none, 0, rfl, IntSl.nil _, Mem.trans0 hbs hM.nilL⟩
set_option maxRecDepth 100000 in
set_option maxHeartbeats 400000 in
theorem nth_ok (n r : Nat) (hn : n ≤ 20) (hr : r ≤ 9223372036854775807) (w : World) :
    Calls Try.prog 22 #[.int .i64 ((n : Int)), .int .i64 ((r : Int))] w fun e w' => ∃ a c, e = .returned (.tuple #[.slice a (nthV (n : Int) (r : Int)).length c, .int .i64 (nthE (n : Int) (r : Int))]) ∧ IntSl w' (.slice a (nthV (n : Int) (r : Int)).length c) (nthV (n : Int) (r : Int)) ∧ Below w.heap.size w w' := by
  have hbs := Below.refl (B := w.heap.size) w
  have hM := Mem.start w
  refine Calls.of_ends (vs := [.int .i64 ((n : Int)), .int .i64 ((r : Int))]) Try.func22 rfl Try.ntmps22 rfl ?_
  intro a hA
  replace hA : St 65 [(0, _), (1, _)] a := hA
  refine Ends.seq ?_
  refine Ends.region ?_
  refine S.val hA (R.assign rfl) rfl ?_; clear hA a; intro a hA
  refine S.val hA (R.assign rfl) rfl ?_; clear hA a; intro a hA
  refine S.done ?_
  replace hA : St 65 [(0, _), (1, _)] a := hA.sub ((.cons rfl (.cons rfl .nil)))
  refine Ends.seq ?_
  refine Ends.seq ?_
  refine Ends.region ?_
  refine S.val hA (R.move rfl) rfl ?_; clear hA a; intro a hA
  refine S.val hA (R.ff (R.lss rfl rfl) (by first | omega | exact hdg | exact hdq)) rfl ?_; clear hA a; intro a hA
  refine S.val hA (R.move rfl) rfl ?_; clear hA a; intro a hA
  refine S.valg (dj := 14) hA (by kernel_rfl) rfl (R.move rfl) rfl ?_; clear hA a; intro a hA
  refine S.valg (dj := 14) hA (by kernel_rfl) rfl (R.ff (R.gtr rfl rfl) (by first | omega | exact hdg | exact hdq)) rfl ?_; clear hA a; intro a hA
  refine S.val hA (R.pickF rfl rfl) rfl ?_; clear hA a; intro a hA
  refine S.done ?_
  replace hA : St 65 [(0, _), (1, _), (17, _)] a := hA.sub ((.cons rfl (.cons rfl (.cons rfl .nil))))
  refine Ends.condF hA rfl ?_
  refine Ends.skip ?_
  refine Ends.seq ?_
  refine Ends.seq ?_
  refine Ends.region ?_
  refine S.val hA (R.move rfl) rfl ?_; clear hA a; intro a hA
  refine S.val hA (R.ff (R.lss rfl rfl) (by first | omega | exact hdg | exact hdq)) rfl ?_; clear hA a; intro a hA
  refine S.done ?_
  replace hA : St 65 [(0, _), (1, _), (19, _)] a := hA.sub ((.cons rfl (.cons rfl (.cons rfl .nil))))
  refine Ends.condF hA rfl ?_
  refine Ends.skip ?_
  refine Ends.seq ?_
  refine Ends.region ?_
  refine S.val hA (R.move rfl) rfl ?_; clear hA a; intro a hA
  refine S.make hA hM Try.underlying22 info3 rfl rfl rfl (by first | omega | exact hdg | exact hdq) (by show (8 : Int) * _ ≤ _; omega) (by first | omega | exact hdg | exact hdq) rfl ?_; clear hA hM a; intro b1 w1 hb2 hM a hA
  replace hM : Mem _ _ [pt b1 (madeCells #[.int .i64 0] (n * 1)) 3] _ := hM
  rw [Nat.mul_one, made_ints] at hM
  replace hM : Mem _ _ [pt b1 ((ints (List.replicate n 0))) 3] _ := hM
  refine S.val hA (R.assign rfl) rfl ?_; clear hA a; intro a hA
  refine S.done ?_
  replace hA : St 65 [(0, _), (1, _), (6, _)] a := hA.sub ((.cons rfl (.cons rfl (.cons rfl .nil))))
  refine Ends.seq ?_
  refine Ends.seq ?_
  refine Ends.region ?_
  refine S.val hA (R.move rfl) rfl ?_; clear hA a; intro a hA
  refine S.val hA (R.move rfl) rfl ?_; clear hA a; intro a hA
  refine S.done ?_
  replace hA : St 65 [(0, _), (1, _), (6, _), (22, _), (23, _)] a := hA.sub ((.cons rfl (.cons rfl (.cons rfl (.cons rfl (.cons rfl .nil))))))
  refine Ends.block ?_
  rw [show (r : Int) = ((r / fac 0 : Nat) : Int) by simp [fac]] at hA
  refine Ends.loop (σ := Nat × List Int) (fun (k, Sk) (a : Act) (wv : World) => St 65 [(0, .int .i64 ((n : Int))), (1, .int .i64 (((r / fac k : Nat) : Int))), (6, .slice (some ⟨b1, 0, none⟩) n n), (22, .int .i64 ((n : Int))), (23, .int .i64 ((k : Int)))] a ∧ Mem w nof [pt b1 ((ints Sk)) 3] wv ∧ (k ≤ n) ∧ (Sk.length = n) ∧ (∀ i, i < k → Sk.getD (n - 1 - i) 0 = ((dig r i : Nat) : Int))) (fun (k, Sk) => n - k) ((0, List.replicate n 0)) ⟨hA.sub ((.cons rfl (.cons rfl (.cons rfl (.cons rfl (.cons rfl .nil)))))), hM, (Nat.zero_le _), (by simp), (fun i hi => absurd hi (Nat.not_lt_zero _))⟩ ?_
  clear hA hM a
  rintro ⟨k, Sk⟩ a w2 ⟨hA, hM, hk, hSl, hS⟩ hNext
  refine Ends.seq ?_
  refine Ends.region ?_
  refine S.val hA (R.lss rfl rfl) rfl ?_; clear hA a; intro a hA
  refine S.done ?_
  replace hA : St 65 [(0, _), (1, _), (6, _), (22, _), (23, _), (24, _)] a := hA.sub ((.cons rfl (.cons rfl (.cons rfl (.cons rfl (.cons rfl (.cons rfl .nil)))))))
  refine Ends.seq ?_
  refine Ends.ite hA rfl (fun hc3 => ?_) (fun hc3 => ?_)
  ·
    have hdg : ((r / fac k : Nat) : Int) % ((k : Int) + 1) = ((dig r k : Nat) : Int) := by
      have e9 : ((k + 1 : Nat) : Int) = (k : Int) + 1 := by omega
      unfold dig; rw [← e9]; exact (Int.natCast_emod _ _).symm
    have hdq : ((r / fac k : Nat) : Int) / ((k : Int) + 1) = ((r / fac (k + 1) : Nat) : Int) := by
      have e9 : ((k + 1 : Nat) : Int) = (k : Int) + 1 := by omega
      rw [← dig_div, ← e9]; exact (Int.natCast_ediv _ _).symm
    have hrl : ((r / fac k : Nat) : Int) ≤ (r : Int) := Int.ofNat_le.2 (Nat.div_le_self _ _)
    have hnn : 0 ≤ ((r / fac k : Nat) : Int) := Int.natCast_nonneg _
    refine Ends.skip ?_
    refine Ends.seq ?_
    refine Ends.block ?_
    refine Ends.seq ?_
    refine Ends.region ?_
    refine S.val hA (R.move rfl) rfl ?_; clear hA a; intro a hA
    refine S.val hA (R.assign rfl) rfl ?_; clear hA a; intro a hA
    refine S.done ?_
    replace hA : St 65 [(0, _), (1, _), (6, _), (7, _), (22, _), (23, _)] a := hA.sub ((.cons rfl (.cons rfl (.cons rfl (.cons rfl (.cons rfl (.cons rfl .nil)))))))
    refine Ends.seq ?_
    refine Ends.region ?_
    refine S.val hA (R.move rfl) rfl ?_; clear hA a; intro a hA
    refine S.val hA (R.move rfl) rfl ?_; clear hA a; intro a hA
    refine S.val hA (R.subI rfl rfl (r := ((n : Int)) - 1) rfl (by first | omega | exact hdg | exact hdq)) rfl ?_; clear hA a; intro a hA
    refine S.val hA (R.move rfl) rfl ?_; clear hA a; intro a hA
    refine S.val hA (R.subI rfl rfl (r := ((n - 1 - k : Nat) : Int)) (by first | omega | exact hdg | exact hdq) (by first | omega | exact hdg | exact hdq)) rfl ?_; clear hA a; intro a hA
    refine S.val hA (R.move rfl) rfl ?_; clear hA a; intro a hA
    refine S.val hA (R.move rfl) rfl ?_; clear hA a; intro a hA
    refine S.val hA (R.addI rfl rfl (r := ((k : Int)) + 1) rfl (by first | omega | exact hdg | exact hdq)) rfl ?_; clear hA a; intro a hA
    refine S.val hA (R.remI rfl rfl (r := ((dig r k : Nat) : Int)) (by first | omega | exact hdg | exact hdq) (by first | omega | exact hdg | exact hdq)) rfl ?_; clear hA a; intro a hA
    refine S.val hA (R.indexAddr (q := (n - 1 - k)) sl22 rfl rfl (by first | omega | exact hdg | exact hdq) (by first | omega | exact hdg | exact hdq)) rfl ?_; clear hA a; intro a hA
    refine S.store (k := 0) hA hM sz3 rfl rfl rfl rfl (ints_getD Sk _ (by first | omega | exact hdg | exact hdq)) ?_; clear hM
    intro w3 hM
    rw [ints_set] at hM
    replace hM : Mem _ _ [pt b1 ((ints (Sk.set ((n - 1 - k)) (((dig r k : Nat) : Int))))) 3] _ := hM
    refine S.done ?_
    replace hA : St 65 [(0, _), (1, _), (6, _), (7, _), (22, _), (23, _)] a := hA.sub ((.cons rfl (.cons rfl (.cons rfl (.cons rfl (.cons rfl (.cons rfl .nil)))))))
    refine Ends.region ?_
    refine S.val hA (R.move rfl) rfl ?_; clear hA a; intro a hA
    refine S.val hA (R.move rfl) rfl ?_; clear hA a; intro a hA
    refine S.val hA (R.addI rfl rfl (r := ((k : Int)) + 1) rfl (by first | omega | exact hdg | exact hdq)) rfl ?_; clear hA a; intro a hA
    refine S.val hA (R.quoI rfl rfl (r := ((r / fac (k + 1) : Nat) : Int)) (by first | omega | exact hdg | exact hdq) (by first | omega | exact hdg | exact hdq)) rfl ?_; clear hA a; intro a hA
    refine S.val hA (R.assign rfl) rfl ?_; clear hA a; intro a hA
    refine S.done ?_
    replace hA : St 65 [(0, _), (1, _), (6, _), (22, _), (23, _)] a := hA.sub ((.cons rfl (.cons rfl (.cons rfl (.cons rfl (.cons rfl .nil))))))
    refine Ends.inBlock ?_
    refine Ends.region ?_
    refine S.val hA (R.addI rfl rfl (r := ((k : Int)) + 1) rfl (by first | omega | exact hdg | exact hdq)) rfl ?_; clear hA a; intro a hA
    refine S.val hA (R.move rfl) rfl ?_; clear hA a; intro a hA
    refine S.done ?_
    replace hA : St 65 [(0, _), (1, _), (6, _), (22, _), (23, _)] a := hA.sub ((.cons rfl (.cons rfl (.cons rfl (.cons rfl (.cons rfl .nil))))))
    exact hNext ((k + 1, (Sk.set ((n - 1 - k)) (((dig r k : Nat) : Int))))) _ _ ((by show n - (k + 1) < n - k; omega)) ⟨hA.sub ((.cons rfl (.cons rfl (.cons rfl (.cons rfl (.cons rfl .nil)))))), hM, (by omega), (by rw [List.length_set]; exact hSl), (fun i hi => by rw [getD_set _ _ _ _ (by omega)]; by_cases e : i = k; (rw [e, if_pos rfl]); (rw [if_neg (by omega)]; exact hS i (by omega)))⟩
  ·
    obtain rfl : n = k := by omega
    refine Ends.exit rfl ?_
    replace hA : St 65 [(0, _), (1, _), (6, _)] a := hA.sub ((.cons rfl (.cons rfl (.cons rfl .nil))))
    refine Ends.seq ?_
    refine Ends.seq ?_
    refine Ends.region ?_
    refine S.val hA (R.move rfl) rfl ?_; clear hA a; intro a hA
    refine S.val hA (R.gtr rfl rfl) rfl ?_; clear hA a; intro a hA
    refine S.done ?_
    replace hA : St 65 [(0, _), (6, _), (42, _)] a := hA.sub ((.cons rfl (.cons rfl (.cons rfl .nil))))
    refine Ends.ite hA rfl (fun hc4 => ?_) (fun hc4 => ?_)
    ·
      have hge : fac n ≤ r := by
        rcases Nat.lt_or_ge r (fac n) with g9 | g9
        · rw [Nat.div_eq_of_lt g9] at hc4; omega
        · exact g9
      refine Ends.seq ?_
      refine Ends.region ?_
      refine S.val hA (R.assign rfl) rfl ?_; clear hA a; intro a hA
      refine S.val hA (R.assign rfl) rfl ?_; clear hA a; intro a hA
      refine S.done ?_
      replace hA : St 65 [(0, _), (4, _), (5, _), (6, _)] a := hA.sub ((.cons rfl (.cons rfl (.cons rfl (.cons rfl .nil)))))
      refine Ends.ret2 Try.func22 Try.results22 hA rfl rfl ?_
      have hfi : ¬ ((r : Int) < ((fac (n : Int).toNat : Nat) : Int)) := by rw [Int.toNat_natCast]; omega
      rw [show nthV (n : Int) (r : Int) = [] by unfold nthV; rw [if_neg (fun h9 => hfi h9.2.2.2)], show nthE (n : Int) (r : Int) = 11 by unfold nthE; rw [if_neg (by omega), if_pos (fun h9 => hfi h9.2)]]
      exact ⟨none, 0, rfl, IntSl.nil _, Mem.trans0 hbs hM.nilL⟩
    ·
      have hlt : r < fac n := by
        rcases Nat.lt_or_ge r (fac n) with g9 | g9
        · exact g9
        · have := Nat.div_pos g9 (fac_pos n); omega
      refine Ends.skip ?_
      refine Ends.seq ?_
      refine Ends.region ?_
      refine S.val hA (R.move rfl) rfl ?_; clear hA a; intro a hA
      refine S.call hA (R.callF Try.func27 rfl rfl rfl) rfl (plain_ownN n (by omega) _) ?_; clear hA a
      rintro e w4 ⟨g, pc, rfl, hn⟩
      replace hM : Mem _ _ [own 3 1 (.slice ((some ⟨g, 0, none⟩)) (((pl n)).length) pc) (((pl n)).length) (((pl n)).map (Value.int .i64)), pt b1 ((ints Sk)) 3] _ := hM.call hn; clear hn
      refine ⟨.slice ((some ⟨g, 0, none⟩)) ((pl n).length) pc, rfl, fun a hA => ?_⟩
      refine S.val hA (R.assign rfl) rfl ?_; clear hA a; intro a hA
      refine S.done ?_
      replace hA : St 65 [(6, _), (8, _)] a := hA.sub ((.cons rfl (.cons rfl .nil)))
      refine Ends.seq ?_
      refine Ends.region ?_
      refine S.val hA (R.assign rfl) rfl ?_; clear hA a; intro a hA
      refine S.done ?_
      replace hA : St 65 [(6, _), (8, _), (9, _)] a := hA.sub ((.cons rfl (.cons rfl (.cons rfl .nil))))
      refine Ends.seq ?_
      refine Ends.seq ?_
      refine Ends.region ?_
      refine S.val hA (R.move rfl) rfl ?_; clear hA a; intro a hA
      refine S.val hA (R.lenS Try.underlying22 rfl rfl) rfl ?_; clear hA a; intro a hA
      refine S.val hA (R.move rfl) rfl ?_; clear hA a; intro a hA
      refine S.done ?_
      replace hA : St 65 [(8, _), (9, _), (45, _), (46, _), (47, _)] a := hA.sub ((.cons rfl (.cons rfl (.cons rfl (.cons rfl (.cons rfl .nil))))))
      refine Ends.block ?_
      replace hM := hM.ownNil 3 1
      replace hM := hM.front (k := 1) rfl
      replace hM := hM.front (k := 2) rfl
      replace hM : Mem _ _ [pt b1 ((ints Sk)) 3, own 3 1 (.slice ((some ⟨g, 0, none⟩)) (((pl n)).length) pc) (((pl n)).length) (((pl n)).map (Value.int .i64)), own 3 1 (.slice none ((([] : List Int)).length) 0) ((([] : List Int)).length) ((([] : List Int)).map (Value.int .i64))] _ := hM
      replace hM : Mem _ _ [pt b1 ((ints Sk)) 3, own 3 1 (.slice ((some ⟨g, 0, none⟩)) (((pl n)).length) pc) (((pl n)).length) (((pl n)).map (Value.int .i64)), own 3 1 (.slice none ((([] : List Int)).length) 0) ((([] : List Int)).length) ((([] : List Int)).map (Value.int .i64))] _ := hM
      refine Ends.loop (σ := Nat × List Int × Option Addr × List Int × Nat) (fun (j, T, oa, Q, oc) (a : Act) (wv : World) => St 65 [(8, .slice ((some ⟨g, 0, none⟩)) T.length pc), (9, .slice oa Q.length oc), (45, .slice (some ⟨b1, 0, none⟩) n n), (46, .int .i64 ((n : Int))), (47, .int .i64 ((j : Int)))] a ∧ Mem w nof [pt b1 ((ints Sk)) 3, own 3 1 (.slice ((some ⟨g, 0, none⟩)) T.length pc) T.length (T.map (Value.int .i64)), own 3 1 (.slice oa Q.length oc) Q.length (Q.map (Value.int .i64))] wv ∧ (j ≤ n) ∧ (T.length = n - j) ∧ (Q ++ nthL (n - j) T (r % fac (n - j)) = nthL n (pl n) (r % fac n))) (fun (j, T, oa, Q, oc) => n - j) ((0, pl n, none, [], 0)) ⟨hA.sub ((.cons rfl (.cons rfl (.cons rfl (.cons rfl (.cons rfl .nil)))))), hM, (Nat.zero_le _), (pl_len n), rfl⟩ ?_
      clear hA hM a
      rintro ⟨j, T, oa, Q, oc⟩ a w5 ⟨hA, hM, hj, hLl, hQ⟩ hNext1
      refine Ends.seq ?_
      refine Ends.region ?_
      refine S.val hA (R.lss rfl rfl) rfl ?_; clear hA a; intro a hA
      refine S.done ?_
      replace hA : St 65 [(8, _), (9, _), (45, _), (46, _), (47, _), (48, _)] a := hA.sub ((.cons rfl (.cons rfl (.cons rfl (.cons rfl (.cons rfl (.cons rfl .nil)))))))
      refine Ends.seq ?_
      refine Ends.ite hA rfl (fun hc5 => ?_) (fun hc5 => ?_)
      ·
        have hSj : Sk.getD j 0 = ((dig r (n - 1 - j) : Nat) : Int) := by have := hS (n - 1 - j) (by omega); rwa [show n - 1 - (n - 1 - j) = j by omega] at this
        have hdl := nth_lt (r := r) (show j < n by omega) hLl
        refine Ends.skip ?_
        refine Ends.seq ?_
        refine Ends.block ?_
        refine Ends.seq ?_
        refine Ends.region ?_
        refine S.val hA (R.indexAddr (q := j) sl22 rfl rfl (by first | omega | exact hdg | exact hdq) (by first | omega | exact hdg | exact hdq)) rfl ?_; clear hA a; intro a hA
        refine S.val hA (R.to (v := .int .i64 ((dig r (n - 1 - j) : Nat) : Int)) (R.load sz3 rfl (hM.cell (k := 0) rfl (ints_getD Sk _ (by omega)))) (congrArg (Value.int .i64) hSj)) rfl ?_; clear hA a; intro a hA
        refine S.val hA (R.assign rfl) rfl ?_; clear hA a; intro a hA
        refine S.done ?_
        replace hA : St 65 [(8, _), (9, _), (11, _), (45, _), (46, _), (47, _)] a := hA.sub ((.cons rfl (.cons rfl (.cons rfl (.cons rfl (.cons rfl (.cons rfl .nil)))))))
        refine Ends.seq ?_
        refine Ends.region ?_
        refine S.val hA (R.move rfl) rfl ?_; clear hA a; intro a hA
        refine S.val hA (R.move rfl) rfl ?_; clear hA a; intro a hA
        refine S.val hA (R.move rfl) rfl ?_; clear hA a; intro a hA
        refine S.val hA (R.indexAddr (q := (dig r (n - 1 - j))) sl22 rfl rfl (by first | omega | exact hdg | exact hdq) (by first | omega | exact hdg | exact hdq)) rfl ?_; clear hA a; intro a hA
        refine S.val hA (R.load sz3 rfl (hM.ownCell (k := 1) rfl (mapi_get _ _ (by first | omega | exact hdg | exact hdq)))) rfl ?_; clear hA a; intro a hA
        refine S.buildSl (cells := #[.int .i64 (T.getD ((dig r (n - 1 - j))) 0)]) hA hM Try.underlying22 info3 rfl rfl rfl rfl (by kernel_rfl) rfl ?_; clear hA hM a; intro b6 w6 hb7 hM a hA
        replace hM : Mem _ _ [pt b6 #[.int .i64 (T.getD ((dig r (n - 1 - j))) 0)] 3, pt b1 ((ints Sk)) 3, own 3 1 (.slice ((some ⟨g, 0, none⟩)) T.length pc) T.length (T.map (Value.int .i64)), own 3 1 (.slice oa Q.length oc) Q.length (Q.map (Value.int .i64))] _ := hM
        refine S.append (k := 3) (k2 := 0) hA hM rfl rfl Try.underlying22 info3 rfl rfl rfl rfl rfl rfl rfl rfl rfl (by first | (unfold maxLen; omega) | (have hQl := congrArg List.length hQ; simp only [List.length_append, nthL_len] at hQl; unfold maxLen; omega) | (have hQl := congrArg List.length hQ; simp only [List.length_append, nthL_len] at hQl; show (_ + 1) * 8 ≤ (140737488355328 : Nat); omega)) (by first | (unfold maxLen; omega) | (have hQl := congrArg List.length hQ; simp only [List.length_append, nthL_len] at hQl; unfold maxLen; omega) | (have hQl := congrArg List.length hQ; simp only [List.length_append, nthL_len] at hQl; show (_ + 1) * 8 ≤ (140737488355328 : Nat); omega)) rfl ?_; clear hA hM a; intro a8 c9 w7 hM a hA
        replace hM : Mem _ _ [pt b6 #[.int .i64 (T.getD ((dig r (n - 1 - j))) 0)] 3, pt b1 ((ints Sk)) 3, own 3 1 (.slice ((some ⟨g, 0, none⟩)) T.length pc) T.length (T.map (Value.int .i64)), own 3 1 (.slice a8 (Q.length + 1) c9) (Q.length + 1) (Q.map (Value.int .i64) ++ [.int .i64 (T.getD ((dig r (n - 1 - j))) 0)])] _ := hM
        have hl10 : Q.length + 1 = (Q ++ [T.getD ((dig r (n - 1 - j))) 0]).length := by simp
        rw [hl10, show Q.map (Value.int .i64) ++ [.int .i64 (T.getD ((dig r (n - 1 - j))) 0)] = (Q ++ [T.getD ((dig r (n - 1 - j))) 0]).map (Value.int .i64) by simp] at hM; rw [hl10] at hA
        clear hl10
        replace hM := hM.drop 0
        replace hM : Mem _ _ [pt b1 ((ints Sk)) 3, own 3 1 (.slice ((some ⟨g, 0, none⟩)) T.length pc) T.length (T.map (Value.int .i64)), own 3 1 (.slice a8 (((Q ++ [T.getD ((dig r (n - 1 - j))) 0])).length) c9) (((Q ++ [T.getD ((dig r (n - 1 - j))) 0])).length) (((Q ++ [T.getD ((dig r (n - 1 - j))) 0])).map (Value.int .i64))] _ := hM
        refine S.val hA (R.assign rfl) rfl ?_; clear hA a; intro a hA
        refine S.done ?_
        replace hA : St 65 [(8, _), (9, _), (11, _), (45, _), (46, _), (47, _)] a := hA.sub ((.cons rfl (.cons rfl (.cons rfl (.cons rfl (.cons rfl (.cons rfl .nil)))))))
        refine Ends.region ?_
        refine S.val hA (R.move rfl) rfl ?_; clear hA a; intro a hA
        refine S.val hA (R.move rfl) rfl ?_; clear hA a; intro a hA
        refine S.val hA (R.move rfl) rfl ?_; clear hA a; intro a hA
        refine S.val hA (R.addI rfl rfl (r := (((dig r (n - 1 - j) : Nat) : Int)) + 1) rfl (by first | omega | exact hdg | exact hdq)) rfl ?_; clear hA a; intro a hA
        replace hM := hM.front (k := 1) rfl
        replace hM : Mem _ _ [own 3 1 (.slice ((some ⟨g, 0, none⟩)) T.length pc) T.length (T.map (Value.int .i64)), pt b1 ((ints Sk)) 3, own 3 1 (.slice a8 (((Q ++ [T.getD ((dig r (n - 1 - j))) 0])).length) c9) (((Q ++ [T.getD ((dig r (n - 1 - j))) 0])).length) (((Q ++ [T.getD ((dig r (n - 1 - j))) 0])).map (Value.int .i64))] _ := hM
        refine S.call hA (R.callF Try.func35 rfl rfl rfl) rfl (del09 g pc (dig r (n - 1 - j)) T hdl _ (hM.hereN 1)) ?_; clear hA a
        rintro e w8 ⟨rfl, hn⟩
        replace hM : Mem _ _ [own 3 1 (.slice ((some ⟨g, 0, none⟩)) (((T.eraseIdx (dig r (n - 1 - j)))).length) pc) (((T.eraseIdx (dig r (n - 1 - j)))).length) (((T.eraseIdx (dig r (n - 1 - j)))).map (Value.int .i64)), pt b1 ((ints Sk)) 3, own 3 1 (.slice a8 (((Q ++ [T.getD ((dig r (n - 1 - j))) 0])).length) c9) (((Q ++ [T.getD ((dig r (n - 1 - j))) 0])).length) (((Q ++ [T.getD ((dig r (n - 1 - j))) 0])).map (Value.int .i64))] _ := hM.callL 1 hn; clear hn
        refine ⟨.slice ((some ⟨g, 0, none⟩)) (((T.eraseIdx (dig r (n - 1 - j)))).length) pc, rfl, fun a hA => ?_⟩
        refine S.val hA (R.assign rfl) rfl ?_; clear hA a; intro a hA
        refine S.done ?_
        replace hA : St 65 [(8, _), (9, _), (45, _), (46, _), (47, _)] a := hA.sub ((.cons rfl (.cons rfl (.cons rfl (.cons rfl (.cons rfl .nil))))))
        refine Ends.inBlock ?_
        refine Ends.region ?_
        refine S.val hA (R.addI rfl rfl (r := ((j : Int)) + 1) rfl (by first | omega | exact hdg | exact hdq)) rfl ?_; clear hA a; intro a hA
        refine S.val hA (R.move rfl) rfl ?_; clear hA a; intro a hA
        refine S.done ?_
        replace hA : St 65 [(8, _), (9, _), (45, _), (46, _), (47, _)] a := hA.sub ((.cons rfl (.cons rfl (.cons rfl (.cons rfl (.cons rfl .nil))))))
        replace hM := hM.front (k := 2) rfl
        replace hM := hM.front (k := 1) rfl
        replace hM := hM.front (k := 2) rfl
        replace hM : Mem _ _ [pt b1 ((ints Sk)) 3, own 3 1 (.slice ((some ⟨g, 0, none⟩)) (((T.eraseIdx (dig r (n - 1 - j)))).length) pc) (((T.eraseIdx (dig r (n - 1 - j)))).length) (((T.eraseIdx (dig r (n - 1 - j)))).map (Value.int .i64)), own 3 1 (.slice a8 (((Q ++ [T.getD ((dig r (n - 1 - j))) 0])).length) c9) (((Q ++ [T.getD ((dig r (n - 1 - j))) 0])).length) (((Q ++ [T.getD ((dig r (n - 1 - j))) 0])).map (Value.int .i64))] _ := hM
        replace hM := hM.firstN 3
        exact hNext1 ((j + 1, (T.eraseIdx (dig r (n - 1 - j))), a8, (Q ++ [T.getD ((dig r (n - 1 - j))) 0]), c9)) _ _ ((by show n - (j + 1) < n - j; omega)) ⟨hA.sub ((.cons rfl (.cons rfl (.cons rfl (.cons rfl (.cons rfl .nil)))))), hM, (by omega), (by rw [List.length_eraseIdx_of_lt hdl]; omega), (nth_step (by omega) hQ)⟩
      ·
        obtain rfl : n = j := by omega
        rw [Nat.sub_self, nthL, List.append_nil, Nat.mod_eq_of_lt hlt] at hQ
        refine Ends.exit rfl ?_
        replace hA : St 65 [(9, _)] a := hA.sub ((.cons rfl .nil))
        refine Ends.seq ?_
        refine Ends.region ?_
        refine S.val hA (R.move rfl) rfl ?_; clear hA a; intro a hA
        refine S.val hA (R.assign rfl) rfl ?_; clear hA a; intro a hA
        refine S.val hA (R.assign rfl) rfl ?_; clear hA a; intro a hA
        refine S.done ?_
        replace hA : St 65 [(4, _), (5, _)] a := hA.sub ((.cons rfl (.cons rfl .nil)))
        refine Ends.ret2 Try.func22 Try.results22 hA rfl rfl ?_
        have hV : nthV (n : Int) (r : Int) = nthL n (pl n) r := by unfold nthV; rw [if_pos ⟨by omega, by omega, by omega, by rw [Int.toNat_natCast]; omega⟩]; rfl
        have hE : nthE (n : Int) (r : Int) = 0 := by unfold nthE; rw [if_neg (by omega), if_neg (fun h9 => h9 ⟨by omega, by rw [Int.toNat_natCast]; omega⟩)]
        rw [hV, hE]
        rw [← hQ]
        have hr2 := hM.rsl (k := 2) rfl
        exact ⟨_, _, rfl, hr2, Mem.trans0 hbs hM.nilL⟩
set_option maxRecDepth 100000 in
set_option maxHeartbeats 400000 in
theorem rnth_ok (n r : Nat) (hn : n ≤ 20) (hr : r ≤ 9223372036854775807) (w : World) :
    Calls Try.prog 23 #[.int .i64 ((n : Int)), .int .i64 ((r : Int))] w fun e w' => ∃ a c, e = .returned (.tuple #[.slice a (nthV (n : Int) (r : Int)).length c, .int .i64 (nthE (n : Int) (r : Int))]) ∧ IntSl w' (.slice a (nthV (n : Int) (r : Int)).length c) (nthV (n : Int) (r : Int)) ∧ Below w.heap.size w w' := by
  have hbs := Below.refl (B := w.heap.size) w
  have hM := Mem.start w
  refine Calls.of_ends (vs := [.int .i64 ((n : Int)), .int .i64 ((r : Int))]) Try.func23 rfl Try.ntmps23 rfl ?_
  intro a hA
  replace hA : St 62 [(0, _), (1, _)] a := hA
  refine Ends.seq ?_
  refine Ends.region ?_
  refine S.val hA (R.assign rfl) rfl ?_; clear hA a; intro a hA
  refine S.val hA (R.assign rfl) rfl ?_; clear hA a; intro a hA
  refine S.done ?_
  replace hA : St 62 [(0, _), (1, _)] a := hA.sub ((.cons rfl (.cons rfl .nil)))
  refine Ends.seq ?_
  refine Ends.seq ?_
  refine Ends.region ?_
  refine S.val hA (R.move rfl) rfl ?_; clear hA a; intro a hA
  refine S.val hA (R.ff (R.lss rfl rfl) (by first | omega | exact hqq | exact hqm)) rfl ?_; clear hA a; intro a hA
  refine S.val hA (R.move rfl) rfl ?_; clear hA a; intro a hA
  refine S.valg (dj := 14) hA (by kernel_rfl) rfl (R.move rfl) rfl ?_; clear hA a; intro a hA
  refine S.valg (dj := 14) hA (by kernel_rfl) rfl (R.ff (R.gtr rfl rfl) (by first | omega | exact hqq | exact hqm)) rfl ?_; clear hA a; intro a hA
  refine S.val hA (R.pickF rfl rfl) rfl ?_; clear hA a; intro a hA
  refine S.done ?_
  replace hA : St 62 [(0, _), (1, _), (17, _)] a := hA.sub ((.cons rfl (.cons rfl (.cons rfl .nil))))
  refine Ends.condF hA rfl ?_
  refine Ends.skip ?_
  refine Ends.seq ?_
  refine Ends.seq ?_
  refine Ends.region ?_
  refine S.val hA (R.move rfl) rfl ?_; clear hA a; intro a hA
  refine S.val hA (R.ff (R.lss rfl rfl) (by first | omega | exact hqq | exact hqm)) rfl ?_; clear hA a; intro a hA
  refine S.val hA (R.move rfl) rfl ?_; clear hA a; intro a hA
  refine S.valg (dj := 20) hA (by kernel_rfl) rfl (R.move rfl) rfl ?_; clear hA a; intro a hA
  refine S.valg (dj := 20) hA (by kernel_rfl) rfl (R.move rfl) rfl ?_; clear hA a; intro a hA
  refine S.callg (dj := 20) hA (by kernel_rfl) rfl (R.callF Try.func33 rfl rfl rfl) rfl (fac09 n (by omega) _) ?_; clear hA a
  rintro e w1 ⟨rfl, hb⟩
  replace hM := hM.callB hb; clear hb
  refine ⟨.int .i64 (((fac n : Nat) : Int)), rfl, fun a hA => ?_⟩
  refine S.valg (dj := 20) hA (by kernel_rfl) rfl (R.geq rfl rfl) rfl ?_; clear hA a; intro a hA
  refine S.val hA (R.pickF rfl rfl) rfl ?_; clear hA a; intro a hA
  refine S.done ?_
  replace hA : St 62 [(0, _), (1, _), (25, _)] a := hA.sub ((.cons rfl (.cons rfl (.cons rfl .nil))))
  refine Ends.ite hA rfl (fun hc1 => ?_) (fun hc1 => ?_)
  ·
    have hge : fac n ≤ r := by omega
    refine Ends.seq ?_
    refine Ends.region ?_
    refine S.val hA (R.assign rfl) rfl ?_; clear hA a; intro a hA
    refine S.val hA (R.assign rfl) rfl ?_; clear hA a; intro a hA
    refine S.done ?_
    replace hA : St 62 [(0, _), (1, _), (4, _), (5, _)] a := hA.sub ((.cons rfl (.cons rfl (.cons rfl (.cons rfl .nil)))))
    refine Ends.ret2 Try.func23 Try.results23 hA rfl rfl ?_
    have hfi : ¬ ((r : Int) < ((fac (n : Int).toNat : Nat) : Int)) := by rw [Int.toNat_natCast]; omega
    rw [show nthV (n : Int) (r : Int) = [] by unfold nthV; rw [if_neg (fun h9 => hfi h9.2.2.2)], show nthE (n : Int) (r : Int) = 11 by unfold nthE; rw [if_neg (by omega), if_pos (fun h9 => hfi h9.2)]]
    exact ⟨none, 0, rfl, IntSl.nil _, Mem.trans0 hbs hM.nilL⟩
  ·
    have hlt : r < fac n := by omega
    refine Ends.skip ?_
    refine Ends.seq ?_
    refine Ends.region ?_
    refine S.alloc hA hM info47 rfl rfl ?_; clear hA hM a; intro b2 w2 hb3 hM a hA
    replace hM : Mem _ _ [pt b2 #[.bool false, .bool false, .bool false, .bool false, .bool false, .bool false, .bool false, .bool false, .bool false, .bool false, .bool false, .bool false, .bool false, .bool false, .bool false, .bool false, .bool false, .bool false, .bool false, .bool false] 47] _ := hM
    refine S.done ?_
    replace hA : St 62 [(0, _), (1, _), (6, _)] a := hA.sub ((.cons rfl (.cons rfl (.cons rfl .nil))))
    refine Ends.seq ?_
    refine Ends.region ?_
    refine S.buildSl0 hA hM Try.underlying22 info3 rfl ?_; clear hA hM a; intro b4 w3 hb5 hM a hA
    replace hM := hM.ownPt (cap := 0) (n := 0) (sz := 1) (xs := []) rfl (Nat.zero_le _) (Nat.le_refl _) rfl
    replace hM : Mem _ _ [own 3 1 (.slice ((some ⟨b4, 0, none⟩)) 0 0) 0 ((([] : List Int)).map (Value.int .i64)), pt b2 #[.bool false, .bool false, .bool false, .bool false, .bool false, .bool false, .bool false, .bool false, .bool false, .bool false, .bool false, .bool false, .bool false, .bool false, .bool false, .bool false, .bool false, .bool false, .bool false, .bool false] 47] _ := hM
    refine S.val hA (R.assign rfl) rfl ?_; clear hA a; intro a hA
    refine S.done ?_
    replace hA : St 62 [(0, _), (1, _), (6, _), (7, _)] a := hA.sub ((.cons rfl (.cons rfl (.cons rfl (.cons rfl .nil)))))
    refine Ends.seq ?_
    refine Ends.seq ?_
    refine Ends.region ?_
    refine S.val hA (R.assign rfl) rfl ?_; clear hA a; intro a hA
    refine S.done ?_
    replace hA : St 62 [(0, _), (1, _), (6, _), (7, _), (8, _)] a := hA.sub ((.cons rfl (.cons rfl (.cons rfl (.cons rfl (.cons rfl .nil))))))
    refine Ends.block ?_
    replace hM := hM.front (k := 1) rfl
    replace hM : Mem _ _ [pt b2 #[.bool false, .bool false, .bool false, .bool false, .bool false, .bool false, .bool false, .bool false, .bool false, .bool false, .bool false, .bool false, .bool false, .bool false, .bool false, .bool false, .bool false, .bool false, .bool false, .bool false] 47, own 3 1 (.slice ((some ⟨b4, 0, none⟩)) 0 0) 0 ((([] : List Int)).map (Value.int .i64))] _ := hM
    replace hM : Mem _ _ [pt b2 ((boo (List.replicate 20 false))) 47, own 3 1 (.slice ((some ⟨b4, 0, none⟩)) ((([] : List Int)).length) 0) ((([] : List Int)).length) ((([] : List Int)).map (Value.int .i64))] _ := hM
    refine Ends.loop (σ := Nat × List Bool × Nat × Option Addr × List Int × Nat) (fun (k, sn, rr, oa, Q, oc) (a : Act) (wv : World) => St 62 [(0, .int .i64 ((n : Int))), (1, .int .i64 ((rr : Int))), (6, .pointer (some ⟨b2, 0, none⟩)), (7, .slice oa Q.length oc), (8, .int .i64 ((k : Int)))] a ∧ Mem w nof [pt b2 ((boo sn)) 47, own 3 1 (.slice oa Q.length oc) Q.length (Q.map (Value.int .i64))] wv ∧ (k ≤ n) ∧ (sn.length = 20) ∧ ((filt sn n).length = n - k) ∧ (rr < fac (n - k)) ∧ (Q ++ nthL (n - k) (filt sn n) rr = nthL n (pl n) r)) (fun (k, sn, rr, oa, Q, oc) => n - k) ((0, List.replicate 20 false, r, (some ⟨b4, 0, none⟩), [], 0)) ⟨hA.sub ((.cons rfl (.cons rfl (.cons rfl (.cons rfl (.cons rfl .nil)))))), hM, (Nat.zero_le _), rfl, (by rw [filt_none, pl_len]; rfl), hlt, (by rw [filt_none]; rfl)⟩ ?_
    clear hA hM a
    rintro ⟨k, sn, rr, oa, Q, oc⟩ a w4 ⟨hA, hM, hk, hsnl, hll, hrr, hQ⟩ hNext
    refine Ends.seq ?_
    refine Ends.seq ?_
    refine Ends.region ?_
    refine S.val hA (R.move rfl) rfl ?_; clear hA a; intro a hA
    refine S.val hA (R.move rfl) rfl ?_; clear hA a; intro a hA
    refine S.val hA (R.lss rfl rfl) rfl ?_; clear hA a; intro a hA
    refine S.done ?_
    replace hA : St 62 [(0, _), (1, _), (6, _), (7, _), (8, _), (29, _)] a := hA.sub ((.cons rfl (.cons rfl (.cons rfl (.cons rfl (.cons rfl (.cons rfl .nil)))))))
    refine Ends.ite hA rfl (fun hc6 => ?_) (fun hc6 => ?_)
    ·
      have hqq : (rr : Int) / ((fac (n - 1 - k) : Nat) : Int) = ((rr / fac (n - 1 - k) : Nat) : Int) := (Int.natCast_ediv _ _).symm
      have hqm : (rr : Int) % ((fac (n - 1 - k) : Nat) : Int) = ((rr % fac (n - 1 - k) : Nat) : Int) := (Int.natCast_emod _ _).symm
      have hfp := fac_pos (n - 1 - k)
      have hdl : rr / fac (n - 1 - k) < n - k := by have h9 := div_lt (m := n - 1 - k) (r := rr) (by rw [show n - 1 - k + 1 = n - k by omega]; exact hrr); omega
      have hrl : ((rr / fac (n - 1 - k) : Nat) : Int) ≤ (rr : Int) := Int.ofNat_le.2 (Nat.div_le_self _ _)
      have hnn : 0 ≤ ((rr / fac (n - 1 - k) : Nat) : Int) := Int.natCast_nonneg _
      have hfn : 0 < ((fac (n - 1 - k) : Nat) : Int) := by omega
      have hrf := fac_le (show n - k ≤ 20 by omega)
      refine Ends.skip ?_
      refine Ends.seq ?_
      refine Ends.block ?_
      refine Ends.seq ?_
      refine Ends.region ?_
      refine S.val hA (R.move rfl) rfl ?_; clear hA a; intro a hA
      refine S.val hA (R.subI rfl rfl (r := ((n : Int)) - 1) rfl (by first | omega | exact hqq | exact hqm)) rfl ?_; clear hA a; intro a hA
      refine S.val hA (R.move rfl) rfl ?_; clear hA a; intro a hA
      refine S.val hA (R.subI rfl rfl (r := ((n - 1 - k : Nat) : Int)) (by first | omega | exact hqq | exact hqm) (by first | omega | exact hqq | exact hqm)) rfl ?_; clear hA a; intro a hA
      refine S.call hA (R.callF Try.func33 rfl rfl rfl) rfl (fac09 (n - 1 - k) (by omega) _) ?_; clear hA a
      rintro e w5 ⟨rfl, hb⟩
      replace hM := hM.callB hb; clear hb
      refine ⟨.int .i64 (((fac (n - 1 - k) : Nat) : Int)), rfl, fun a hA => ?_⟩
      refine S.val hA (R.assign rfl) rfl ?_; clear hA a; intro a hA
      refine S.done ?_
      replace hA : St 62 [(0, _), (1, _), (6, _), (7, _), (8, _), (9, _)] a := hA.sub ((.cons rfl (.cons rfl (.cons rfl (.cons rfl (.cons rfl (.cons rfl .nil)))))))
      refine Ends.seq ?_
      refine Ends.region ?_
      refine S.val hA (R.move rfl) rfl ?_; clear hA a; intro a hA
      refine S.val hA (R.move rfl) rfl ?_; clear hA a; intro a hA
      refine S.val hA (R.quoI rfl rfl (r := ((rr / fac (n - 1 - k) : Nat) : Int)) (by first | omega | exact hqq | exact hqm) (by first | omega | exact hqq | exact hqm)) rfl ?_; clear hA a; intro a hA
      refine S.val hA (R.assign rfl) rfl ?_; clear hA a; intro a hA
      refine S.done ?_
      replace hA : St 62 [(0, _), (1, _), (6, _), (7, _), (8, _), (9, _), (10, _)] a := hA.sub ((.cons rfl (.cons rfl (.cons rfl (.cons rfl (.cons rfl (.cons rfl (.cons rfl .nil))))))))
      refine Ends.seq ?_
      refine Ends.region ?_
      refine S.val hA (R.move rfl) rfl ?_; clear hA a; intro a hA
      refine S.val hA (R.move rfl) rfl ?_; clear hA a; intro a hA
      refine S.val hA (R.remI rfl rfl (r := ((rr % fac (n - 1 - k) : Nat) : Int)) (by first | omega | exact hqq | exact hqm) (by first | omega | exact hqq | exact hqm)) rfl ?_; clear hA a; intro a hA
      refine S.val hA (R.assign rfl) rfl ?_; clear hA a; intro a hA
      refine S.done ?_
      replace hA : St 62 [(0, _), (1, _), (6, _), (7, _), (8, _), (10, _)] a := hA.sub ((.cons rfl (.cons rfl (.cons rfl (.cons rfl (.cons rfl (.cons rfl .nil)))))))
      refine Ends.seq ?_
      refine Ends.region ?_
      refine S.val hA (R.assign rfl) rfl ?_; clear hA a; intro a hA
      refine S.done ?_
      replace hA : St 62 [(0, _), (1, _), (6, _), (7, _), (8, _), (10, _), (11, _)] a := hA.sub ((.cons rfl (.cons rfl (.cons rfl (.cons rfl (.cons rfl (.cons rfl (.cons rfl .nil))))))))
      refine Ends.block ?_
      refine Ends.loop (σ := Nat × Nat) (fun (v, sk) (a : Act) (wv : World) => St 62 [(0, .int .i64 ((n : Int))), (1, .int .i64 (((rr % fac (n - 1 - k) : Nat) : Int))), (6, .pointer (some ⟨b2, 0, none⟩)), (7, .slice oa Q.length oc), (8, .int .i64 ((k : Int))), (10, .int .i64 ((sk : Int))), (11, .int .i64 ((v : Int)))] a ∧ Mem w nof [pt b2 ((boo sn)) 47, own 3 1 (.slice oa Q.length oc) Q.length (Q.map (Value.int .i64))] wv ∧ (v ≤ n) ∧ ((filt sn v).length + sk = rr / fac (n - 1 - k))) (fun (v, sk) => n - v) ((0, rr / fac (n - 1 - k))) ⟨hA.sub ((.cons rfl (.cons rfl (.cons rfl (.cons rfl (.cons rfl (.cons rfl (.cons rfl .nil)))))))), hM, (Nat.zero_le _), (by show 0 + _ = _; omega)⟩ ?_
      clear hA hM a
      rintro ⟨v, sk⟩ a w6 ⟨hA, hM, hv, hsk⟩ hNext1
      refine Ends.seq ?_
      refine Ends.seq ?_
      refine Ends.region ?_
      refine S.val hA (R.move rfl) rfl ?_; clear hA a; intro a hA
      refine S.val hA (R.move rfl) rfl ?_; clear hA a; intro a hA
      refine S.val hA (R.lss rfl rfl) rfl ?_; clear hA a; intro a hA
      refine S.done ?_
      replace hA : St 62 [(0, _), (1, _), (6, _), (7, _), (8, _), (10, _), (11, _), (45, _)] a := hA.sub ((.cons rfl (.cons rfl (.cons rfl (.cons rfl (.cons rfl (.cons rfl (.cons rfl (.cons rfl .nil)))))))))
      refine Ends.ite hA rfl (fun hc7 => ?_) (fun hc7 => ?_)
      ·
        refine Ends.skip ?_
        refine Ends.seq ?_
        refine Ends.block ?_
        refine Ends.seq ?_
        refine Ends.seq ?_
        refine Ends.region ?_
        refine S.val hA (R.move rfl) rfl ?_; clear hA a; intro a hA
        refine S.val hA (R.indexAddrA (q := v) ar47 rfl rfl (by first | omega | exact hqq | exact hqm) (by first | omega | exact hqq | exact hqm)) rfl ?_; clear hA a; intro a hA
        refine S.val hA (R.load sz4 rfl (hM.cell (k := 0) rfl (boo_get sn _ (by first | omega | exact hqq | exact hqm)))) rfl ?_; clear hA a; intro a hA
        refine S.done ?_
        replace hA : St 62 [(0, _), (1, _), (6, _), (7, _), (8, _), (10, _), (11, _), (50, _)] a := hA.sub ((.cons rfl (.cons rfl (.cons rfl (.cons rfl (.cons rfl (.cons rfl (.cons rfl (.cons rfl .nil)))))))))
        refine Ends.iteB hA rfl (fun hc8 => ?_) (fun hc8 => ?_)
        ·
          refine Ends.exit rfl ?_
          replace hA : St 62 [(0, _), (1, _), (6, _), (7, _), (8, _), (10, _), (11, _)] a := hA.sub ((.cons rfl (.cons rfl (.cons rfl (.cons rfl (.cons rfl (.cons rfl (.cons rfl .nil))))))))
          refine Ends.region ?_
          refine S.val hA (R.move rfl) rfl ?_; clear hA a; intro a hA
          refine S.val hA (R.addI rfl rfl (r := ((v : Int)) + 1) rfl (by first | omega | exact hqq | exact hqm)) rfl ?_; clear hA a; intro a hA
          refine S.val hA (R.assign rfl) rfl ?_; clear hA a; intro a hA
          refine S.done ?_
          replace hA : St 62 [(0, _), (1, _), (6, _), (7, _), (8, _), (10, _), (11, _)] a := hA.sub ((.cons rfl (.cons rfl (.cons rfl (.cons rfl (.cons rfl (.cons rfl (.cons rfl .nil))))))))
          have hfs := filt_succ sn v; rw [if_pos hc8, List.append_nil] at hfs
          exact hNext1 ((v + 1, sk)) _ _ ((by show n - (v + 1) < n - v; omega)) ⟨hA.sub ((.cons rfl (.cons rfl (.cons rfl (.cons rfl (.cons rfl (.cons rfl (.cons rfl .nil)))))))), hM, (by omega), (by rw [hfs]; exact hsk)⟩
        ·
          refine Ends.skip ?_
          refine Ends.seq ?_
          refine Ends.seq ?_
          refine Ends.region ?_
          refine S.val hA (R.move rfl) rfl ?_; clear hA a; intro a hA
          refine S.val hA (R.eql rfl rfl) rfl ?_; clear hA a; intro a hA
          refine S.done ?_
          replace hA : St 62 [(0, _), (1, _), (6, _), (7, _), (8, _), (10, _), (11, _), (52, _)] a := hA.sub ((.cons rfl (.cons rfl (.cons rfl (.cons rfl (.cons rfl (.cons rfl (.cons rfl (.cons rfl .nil)))))))))
          refine Ends.ite hA rfl (fun hc9 => ?_) (fun hc9 => ?_)
          ·
            refine Ends.seq ?_
            refine Ends.region ?_
            refine S.val hA (R.move rfl) rfl ?_; clear hA a; intro a hA
            refine S.val hA (R.indexAddrA (q := v) ar47 rfl rfl (by first | omega | exact hqq | exact hqm) (by first | omega | exact hqq | exact hqm)) rfl ?_; clear hA a; intro a hA
            refine S.store (k := 0) hA hM sz4 rfl rfl rfl rfl (boo_get _ _ (by first | omega | exact hqq | exact hqm)) ?_; clear hM
            intro w7 hM
            rw [boo_set] at hM
            replace hM : Mem _ _ [pt b2 ((boo (sn.set v true))) 47, own 3 1 (.slice oa Q.length oc) Q.length (Q.map (Value.int .i64))] _ := hM
            refine S.done ?_
            replace hA : St 62 [(0, _), (1, _), (6, _), (7, _), (8, _), (10, _), (11, _)] a := hA.sub ((.cons rfl (.cons rfl (.cons rfl (.cons rfl (.cons rfl (.cons rfl (.cons rfl .nil))))))))
            refine Ends.seq ?_
            refine Ends.region ?_
            refine S.val hA (R.move rfl) rfl ?_; clear hA a; intro a hA
            refine S.val hA (R.move rfl) rfl ?_; clear hA a; intro a hA
            refine S.buildSl (cells := #[.int .i64 ((v : Int))]) hA hM Try.underlying22 info3 rfl rfl rfl rfl (by kernel_rfl) rfl ?_; clear hA hM a; intro b10 w8 hb11 hM a hA
            replace hM : Mem _ _ [pt b10 #[.int .i64 ((v : Int))] 3, pt b2 ((boo (sn.set v true))) 47, own 3 1 (.slice oa Q.length oc) Q.length (Q.map (Value.int .i64))] _ := hM
            refine S.append (k := 2) (k2 := 0) hA hM rfl rfl Try.underlying22 info3 rfl rfl rfl rfl rfl rfl rfl rfl rfl (by first | (unfold maxLen; omega) | (have hQl := congrArg List.length hQ; simp only [List.length_append, nthL_len] at hQl; unfold maxLen; omega) | (have hQl := congrArg List.length hQ; simp only [List.length_append, nthL_len] at hQl; show (_ + 1) * 8 ≤ (140737488355328 : Nat); omega)) (by first | (unfold maxLen; omega) | (have hQl := congrArg List.length hQ; simp only [List.length_append, nthL_len] at hQl; unfold maxLen; omega) | (have hQl := congrArg List.length hQ; simp only [List.length_append, nthL_len] at hQl; show (_ + 1) * 8 ≤ (140737488355328 : Nat); omega)) rfl ?_; clear hA hM a; intro a12 c13 w9 hM a hA
            replace hM : Mem _ _ [pt b10 #[.int .i64 ((v : Int))] 3, pt b2 ((boo (sn.set v true))) 47, own 3 1 (.slice a12 (Q.length + 1) c13) (Q.length + 1) (Q.map (Value.int .i64) ++ [.int .i64 ((v : Int))])] _ := hM
            have hl14 : Q.length + 1 = (Q ++ [(v : Int)]).length := by simp
            rw [hl14, show Q.map (Value.int .i64) ++ [.int .i64 ((v : Int))] = (Q ++ [(v : Int)]).map (Value.int .i64) by simp] at hM; rw [hl14] at hA
            clear hl14
            replace hM := hM.drop 0
            replace hM : Mem _ _ [pt b2 ((boo (sn.set v true))) 47, own 3 1 (.slice a12 (((Q ++ [(v : Int)])).length) c13) (((Q ++ [(v : Int)])).length) (((Q ++ [(v : Int)])).map (Value.int .i64))] _ := hM
            refine S.val hA (R.assign rfl) rfl ?_; clear hA a; intro a hA
            refine S.done ?_
            replace hA : St 62 [(0, _), (1, _), (6, _), (7, _), (8, _), (10, _), (11, _)] a := hA.sub ((.cons rfl (.cons rfl (.cons rfl (.cons rfl (.cons rfl (.cons rfl (.cons rfl .nil))))))))
            refine Ends.exit rfl ?_
            replace hA : St 62 [(0, _), (1, _), (6, _), (7, _), (8, _)] a := hA.sub ((.cons rfl (.cons rfl (.cons rfl (.cons rfl (.cons rfl .nil))))))
            refine Ends.inBlock ?_
            refine Ends.region ?_
            refine S.val hA (R.move rfl) rfl ?_; clear hA a; intro a hA
            refine S.val hA (R.addI rfl rfl (r := ((k : Int)) + 1) rfl (by first | omega | exact hqq | exact hqm)) rfl ?_; clear hA a; intro a hA
            refine S.val hA (R.assign rfl) rfl ?_; clear hA a; intro a hA
            refine S.done ?_
            replace hA : St 62 [(0, _), (1, _), (6, _), (7, _), (8, _)] a := hA.sub ((.cons rfl (.cons rfl (.cons rfl (.cons rfl (.cons rfl .nil))))))
            replace hM := hM.firstN 2
            have hns := rnth_step (sn := sn) (by omega) hsnl hn hll (show v < n by omega) hc8 (by omega) hQ
            exact hNext ((k + 1, (sn.set v true), rr % fac (n - 1 - k), a12, (Q ++ [(v : Int)]), c13)) _ _ ((by show n - (k + 1) < n - k; omega)) ⟨hA.sub ((.cons rfl (.cons rfl (.cons rfl (.cons rfl (.cons rfl .nil)))))), hM, (by omega), (by rw [List.length_set]; exact hsnl), hns.2, (by rw [show n - (k + 1) = n - 1 - k by omega]; exact Nat.mod_lt _ (fac_pos _)), hns.1⟩
          ·
            refine Ends.skip ?_
            refine Ends.region ?_
            refine S.val hA (R.move rfl) rfl ?_; clear hA a; intro a hA
            refine S.val hA (R.subI rfl rfl (r := ((sk : Int)) - 1) rfl (by first | omega | exact hqq | exact hqm)) rfl ?_; clear hA a; intro a hA
            refine S.val hA (R.assign rfl) rfl ?_; clear hA a; intro a hA
            refine S.done ?_
            replace hA : St 62 [(0, _), (1, _), (6, _), (7, _), (8, _), (10, _), (11, _)] a := hA.sub ((.cons rfl (.cons rfl (.cons rfl (.cons rfl (.cons rfl (.cons rfl (.cons rfl .nil))))))))
            refine Ends.inBlock ?_
            refine Ends.region ?_
            refine S.val hA (R.move rfl) rfl ?_; clear hA a; intro a hA
            refine S.val hA (R.addI rfl rfl (r := ((v : Int)) + 1) rfl (by first | omega | exact hqq | exact hqm)) rfl ?_; clear hA a; intro a hA
            refine S.val hA (R.assign rfl) rfl ?_; clear hA a; intro a hA
            refine S.done ?_
            replace hA : St 62 [(0, _), (1, _), (6, _), (7, _), (8, _), (10, _), (11, _)] a := hA.sub ((.cons rfl (.cons rfl (.cons rfl (.cons rfl (.cons rfl (.cons rfl (.cons rfl .nil))))))))
            have hfs := congrArg List.length (filt_succ sn v); rw [if_neg (by rw [hc8]; simp), List.length_append] at hfs; simp only [List.length_cons, List.length_nil] at hfs
            rw [show (sk : Int) - 1 = ((sk - 1 : Nat) : Int) by omega] at hA
            exact hNext1 ((v + 1, sk - 1)) _ _ ((by show n - (v + 1) < n - v; omega)) ⟨hA.sub ((.cons rfl (.cons rfl (.cons rfl (.cons rfl (.cons rfl (.cons rfl (.cons rfl .nil)))))))), hM, (by omega), (by omega)⟩
      · exfalso; have e9 : v = n := (by omega); rw [e9] at hsk; omega
    ·
      obtain rfl : n = k := by omega
      rw [Nat.sub_self, nthL, List.append_nil] at hQ
      refine Ends.exit rfl ?_
      replace hA : St 62 [(7, _)] a := hA.sub ((.cons rfl .nil))
      refine Ends.seq ?_
      refine Ends.region ?_
      refine S.val hA (R.move rfl) rfl ?_; clear hA a; intro a hA
      refine S.val hA (R.assign rfl) rfl ?_; clear hA a; intro a hA
      refine S.val hA (R.assign rfl) rfl ?_; clear hA a; intro a hA
      refine S.done ?_
      replace hA : St 62 [(4, _), (5, _)] a := hA.sub ((.cons rfl (.cons rfl .nil)))
      refine Ends.ret2 Try.func23 Try.results23 hA rfl rfl ?_
      have hV : nthV (n : Int) (r : Int) = nthL n (pl n) r := by unfold nthV; rw [if_pos ⟨by omega, by omega, by omega, by rw [Int.toNat_natCast]; omega⟩]; rfl
      have hE : nthE (n : Int) (r : Int) = 0 := by unfold nthE; rw [if_neg (by omega), if_neg (fun h9 => h9 ⟨by omega, by rw [Int.toNat_natCast]; omega⟩)]
      rw [hV, hE]
      rw [← hQ]
      have hr2 := hM.rsl (k := 1) rfl
      exact ⟨_, _, rfl, hr2, Mem.trans0 hbs hM.nilL⟩
theorem nth09 (n rk_ : Int) (h : rk_ ≤ 9223372036854775807) (w : World) : Calls Try.prog 22 #[.int .i64 n, .int .i64 rk_] w fun e w' => ∃ a c, e = .returned (.tuple #[.slice a (nthV n rk_).length c, .int .i64 (nthE n rk_)]) ∧ IntSl w' (.slice a (nthV n rk_).length c) (nthV n rk_) ∧ Below w.heap.size w w' := by
  by_cases h1 : 0 ≤ n ∧ n ≤ 20
  · by_cases h2 : rk_ < 0
    · exact nth_bad2 n rk_ h1 h2 w
    · obtain ⟨m, rfl⟩ : ∃ m : Nat, n = m := ⟨n.toNat, by omega⟩
      obtain ⟨r, rfl⟩ : ∃ r : Nat, rk_ = r := ⟨rk_.toNat, by omega⟩
      exact nth_ok m r (by omega) (by omega) w
  · exact nth_bad1 n rk_ h1 w
theorem rnth09 (n rk_ : Int) (h : rk_ ≤ 9223372036854775807) (w : World) : Calls Try.prog 23 #[.int .i64 n, .int .i64 rk_] w fun e w' => ∃ a c, e = .returned (.tuple #[.slice a (nthV n rk_).length c, .int .i64 (nthE n rk_)]) ∧ IntSl w' (.slice a (nthV n rk_).length c) (nthV n rk_) ∧ Below w.heap.size w w' := by
  by_cases h1 : 0 ≤ n ∧ n ≤ 20
  · by_cases h2 : rk_ < 0
    · exact rnth_bad2 n rk_ h1 h2 w
    · obtain ⟨m, rfl⟩ : ∃ m : Nat, n = m := ⟨n.toNat, by omega⟩
      obtain ⟨r, rfl⟩ : ∃ r : Nat, rk_ = r := ⟨rk_.toNat, by omega⟩
      exact rnth_ok m r (by omega) (by omega) w
  · exact rnth_bad1 n rk_ h1 w
end Go.Proofs.Ytphpbdnmdhlnoaa
