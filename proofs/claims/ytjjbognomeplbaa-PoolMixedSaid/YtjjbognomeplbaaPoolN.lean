/-
  The statements' small helps on package pool; the law PoolNews.
-/
import Derived.Test.YtjjbognomeplbaaPoolA
namespace Go.Proofs.Ytjjbognomeplbaa
open Go.RowKit

set_option maxRecDepth 100000 in
set_option maxHeartbeats 400000 in
theorem pnone_any  (w : World) :
    Calls Try.prog 48 #[] w fun e w' => e = .returned (.pointer none) ∧ w = w' := by
  have hM := Mem.start w
  refine Calls.of_ends (vs := []) Try.func48 rfl Try.ntmps48 rfl ?_
  intro a hA
  replace hA : St 1 [] a := hA
  refine Ends.seq ?_
  refine Ends.region ?_
  refine S.val hA (R.assign rfl) rfl ?_; clear hA a; intro a hA
  refine S.done ?_
  replace hA : St 1 [(0, _)] a := hA.sub ((.cons rfl .nil))
  refine Ends.seq ?_
  refine Ends.region ?_
  refine S.val hA (R.assign rfl) rfl ?_; clear hA a; intro a hA
  refine S.done ?_
  replace hA : St 1 [(0, _)] a := hA.sub ((.cons rfl .nil))
  refine Ends.ret1 Try.func48 Try.results48 hA rfl ?_
  exact ⟨rfl, rfl⟩
set_option maxRecDepth 100000 in
set_option maxHeartbeats 400000 in
theorem prun_any (p q m nb ns ob ws c : Nat) (bs wr n : Int) (os : List Value) (av : Option Addr) (cap : Nat) (o : CellOp) (hmc : m ≠ c) (hwr : 0 ≤ wr ∧ wr < ws) (hlen : os.length = ws) (z : PSt) (hz : SOK bs n z) (hs : z.s < 9223372036854775800) (w : World) (hM : Mem w (feet [pt p #[.pointer (some ⟨q, 0, none⟩), .int .i64 wr, .bool z.t.give, .int .i64 z.t.slot, .int .i64 z.t.ph, .int .i64 z.t.top, .int .i64 z.t.next] 131, pt q #[.pointer (some ⟨m, 0, none⟩), .int .i64 bs, .slice (some ⟨nb, 0, none⟩) ns ns, .slice (some ⟨ob, 0, none⟩) ws ws] 128, pt ob ((vals (os.set wr.toNat (.slice av z.Y.length cap)))) 43, own 3 1 (.slice av z.Y.length cap) z.Y.length (z.Y.map (Value.int .i64)), memO m c z.l z.s o]) [pt p #[.pointer (some ⟨q, 0, none⟩), .int .i64 wr, .bool z.t.give, .int .i64 z.t.slot, .int .i64 z.t.ph, .int .i64 z.t.top, .int .i64 z.t.next] 131, pt q #[.pointer (some ⟨m, 0, none⟩), .int .i64 bs, .slice (some ⟨nb, 0, none⟩) ns ns, .slice (some ⟨ob, 0, none⟩) ws ws] 128, pt ob ((vals (os.set wr.toNat (.slice av z.Y.length cap)))) 43, own 3 1 (.slice av z.Y.length cap) z.Y.length (z.Y.map (Value.int .i64)), memO m c z.l z.s o] w) :
    Calls Try.prog 59 #[.pointer (some ⟨p, 0, none⟩)] w fun e w' => ∃ av' cap' o', e = .returned (.int .i64 (prun bs 5 z).1) ∧ Mem w (feet [pt p #[.pointer (some ⟨q, 0, none⟩), .int .i64 wr, .bool z.t.give, .int .i64 z.t.slot, .int .i64 z.t.ph, .int .i64 z.t.top, .int .i64 z.t.next] 131, pt q #[.pointer (some ⟨m, 0, none⟩), .int .i64 bs, .slice (some ⟨nb, 0, none⟩) ns ns, .slice (some ⟨ob, 0, none⟩) ws ws] 128, pt ob ((vals (os.set wr.toNat (.slice av z.Y.length cap)))) 43, own 3 1 (.slice av z.Y.length cap) z.Y.length (z.Y.map (Value.int .i64)), memO m c z.l z.s o]) (pcks p q m nb ns ob ws c bs wr os av' cap' o' (prun bs 5 z).2) w' := by
  have hM0 : True := trivial  -- have hM
  refine Calls.of_ends (vs := [.pointer (some ⟨p, 0, none⟩)]) Try.func59 rfl Try.ntmps59 rfl ?_
  intro a hA
  replace hA : St 13 [(0, _)] a := hA
  refine Ends.seq ?_
  refine Ends.region ?_
  refine S.val hA (R.assign rfl) rfl ?_; clear hA a; intro a hA
  refine S.done ?_
  replace hA : St 13 [(0, _), (2, _)] a := hA.sub ((.cons rfl (.cons rfl .nil)))
  refine Ends.seq ?_
  refine Ends.seq ?_
  refine Ends.region ?_
  refine S.val hA (R.assign rfl) rfl ?_; clear hA a; intro a hA
  refine S.done ?_
  replace hA : St 13 [(0, _), (2, _), (3, _)] a := hA.sub ((.cons rfl (.cons rfl (.cons rfl .nil))))
  refine Ends.block ?_
  refine Ends.loop (σ := Nat × PAct × List Int × List Int × Int × Option Addr × Nat × CellOp) (fun (k, t1, Y1, l1, s1, av1, cap1, o1) (a : Act) (wv : World) => St 13 [(0, .pointer (some ⟨p, 0, none⟩)), (3, .int .i64 ((k : Int)))] a ∧ Mem w (feet [pt p #[.pointer (some ⟨q, 0, none⟩), .int .i64 wr, .bool z.t.give, .int .i64 z.t.slot, .int .i64 z.t.ph, .int .i64 z.t.top, .int .i64 z.t.next] 131, pt q #[.pointer (some ⟨m, 0, none⟩), .int .i64 bs, .slice (some ⟨nb, 0, none⟩) ns ns, .slice (some ⟨ob, 0, none⟩) ws ws] 128, pt ob ((vals (os.set wr.toNat (.slice av z.Y.length cap)))) 43, own 3 1 (.slice av z.Y.length cap) z.Y.length (z.Y.map (Value.int .i64)), memO m c z.l z.s o]) [pt p #[.pointer (some ⟨q, 0, none⟩), .int .i64 wr, .bool t1.give, .int .i64 t1.slot, .int .i64 t1.ph, .int .i64 t1.top, .int .i64 t1.next] 131, pt q #[.pointer (some ⟨m, 0, none⟩), .int .i64 bs, .slice (some ⟨nb, 0, none⟩) ns ns, .slice (some ⟨ob, 0, none⟩) ws ws] 128, pt ob ((vals (os.set wr.toNat (.slice av1 Y1.length cap1)))) 43, own 3 1 (.slice av1 Y1.length cap1) Y1.length (Y1.map (Value.int .i64)), memO m c l1 s1 o1] wv ∧ (k ≤ 5) ∧ (prun bs 5 z = prun bs (5 - k) ⟨t1, Y1, l1, s1⟩) ∧ (SOK bs n ⟨t1, Y1, l1, s1⟩) ∧ (s1 ≤ z.s + k)) (fun (k, t1, Y1, l1, s1, av1, cap1, o1) => 5 - k) ((0, z.t, z.Y, z.l, z.s, av, cap, o)) ⟨hA.sub ((.cons rfl (.cons rfl .nil))), hM, (by omega), rfl, hz, (by omega)⟩ ?_
  clear hA hM a
  rintro ⟨k, t1, Y1, l1, s1, av1, cap1, o1⟩ a w1 ⟨hA, hM, hk, hr, hz1, hs1⟩ hNext
  refine Ends.seq ?_
  refine Ends.seq ?_
  refine Ends.region ?_
  refine S.val hA (R.move rfl) rfl ?_; clear hA a; intro a hA
  refine S.val hA (R.leq rfl rfl) rfl ?_; clear hA a; intro a hA
  refine S.done ?_
  replace hA : St 13 [(0, _), (3, _), (4, _), (5, _)] a := hA.sub ((.cons rfl (.cons rfl (.cons rfl (.cons rfl .nil)))))
  refine Ends.ite hA rfl (fun hc1 => ?_) (fun hc1 => ?_)
  ·
    refine Ends.skip ?_
    refine Ends.seq ?_
    refine Ends.block ?_
    refine Ends.seq ?_
    refine Ends.seq ?_
    refine Ends.region ?_
    refine S.val hA (R.move rfl) rfl ?_; clear hA a; intro a hA
    refine S.call hA (R.callF Try.func54 rfl rfl rfl) rfl (pact_over p q wr t1 _ (hM.block (k := 0) rfl)) ?_; clear hA a
    rintro e w2 ⟨rfl, rfl⟩
    refine ⟨.bool (decide (t1.ph = 3)), rfl, fun a hA => ?_⟩
    refine S.done ?_
    replace hA : St 13 [(0, _), (3, _), (4, _), (5, _), (8, _), (9, _)] a := hA.sub ((.cons rfl (.cons rfl (.cons rfl (.cons rfl (.cons rfl (.cons rfl .nil)))))))
    refine Ends.ite hA rfl (fun hc2 => ?_) (fun hc2 => ?_)
    ·
      refine Ends.seq ?_
      refine Ends.region ?_
      refine S.val hA (R.move rfl) rfl ?_; clear hA a; intro a hA
      refine S.val hA (R.assign rfl) rfl ?_; clear hA a; intro a hA
      refine S.done ?_
      replace hA : St 13 [(0, _), (2, _), (3, _), (4, _), (5, _), (8, _), (9, _), (10, _)] a := hA.sub ((.cons rfl (.cons rfl (.cons rfl (.cons rfl (.cons rfl (.cons rfl (.cons rfl (.cons rfl .nil)))))))))
      refine Ends.ret1 Try.func59 Try.results59 hA rfl ?_
      have hr2 : prun bs 5 z = ((k : Int), ⟨t1, Y1, l1, s1⟩) := hr.trans (prun_hit (z := ⟨t1, Y1, l1, s1⟩) hc2 (by omega))
      rw [hr2]
      exact ⟨_, _, _, rfl, hM⟩
    ·
      refine Ends.skip ?_
      refine Ends.region ?_
      refine S.val hA (R.move rfl) rfl ?_; clear hA a; intro a hA
      refine S.call hA (R.callF Try.func55 rfl rfl rfl) rfl (pstep_any p q m nb ns ob ws c bs wr n os av1 cap1 o1 hmc hwr hlen ⟨t1, Y1, l1, s1⟩ hz1 (by show s1 < _; omega) _ (hM.hereN 5)) ?_; clear hA a
      rintro e w3 ⟨av2, cap2, o2, rfl, hn⟩
      replace hM : Mem _ _ [pt p #[.pointer (some ⟨q, 0, none⟩), .int .i64 wr, .bool ((pstep bs ⟨t1, Y1, l1, s1⟩).t.give), .int .i64 ((pstep bs ⟨t1, Y1, l1, s1⟩).t.slot), .int .i64 ((pstep bs ⟨t1, Y1, l1, s1⟩).t.ph), .int .i64 ((pstep bs ⟨t1, Y1, l1, s1⟩).t.top), .int .i64 ((pstep bs ⟨t1, Y1, l1, s1⟩).t.next)] 131, pt q #[.pointer (some ⟨m, 0, none⟩), .int .i64 bs, .slice (some ⟨nb, 0, none⟩) ns ns, .slice (some ⟨ob, 0, none⟩) ws ws] 128, pt ob ((vals (os.set wr.toNat (.slice av2 ((pstep bs ⟨t1, Y1, l1, s1⟩).Y).length cap2)))) 43, own 3 1 (.slice av2 (((pstep bs ⟨t1, Y1, l1, s1⟩).Y).length) cap2) (((pstep bs ⟨t1, Y1, l1, s1⟩).Y).length) (((pstep bs ⟨t1, Y1, l1, s1⟩).Y).map (Value.int .i64)), memO m c ((pstep bs ⟨t1, Y1, l1, s1⟩).l) ((pstep bs ⟨t1, Y1, l1, s1⟩).s) o2] _ := hM.callL 5 hn; clear hn
      refine ⟨.bool (decide ((pstep bs ⟨t1, Y1, l1, s1⟩).t.ph = 3)), rfl, fun a hA => ?_⟩
      refine S.done ?_
      replace hA : St 13 [(0, _), (3, _), (4, _), (5, _), (8, _), (9, _), (11, _)] a := hA.sub ((.cons rfl (.cons rfl (.cons rfl (.cons rfl (.cons rfl (.cons rfl (.cons rfl .nil))))))))
      refine Ends.inBlock ?_
      refine Ends.region ?_
      refine S.val hA (R.move rfl) rfl ?_; clear hA a; intro a hA
      refine S.val hA (R.addI rfl rfl (r := ((k : Int)) + 1) rfl (by omega)) rfl ?_; clear hA a; intro a hA
      refine S.val hA (R.assign rfl) rfl ?_; clear hA a; intro a hA
      refine S.done ?_
      replace hA : St 13 [(0, _), (3, _), (4, _), (5, _), (6, _), (7, _), (8, _), (9, _), (11, _)] a := hA.sub ((.cons rfl (.cons rfl (.cons rfl (.cons rfl (.cons rfl (.cons rfl (.cons rfl (.cons rfl (.cons rfl .nil))))))))))
      exact hNext ((k + 1, (pstep bs ⟨t1, Y1, l1, s1⟩).t, (pstep bs ⟨t1, Y1, l1, s1⟩).Y, (pstep bs ⟨t1, Y1, l1, s1⟩).l, (pstep bs ⟨t1, Y1, l1, s1⟩).s, av2, cap2, o2)) _ _ ((by show 5 - (k + 1) < 5 - k; omega)) ⟨hA.sub ((.cons rfl (.cons rfl .nil))), hM, (by omega), (by rw [hr]; exact prun_on (z := ⟨t1, Y1, l1, s1⟩) hc2 (by omega)), (sok_steps hz1), (by have := (pstep_s bs ⟨t1, Y1, l1, s1⟩).2; show (pstep bs ⟨t1, Y1, l1, s1⟩).s ≤ z.s + ((k + 1 : Nat) : Int); have : (pstep bs ⟨t1, Y1, l1, s1⟩).s ≤ s1 + 1 := this; omega)⟩
  ·
    refine Ends.exit rfl ?_
    replace hA : St 13 [] a := hA.sub (.nil)
    refine Ends.seq ?_
    refine Ends.region ?_
    refine S.val hA (R.assign rfl) rfl ?_; clear hA a; intro a hA
    refine S.done ?_
    replace hA : St 13 [(2, _)] a := hA.sub ((.cons rfl .nil))
    refine Ends.ret1 Try.func59 Try.results59 hA rfl ?_
    have hk5 : k = 5 := by omega
    subst hk5
    have hr2 : prun bs 5 z = (-1, ⟨t1, Y1, l1, s1⟩) := hr
    rw [hr2]
    exact ⟨_, _, _, rfl, hM⟩
theorem prun_to (p q m nb ns ob ws c : Nat) (bs wr n : Int) (os : List Value) (av : Option Addr) (cap : Nat) (o : CellOp) (hmc : m ≠ c) (hwr : 0 ≤ wr ∧ wr < ws) (hlen : os.length = ws) (z : PSt) (hz : SOK bs n z) (hs : z.s < 9223372036854775800) (r : Int) (z' : PSt) (hr : prun bs 5 z = (r, z')) (w : World) (hM : Mem w (feet (pcks p q m nb ns ob ws c bs wr os av cap o z)) (pcks p q m nb ns ob ws c bs wr os av cap o z) w) :
    Calls Try.prog 59 #[.pointer (some ⟨p, 0, none⟩)] w fun e w' => ∃ av' cap' o', e = .returned (.int .i64 r) ∧ Mem w (feet (pcks p q m nb ns ob ws c bs wr os av cap o z)) (pcks p q m nb ns ob ws c bs wr os av' cap' o' z') w' := by
  refine (prun_any p q m nb ns ob ws c bs wr n os av cap o hmc hwr hlen z hz hs w hM).mono ?_
  rintro e w' ⟨a1, c1, o1, he, hn⟩
  rw [hr] at he hn
  exact ⟨a1, c1, o1, he, hn⟩
theorem mi_one {x y : Int} (hx : TopOK 1 x) (hy : -1 ≤ y ∧ y < 1) : MI 3 1 [0, 0, 0, x, y] := by
  refine ⟨by omega, by omega, by omega, by simp, by simp, hx, fun j h0 h1 => ?_⟩
  have hj : j = 0 := by omega
  subst hj
  exact hy
set_option maxRecDepth 100000 in
set_option maxHeartbeats 400000 in
theorem pfresh_any (n wk : Int) (hn : 1 ≤ n ∧ n ≤ 4096) (hwk : 1 ≤ wk ∧ wk ≤ 16) (w : World) :
    Calls Try.prog 42 #[.int .i64 n, .int .i64 wk] w fun e w' => ∃ q m c nb ob op, e = .returned (.tuple #[.pointer (some ⟨q, 0, none⟩), .pointer (some ⟨m, 0, none⟩), .bool true]) ∧ m ≠ c ∧ Mem w nof [pt q #[.pointer (some ⟨m, 0, none⟩), .int .i64 3, .slice (some ⟨nb, 0, none⟩) n.toNat n.toNat, .slice (some ⟨ob, 0, none⟩) wk.toNat wk.toNat] 128, pt nb (madeCells #[.slice none 0 0, .int .i64 0] (n.toNat * 2)) 77, pt ob (vals (nils wk.toNat)) 43, memO m c (linkL (List.replicate (3 + (n + 1)).toNat 0) 3 n n.toNat) (0 + 1 + n) op] w' := by
  have hM := Mem.start w
  refine Calls.of_ends (vs := [.int .i64 n, .int .i64 wk]) Try.func42 rfl Try.ntmps42 rfl ?_
  intro a hA
  replace hA : St 33 [(0, _), (1, _)] a := hA
  refine Ends.seq ?_
  refine Ends.region ?_
  refine S.val hA (R.assign rfl) rfl ?_; clear hA a; intro a hA
  refine S.val hA (R.assign rfl) rfl ?_; clear hA a; intro a hA
  refine S.val hA (R.assign rfl) rfl ?_; clear hA a; intro a hA
  refine S.done ?_
  replace hA : St 33 [(0, _), (1, _), (4, _), (5, _), (6, _)] a := hA.sub ((.cons rfl (.cons rfl (.cons rfl (.cons rfl (.cons rfl .nil))))))
  refine Ends.seq ?_
  refine Ends.region ?_
  refine S.val hA (R.move rfl) rfl ?_; clear hA a; intro a hA
  refine S.call hA (R.callF Try.func57 rfl rfl rfl) rfl (pcells_ok n (by first | omega | decide | (simp; done) | (simp; omega)) _) ?_; clear hA a
  rintro e w1 ⟨rfl, rfl⟩
  refine ⟨.int .i64 (n + 1), rfl, fun a hA => ?_⟩
  refine S.val hA (R.addI rfl rfl (r := 3 + (n + 1)) rfl (by omega)) rfl ?_; clear hA a; intro a hA
  refine S.call hA (R.callF Try.func20 rfl rfl rfl) rfl (new_ok (3 + (n + 1)) (by omega) (by omega) _) ?_; clear hA a
  rintro e w2 ⟨m1, c2, rfl, hm1c2, hn⟩
  replace hM : Mem _ _ [memO m1 c2 ((List.replicate (3 + (n + 1)).toNat 0)) 0 ⟨0, 0, 0, 0, false⟩] _ := hM.call hn; clear hn
  refine ⟨.tuple #[.pointer (some ⟨m1, 0, none⟩), .int .i64 0], rfl, fun a hA => ?_⟩
  refine S.val hA (R.move rfl) rfl ?_; clear hA a; intro a hA
  refine S.val hA (R.extract (v := .pointer (some ⟨m1, 0, none⟩)) rfl rfl) rfl ?_; clear hA a; intro a hA
  refine S.val hA (R.extract (v := .int .i64 0) rfl rfl) rfl ?_; clear hA a; intro a hA
  refine S.val hA (R.assign rfl) rfl ?_; clear hA a; intro a hA
  refine S.val hA (R.assign rfl) rfl ?_; clear hA a; intro a hA
  refine S.done ?_
  replace hA : St 33 [(0, _), (1, _), (4, _), (5, _), (6, _), (7, _), (8, _)] a := hA.sub ((.cons rfl (.cons rfl (.cons rfl (.cons rfl (.cons rfl (.cons rfl (.cons rfl .nil))))))))
  refine Ends.seq ?_
  refine Ends.region ?_
  refine S.val hA (R.move rfl) rfl ?_; clear hA a; intro a hA
  refine S.val hA (R.move rfl) rfl ?_; clear hA a; intro a hA
  refine S.val hA (R.move rfl) rfl ?_; clear hA a; intro a hA
  refine S.call hA (R.callF Try.func47 rfl rfl rfl) rfl (pnew_ok m1 c2 ((List.replicate (3 + (n + 1)).toNat 0)) 0 ⟨0, 0, 0, 0, false⟩ hm1c2 3 n wk (by first | omega | decide | (simp; done) | (simp; omega)) (by first | omega | decide | (simp; done) | (simp; omega)) (by first | omega | decide | (simp; done) | (simp; omega)) (by first | omega | decide | (simp; done) | (simp; omega)) (by first | omega | decide | (simp; done) | (simp; omega)) _ (hM.hereN 1)) ?_; clear hA a
  rintro e w3 ⟨p3, nb4, ob5, op6, rfl, hn⟩
  replace hM : Mem _ _ [pt p3 #[.pointer (some ⟨m1, 0, none⟩), .int .i64 3, .slice (some ⟨nb4, 0, none⟩) n.toNat n.toNat, .slice (some ⟨ob5, 0, none⟩) wk.toNat wk.toNat] 128, pt nb4 ((madeCells #[.slice none 0 0, .int .i64 0] (n.toNat * 2))) 77, pt ob5 ((vals (nils wk.toNat))) 43, memO m1 c2 ((linkL ((List.replicate (3 + (n + 1)).toNat 0)) 3 n n.toNat)) (0 + 1 + n) op6] _ := hM.callL 1 hn; clear hn
  refine ⟨.tuple #[.pointer (some ⟨p3, 0, none⟩), .int .i64 0], rfl, fun a hA => ?_⟩
  refine S.val hA (R.move rfl) rfl ?_; clear hA a; intro a hA
  refine S.val hA (R.extract (v := .pointer (some ⟨p3, 0, none⟩)) rfl rfl) rfl ?_; clear hA a; intro a hA
  refine S.val hA (R.extract (v := .int .i64 0) rfl rfl) rfl ?_; clear hA a; intro a hA
  refine S.val hA (R.assign rfl) rfl ?_; clear hA a; intro a hA
  refine S.val hA (R.assign rfl) rfl ?_; clear hA a; intro a hA
  refine S.done ?_
  replace hA : St 33 [(4, _), (5, _), (6, _), (7, _), (8, _), (9, _), (10, _)] a := hA.sub ((.cons rfl (.cons rfl (.cons rfl (.cons rfl (.cons rfl (.cons rfl (.cons rfl .nil))))))))
  refine Ends.seq ?_
  refine Ends.region ?_
  refine S.val hA (R.move rfl) rfl ?_; clear hA a; intro a hA
  refine S.val hA (R.move rfl) rfl ?_; clear hA a; intro a hA
  refine S.val hA (R.move rfl) rfl ?_; clear hA a; intro a hA
  refine S.val hA (R.tt (R.eql rfl rfl) (by first | decide | simp | omega)) rfl ?_; clear hA a; intro a hA
  refine S.val hA (R.move rfl) rfl ?_; clear hA a; intro a hA
  refine S.valg (dj := 29) hA (by kernel_rfl) rfl (R.move rfl) rfl ?_; clear hA a; intro a hA
  refine S.valg (dj := 29) hA (by kernel_rfl) rfl (R.tt (R.eql rfl rfl) (by first | decide | simp | omega)) rfl ?_; clear hA a; intro a hA
  refine S.val hA (R.pickT rfl rfl) rfl ?_; clear hA a; intro a hA
  refine S.val hA (R.assign rfl) rfl ?_; clear hA a; intro a hA
  refine S.val hA (R.assign rfl) rfl ?_; clear hA a; intro a hA
  refine S.val hA (R.assign rfl) rfl ?_; clear hA a; intro a hA
  refine S.done ?_
  replace hA : St 33 [(4, _), (5, _), (6, _)] a := hA.sub ((.cons rfl (.cons rfl (.cons rfl .nil))))
  refine Ends.ret3 Try.func42 Try.results42 hA rfl rfl rfl ?_
  exact ⟨_, _, _, _, _, _, rfl, hm1c2, hM⟩
set_option maxRecDepth 100000 in
set_option maxHeartbeats 400000 in
theorem ppools_any  (w : World) :
    Calls Try.prog 43 #[] w fun e w' => e = .returned (.bool true) ∧ Below w.heap.size w w' := by
  have hM := Mem.start w
  refine Calls.of_ends (vs := []) Try.func43 rfl Try.ntmps43 rfl ?_
  intro a hA
  replace hA : St 51 [] a := hA
  refine Ends.seq ?_
  refine Ends.region ?_
  refine S.val hA (R.assign rfl) rfl ?_; clear hA a; intro a hA
  refine S.done ?_
  replace hA : St 51 [(0, _)] a := hA.sub ((.cons rfl .nil))
  refine Ends.seq ?_
  refine Ends.region ?_
  refine S.call hA (R.callF Try.func42 rfl rfl rfl) rfl (pfresh_any 1 2 (by first | omega | decide | (simp; done) | (simp; omega)) (by first | omega | decide | (simp; done) | (simp; omega)) _) ?_; clear hA a
  rintro e w1 ⟨q1, m2, c3, nb4, ob5, op6, rfl, hm2c3, hn⟩
  replace hM : Mem _ _ [pt q1 #[.pointer (some ⟨m2, 0, none⟩), .int .i64 3, .slice (some ⟨nb4, 0, none⟩) 1 1, .slice (some ⟨ob5, 0, none⟩) 2 2] 128, pt nb4 ((madeCells #[.slice none 0 0, .int .i64 0] (1 * 2))) 77, pt ob5 #[.slice none 0 0, .slice none 0 0] 43, memO m2 c3 [0, 0, 0, 1, -1] 2 op6] _ := hM.call hn; clear hn
  refine ⟨.tuple #[.pointer (some ⟨q1, 0, none⟩), .pointer (some ⟨m2, 0, none⟩), .bool true], rfl, fun a hA => ?_⟩
  refine S.val hA (R.move rfl) rfl ?_; clear hA a; intro a hA
  refine S.val hA (R.extract (v := .pointer (some ⟨q1, 0, none⟩)) rfl rfl) rfl ?_; clear hA a; intro a hA
  refine S.val hA (R.extract (v := .pointer (some ⟨m2, 0, none⟩)) rfl rfl) rfl ?_; clear hA a; intro a hA
  refine S.val hA (R.extract (v := .bool true) rfl rfl) rfl ?_; clear hA a; intro a hA
  refine S.val hA (R.assign rfl) rfl ?_; clear hA a; intro a hA
  refine S.val hA (R.assign rfl) rfl ?_; clear hA a; intro a hA
  refine S.val hA (R.assign rfl) rfl ?_; clear hA a; intro a hA
  refine S.done ?_
  replace hA : St 51 [(0, _), (1, _), (3, _)] a := hA.sub ((.cons rfl (.cons rfl (.cons rfl .nil))))
  refine Ends.seq ?_
  refine Ends.seq ?_
  refine Ends.region ?_
  refine S.val hA (R.move rfl) rfl ?_; clear hA a; intro a hA
  refine S.val hA (R.not rfl) rfl ?_; clear hA a; intro a hA
  refine S.done ?_
  replace hA : St 51 [(0, _), (1, _), (13, _)] a := hA.sub ((.cons rfl (.cons rfl (.cons rfl .nil))))
  refine Ends.condF hA rfl ?_
  refine Ends.skip ?_
  refine Ends.seq ?_
  refine Ends.region ?_
  refine S.val hA (R.move rfl) rfl ?_; clear hA a; intro a hA
  refine S.call hA (R.callF Try.func50 rfl rfl rfl) rfl (ptake_ok q1 m2 nb4 ob5 1 2 3 0 (by first | omega | decide | (simp; done) | (simp; omega)) _ (hM.block (k := 0) rfl)) ?_; clear hA a
  rintro e w2 ⟨r7, rfl, hn⟩
  replace hM : Mem _ _ [pt r7 #[.pointer (some ⟨q1, 0, none⟩), .int .i64 0, .bool false, .int .i64 (-1), .int .i64 0, .int .i64 0, .int .i64 0] 131, pt q1 #[.pointer (some ⟨m2, 0, none⟩), .int .i64 3, .slice (some ⟨nb4, 0, none⟩) 1 1, .slice (some ⟨ob5, 0, none⟩) 2 2] 128, pt nb4 ((madeCells #[.slice none 0 0, .int .i64 0] (1 * 2))) 77, pt ob5 #[.slice none 0 0, .slice none 0 0] 43, memO m2 c3 [0, 0, 0, 1, -1] 2 op6] _ := hM.call hn; clear hn
  refine ⟨.pointer (some ⟨r7, 0, none⟩), rfl, fun a hA => ?_⟩
  refine S.val hA (R.move rfl) rfl ?_; clear hA a; intro a hA
  refine S.call hA (R.callF Try.func50 rfl rfl rfl) rfl (ptake_ok q1 m2 nb4 ob5 1 2 3 1 (by first | omega | decide | (simp; done) | (simp; omega)) _ (hM.block (k := 1) rfl)) ?_; clear hA a
  rintro e w3 ⟨r8, rfl, hn⟩
  replace hM : Mem _ _ [pt r8 #[.pointer (some ⟨q1, 0, none⟩), .int .i64 1, .bool false, .int .i64 (-1), .int .i64 0, .int .i64 0, .int .i64 0] 131, pt r7 #[.pointer (some ⟨q1, 0, none⟩), .int .i64 0, .bool false, .int .i64 (-1), .int .i64 0, .int .i64 0, .int .i64 0] 131, pt q1 #[.pointer (some ⟨m2, 0, none⟩), .int .i64 3, .slice (some ⟨nb4, 0, none⟩) 1 1, .slice (some ⟨ob5, 0, none⟩) 2 2] 128, pt nb4 ((madeCells #[.slice none 0 0, .int .i64 0] (1 * 2))) 77, pt ob5 #[.slice none 0 0, .slice none 0 0] 43, memO m2 c3 [0, 0, 0, 1, -1] 2 op6] _ := hM.call hn; clear hn
  refine ⟨.pointer (some ⟨r8, 0, none⟩), rfl, fun a hA => ?_⟩
  refine S.val hA (R.assign rfl) rfl ?_; clear hA a; intro a hA
  refine S.val hA (R.assign rfl) rfl ?_; clear hA a; intro a hA
  refine S.done ?_
  replace hA : St 51 [(0, _), (1, _), (4, _), (5, _)] a := hA.sub ((.cons rfl (.cons rfl (.cons rfl (.cons rfl .nil)))))
  refine Ends.seq ?_
  refine Ends.seq ?_
  refine Ends.region ?_
  refine S.val hA (R.move rfl) rfl ?_; clear hA a; intro a hA
  replace hM := hM.ownNil 3 1
  replace hM : Mem _ _ [own 3 1 (.slice none ((([] : List Int)).length) 0) ((([] : List Int)).length) ((([] : List Int)).map (Value.int .i64)), pt r8 #[.pointer (some ⟨q1, 0, none⟩), .int .i64 1, .bool false, .int .i64 (-1), .int .i64 0, .int .i64 0, .int .i64 0] 131, pt r7 #[.pointer (some ⟨q1, 0, none⟩), .int .i64 0, .bool false, .int .i64 (-1), .int .i64 0, .int .i64 0, .int .i64 0] 131, pt q1 #[.pointer (some ⟨m2, 0, none⟩), .int .i64 3, .slice (some ⟨nb4, 0, none⟩) 1 1, .slice (some ⟨ob5, 0, none⟩) 2 2] 128, pt nb4 ((madeCells #[.slice none 0 0, .int .i64 0] (1 * 2))) 77, pt ob5 #[.slice none 0 0, .slice none 0 0] 43, memO m2 c3 [0, 0, 0, 1, -1] 2 op6] _ := hM
  replace hM := hM.front (k := 6) rfl
  replace hM := hM.front (k := 1) rfl
  replace hM := hM.front (k := 6) rfl
  replace hM := hM.front (k := 5) rfl
  replace hM := hM.front (k := 5) rfl
  replace hM : Mem _ _ [pt r7 #[.pointer (some ⟨q1, 0, none⟩), .int .i64 0, .bool false, .int .i64 (-1), .int .i64 0, .int .i64 0, .int .i64 0] 131, pt q1 #[.pointer (some ⟨m2, 0, none⟩), .int .i64 3, .slice (some ⟨nb4, 0, none⟩) 1 1, .slice (some ⟨ob5, 0, none⟩) 2 2] 128, pt ob5 #[.slice none 0 0, .slice none 0 0] 43, own 3 1 (.slice none ((([] : List Int)).length) 0) ((([] : List Int)).length) ((([] : List Int)).map (Value.int .i64)), memO m2 c3 [0, 0, 0, 1, -1] 2 op6, pt r8 #[.pointer (some ⟨q1, 0, none⟩), .int .i64 1, .bool false, .int .i64 (-1), .int .i64 0, .int .i64 0, .int .i64 0] 131, pt nb4 ((madeCells #[.slice none 0 0, .int .i64 0] (1 * 2))) 77] _ := hM
  refine S.call hA (R.callF Try.func59 rfl rfl rfl) rfl (prun_to r7 q1 m2 nb4 1 ob5 2 c3 3 0 1 [.slice none 0 0, .slice none 0 0] none 0 op6 hm2c3 (by decide) rfl ⟨⟨false, -1, 0, 0, 0⟩, [], [0, 0, 0, 1, -1], 2⟩ ⟨mi_one ⟨by decide, by decide, by decide⟩ (by decide), aok_take _ _ _ _, (by simp [YOK]), by decide, by decide⟩ (by decide) 3 ⟨⟨false, 0, 3, 1, -1⟩, [], [0, 0, 0, 4294967296, -1], 5⟩ (by kernel_rfl) _ (hM.hereN 5)) ?_; clear hA a
  rintro e w4 ⟨a9, c10, o11, rfl, hn⟩
  replace hM : Mem _ _ [pt r7 #[.pointer (some ⟨q1, 0, none⟩), .int .i64 0, .bool false, .int .i64 0, .int .i64 3, .int .i64 1, .int .i64 (-1)] 131, pt q1 #[.pointer (some ⟨m2, 0, none⟩), .int .i64 3, .slice (some ⟨nb4, 0, none⟩) 1 1, .slice (some ⟨ob5, 0, none⟩) 2 2] 128, pt ob5 #[.slice a9 0 c10, .slice none 0 0] 43, own 3 1 (.slice a9 ((([] : List Int)).length) c10) ((([] : List Int)).length) ((([] : List Int)).map (Value.int .i64)), memO m2 c3 [0, 0, 0, 4294967296, -1] 5 o11, pt r8 #[.pointer (some ⟨q1, 0, none⟩), .int .i64 1, .bool false, .int .i64 (-1), .int .i64 0, .int .i64 0, .int .i64 0] 131, pt nb4 ((madeCells #[.slice none 0 0, .int .i64 0] (1 * 2))) 77] _ := hM.callL 5 hn; clear hn
  refine ⟨.int .i64 3, rfl, fun a hA => ?_⟩
  refine S.val hA (R.ff (R.lss rfl rfl) (by first | decide | simp | omega)) rfl ?_; clear hA a; intro a hA
  refine S.val hA (R.move rfl) rfl ?_; clear hA a; intro a hA
  refine S.valg (dj := 21) hA (by kernel_rfl) rfl (R.move rfl) rfl ?_; clear hA a; intro a hA
  replace hM := hM.ownNil 3 1
  replace hM : Mem _ _ [own 3 1 (.slice none ((([] : List Int)).length) 0) ((([] : List Int)).length) ((([] : List Int)).map (Value.int .i64)), pt r7 #[.pointer (some ⟨q1, 0, none⟩), .int .i64 0, .bool false, .int .i64 0, .int .i64 3, .int .i64 1, .int .i64 (-1)] 131, pt q1 #[.pointer (some ⟨m2, 0, none⟩), .int .i64 3, .slice (some ⟨nb4, 0, none⟩) 1 1, .slice (some ⟨ob5, 0, none⟩) 2 2] 128, pt ob5 #[.slice a9 0 c10, .slice none 0 0] 43, own 3 1 (.slice a9 ((([] : List Int)).length) c10) ((([] : List Int)).length) ((([] : List Int)).map (Value.int .i64)), memO m2 c3 [0, 0, 0, 4294967296, -1] 5 o11, pt r8 #[.pointer (some ⟨q1, 0, none⟩), .int .i64 1, .bool false, .int .i64 (-1), .int .i64 0, .int .i64 0, .int .i64 0] 131, pt nb4 ((madeCells #[.slice none 0 0, .int .i64 0] (1 * 2))) 77] _ := hM
  replace hM := hM.front (k := 5) rfl
  replace hM := hM.front (k := 1) rfl
  replace hM := hM.front (k := 4) rfl
  replace hM := hM.front (k := 4) rfl
  replace hM := hM.front (k := 6) rfl
  replace hM : Mem _ _ [pt r8 #[.pointer (some ⟨q1, 0, none⟩), .int .i64 1, .bool false, .int .i64 (-1), .int .i64 0, .int .i64 0, .int .i64 0] 131, pt q1 #[.pointer (some ⟨m2, 0, none⟩), .int .i64 3, .slice (some ⟨nb4, 0, none⟩) 1 1, .slice (some ⟨ob5, 0, none⟩) 2 2] 128, pt ob5 #[.slice a9 0 c10, .slice none 0 0] 43, own 3 1 (.slice none ((([] : List Int)).length) 0) ((([] : List Int)).length) ((([] : List Int)).map (Value.int .i64)), memO m2 c3 [0, 0, 0, 4294967296, -1] 5 o11, pt r7 #[.pointer (some ⟨q1, 0, none⟩), .int .i64 0, .bool false, .int .i64 0, .int .i64 3, .int .i64 1, .int .i64 (-1)] 131, own 3 1 (.slice a9 ((([] : List Int)).length) c10) ((([] : List Int)).length) ((([] : List Int)).map (Value.int .i64)), pt nb4 ((madeCells #[.slice none 0 0, .int .i64 0] (1 * 2))) 77] _ := hM
  refine S.callg (dj := 21) hA (by kernel_rfl) rfl (R.callF Try.func59 rfl rfl rfl) rfl (prun_to r8 q1 m2 nb4 1 ob5 2 c3 3 1 1 [.slice a9 0 c10, .slice none 0 0] none 0 o11 hm2c3 (by decide) rfl ⟨⟨false, -1, 0, 0, 0⟩, [], [0, 0, 0, 4294967296, -1], 5⟩ ⟨mi_one ⟨by decide, by decide, by decide⟩ (by decide), aok_take _ _ _ _, (by simp [YOK]), by decide, by decide⟩ (by decide) 1 ⟨⟨false, -1, 3, 4294967296, 0⟩, [], [0, 0, 0, 4294967296, -1], 6⟩ (by kernel_rfl) _ (hM.hereN 5)) ?_; clear hA a
  rintro e w5 ⟨a12, c13, o14, rfl, hn⟩
  replace hM : Mem _ _ [pt r8 #[.pointer (some ⟨q1, 0, none⟩), .int .i64 1, .bool false, .int .i64 (-1), .int .i64 3, .int .i64 4294967296, .int .i64 0] 131, pt q1 #[.pointer (some ⟨m2, 0, none⟩), .int .i64 3, .slice (some ⟨nb4, 0, none⟩) 1 1, .slice (some ⟨ob5, 0, none⟩) 2 2] 128, pt ob5 #[.slice a9 0 c10, .slice a12 0 c13] 43, own 3 1 (.slice a12 ((([] : List Int)).length) c13) ((([] : List Int)).length) ((([] : List Int)).map (Value.int .i64)), memO m2 c3 [0, 0, 0, 4294967296, -1] 6 o14, pt r7 #[.pointer (some ⟨q1, 0, none⟩), .int .i64 0, .bool false, .int .i64 0, .int .i64 3, .int .i64 1, .int .i64 (-1)] 131, own 3 1 (.slice a9 ((([] : List Int)).length) c10) ((([] : List Int)).length) ((([] : List Int)).map (Value.int .i64)), pt nb4 ((madeCells #[.slice none 0 0, .int .i64 0] (1 * 2))) 77] _ := hM.callL 5 hn; clear hn
  refine ⟨.int .i64 1, rfl, fun a hA => ?_⟩
  refine S.valg (dj := 21) hA (by kernel_rfl) rfl (R.ff (R.lss rfl rfl) (by first | decide | simp | omega)) rfl ?_; clear hA a; intro a hA
  refine S.val hA (R.pickF rfl rfl) rfl ?_; clear hA a; intro a hA
  refine S.val hA (R.move rfl) rfl ?_; clear hA a; intro a hA
  refine S.valg (dj := 26) hA (by kernel_rfl) rfl (R.move rfl) rfl ?_; clear hA a; intro a hA
  refine S.callg (dj := 26) hA (by kernel_rfl) rfl (R.callF Try.func56 rfl rfl rfl) rfl (pact_slot r7 q1 0 ⟨false, 0, 3, 1, -1⟩ rfl _ (hM.block (k := 5) rfl)) ?_; clear hA a
  rintro e w6 ⟨rfl, rfl⟩
  refine ⟨.int .i64 0, rfl, fun a hA => ?_⟩
  refine S.valg (dj := 26) hA (by kernel_rfl) rfl (R.ff (R.neq rfl rfl) (by first | decide | simp | omega)) rfl ?_; clear hA a; intro a hA
  refine S.val hA (R.pickF rfl rfl) rfl ?_; clear hA a; intro a hA
  refine S.val hA (R.move rfl) rfl ?_; clear hA a; intro a hA
  refine S.valg (dj := 31) hA (by kernel_rfl) rfl (R.move rfl) rfl ?_; clear hA a; intro a hA
  refine S.callg (dj := 31) hA (by kernel_rfl) rfl (R.callF Try.func56 rfl rfl rfl) rfl (pact_slot r8 q1 1 ⟨false, -1, 3, 4294967296, 0⟩ rfl _ (hM.block (k := 0) rfl)) ?_; clear hA a
  rintro e w7 ⟨rfl, rfl⟩
  refine ⟨.int .i64 (-1), rfl, fun a hA => ?_⟩
  refine S.valg (dj := 31) hA (by kernel_rfl) rfl (R.ff (R.neq rfl rfl) (by first | decide | simp | omega)) rfl ?_; clear hA a; intro a hA
  refine S.val hA (R.pickF rfl rfl) rfl ?_; clear hA a; intro a hA
  refine S.done ?_
  replace hA : St 51 [(0, _), (1, _), (35, _)] a := hA.sub ((.cons rfl (.cons rfl (.cons rfl .nil))))
  refine Ends.condF hA rfl ?_
  refine Ends.skip ?_
  refine Ends.seq ?_
  refine Ends.region ?_
  refine S.val hA (R.move rfl) rfl ?_; clear hA a; intro a hA
  refine S.call hA (R.callF Try.func51 rfl rfl rfl) rfl (pgive_ok q1 m2 nb4 1 ob5 2 3 0 0 (by first | omega | decide | (simp; done) | (simp; omega)) (by first | omega | decide | (simp; done) | (simp; omega)) _ (hM.block (k := 1) rfl)) ?_; clear hA a
  rintro e w8 ⟨r15, rfl, hn⟩
  replace hM : Mem _ _ [pt r15 #[.pointer (some ⟨q1, 0, none⟩), .int .i64 0, .bool true, .int .i64 0, .int .i64 0, .int .i64 0, .int .i64 0] 131, pt r8 #[.pointer (some ⟨q1, 0, none⟩), .int .i64 1, .bool false, .int .i64 (-1), .int .i64 3, .int .i64 4294967296, .int .i64 0] 131, pt q1 #[.pointer (some ⟨m2, 0, none⟩), .int .i64 3, .slice (some ⟨nb4, 0, none⟩) 1 1, .slice (some ⟨ob5, 0, none⟩) 2 2] 128, pt ob5 #[.slice a9 0 c10, .slice a12 0 c13] 43, own 3 1 (.slice a12 ((([] : List Int)).length) c13) ((([] : List Int)).length) ((([] : List Int)).map (Value.int .i64)), memO m2 c3 [0, 0, 0, 4294967296, -1] 6 o14, pt r7 #[.pointer (some ⟨q1, 0, none⟩), .int .i64 0, .bool false, .int .i64 0, .int .i64 3, .int .i64 1, .int .i64 (-1)] 131, own 3 1 (.slice a9 ((([] : List Int)).length) c10) ((([] : List Int)).length) ((([] : List Int)).map (Value.int .i64)), pt nb4 ((madeCells #[.slice none 0 0, .int .i64 0] (1 * 2))) 77] _ := hM.call hn; clear hn
  refine ⟨.pointer (some ⟨r15, 0, none⟩), rfl, fun a hA => ?_⟩
  refine S.val hA (R.assign rfl) rfl ?_; clear hA a; intro a hA
  refine S.done ?_
  replace hA : St 51 [(0, _), (1, _), (6, _)] a := hA.sub ((.cons rfl (.cons rfl (.cons rfl .nil))))
  refine Ends.seq ?_
  refine Ends.region ?_
  refine S.val hA (R.move rfl) rfl ?_; clear hA a; intro a hA
  replace hM := hM.front (k := 5) rfl
  replace hM := hM.front (k := 7) rfl
  replace hM := hM.front (k := 5) rfl
  replace hM := hM.front (k := 5) rfl
  replace hM := hM.front (k := 4) rfl
  replace hM : Mem _ _ [pt r15 #[.pointer (some ⟨q1, 0, none⟩), .int .i64 0, .bool true, .int .i64 0, .int .i64 0, .int .i64 0, .int .i64 0] 131, pt q1 #[.pointer (some ⟨m2, 0, none⟩), .int .i64 3, .slice (some ⟨nb4, 0, none⟩) 1 1, .slice (some ⟨ob5, 0, none⟩) 2 2] 128, pt ob5 #[.slice a9 0 c10, .slice a12 0 c13] 43, own 3 1 (.slice a9 ((([] : List Int)).length) c10) ((([] : List Int)).length) ((([] : List Int)).map (Value.int .i64)), memO m2 c3 [0, 0, 0, 4294967296, -1] 6 o14, pt r8 #[.pointer (some ⟨q1, 0, none⟩), .int .i64 1, .bool false, .int .i64 (-1), .int .i64 3, .int .i64 4294967296, .int .i64 0] 131, own 3 1 (.slice a12 ((([] : List Int)).length) c13) ((([] : List Int)).length) ((([] : List Int)).map (Value.int .i64)), pt r7 #[.pointer (some ⟨q1, 0, none⟩), .int .i64 0, .bool false, .int .i64 0, .int .i64 3, .int .i64 1, .int .i64 (-1)] 131, pt nb4 ((madeCells #[.slice none 0 0, .int .i64 0] (1 * 2))) 77] _ := hM
  refine S.call hA (R.callF Try.func59 rfl rfl rfl) rfl (prun_to r15 q1 m2 nb4 1 ob5 2 c3 3 0 1 [.slice a9 0 c10, .slice a12 0 c13] a9 c10 o14 hm2c3 (by decide) rfl ⟨⟨true, 0, 0, 0, 0⟩, [], [0, 0, 0, 4294967296, -1], 6⟩ ⟨mi_one ⟨by decide, by decide, by decide⟩ (by decide), aok_give (by decide) _ _, (by simp [YOK]), by decide, by decide⟩ (by decide) 1 ⟨⟨true, 0, 3, 0, 0⟩, [0], [0, 0, 0, 4294967296, -1], 6⟩ (by kernel_rfl) _ (hM.hereN 5)) ?_; clear hA a
  rintro e w9 ⟨a16, c17, o18, rfl, hn⟩
  replace hM : Mem _ _ [pt r15 #[.pointer (some ⟨q1, 0, none⟩), .int .i64 0, .bool true, .int .i64 0, .int .i64 3, .int .i64 0, .int .i64 0] 131, pt q1 #[.pointer (some ⟨m2, 0, none⟩), .int .i64 3, .slice (some ⟨nb4, 0, none⟩) 1 1, .slice (some ⟨ob5, 0, none⟩) 2 2] 128, pt ob5 #[.slice a16 1 c17, .slice a12 0 c13] 43, own 3 1 (.slice a16 ((([0] : List Int)).length) c17) ((([0] : List Int)).length) ((([0] : List Int)).map (Value.int .i64)), memO m2 c3 [0, 0, 0, 4294967296, -1] 6 o18, pt r8 #[.pointer (some ⟨q1, 0, none⟩), .int .i64 1, .bool false, .int .i64 (-1), .int .i64 3, .int .i64 4294967296, .int .i64 0] 131, own 3 1 (.slice a12 ((([] : List Int)).length) c13) ((([] : List Int)).length) ((([] : List Int)).map (Value.int .i64)), pt r7 #[.pointer (some ⟨q1, 0, none⟩), .int .i64 0, .bool false, .int .i64 0, .int .i64 3, .int .i64 1, .int .i64 (-1)] 131, pt nb4 ((madeCells #[.slice none 0 0, .int .i64 0] (1 * 2))) 77] _ := hM.callL 5 hn; clear hn
  refine ⟨.int .i64 1, rfl, fun a hA => ?_⟩
  refine S.val hA (R.tt (R.geq rfl rfl) (by first | decide | simp | omega)) rfl ?_; clear hA a; intro a hA
  refine S.val hA (R.move rfl) rfl ?_; clear hA a; intro a hA
  refine S.valg (dj := 41) hA (by kernel_rfl) rfl (R.move rfl) rfl ?_; clear hA a; intro a hA
  refine S.callg (dj := 41) hA (by kernel_rfl) rfl (R.callF Try.func56 rfl rfl rfl) rfl (pact_slot r15 q1 0 ⟨true, 0, 3, 0, 0⟩ rfl _ (hM.block (k := 0) rfl)) ?_; clear hA a
  rintro e w10 ⟨rfl, rfl⟩
  refine ⟨.int .i64 0, rfl, fun a hA => ?_⟩
  refine S.valg (dj := 41) hA (by kernel_rfl) rfl (R.tt (R.eql rfl rfl) (by first | decide | simp | omega)) rfl ?_; clear hA a; intro a hA
  refine S.val hA (R.pickT rfl rfl) rfl ?_; clear hA a; intro a hA
  refine S.val hA (R.move rfl) rfl ?_; clear hA a; intro a hA
  refine S.valg (dj := 46) hA (by kernel_rfl) rfl (R.move rfl) rfl ?_; clear hA a; intro a hA
  refine S.callg (dj := 46) hA (by kernel_rfl) rfl (R.callF Try.func49 rfl rfl rfl) rfl (pslots q1 m2 nb4 ob5 1 2 3 _ (hM.block (k := 1) rfl)) ?_; clear hA a
  rintro e w11 ⟨rfl, rfl⟩
  refine ⟨.int .i64 1, rfl, fun a hA => ?_⟩
  refine S.valg (dj := 46) hA (by kernel_rfl) rfl (R.tt (R.eql rfl rfl) (by first | decide | simp | omega)) rfl ?_; clear hA a; intro a hA
  refine S.val hA (R.pickT rfl rfl) rfl ?_; clear hA a; intro a hA
  refine S.val hA (R.assign rfl) rfl ?_; clear hA a; intro a hA
  refine S.done ?_
  replace hA : St 51 [(0, _)] a := hA.sub ((.cons rfl .nil))
  refine Ends.ret1 Try.func43 Try.results43 hA rfl ?_
  exact ⟨rfl, hM.nilL.below⟩
set_option maxRecDepth 100000 in
set_option maxHeartbeats 400000 in
theorem poolNews_small (slots wk rm : Int) (hb : ¬ (50 < slots ∧ slots ≤ 4096)) (_hs : -9223372036854775808 ≤ slots ∧ slots ≤ 9223372036854775807) (w : World) :
    Calls Try.prog 10 #[.int .i64 slots, .int .i64 wk, .int .i64 rm] w fun e w' => e = .returned (.bool true) ∧ Below w.heap.size w w' := by
  have hM := Mem.start w
  refine Calls.of_ends (vs := [.int .i64 slots, .int .i64 wk, .int .i64 rm]) Try.func10 rfl Try.ntmps10 rfl ?_
  intro a hA
  replace hA : St 179 [(0, _), (1, _), (2, _)] a := hA
  refine Ends.seq ?_
  refine Ends.region ?_
  refine S.val hA (R.assign rfl) rfl ?_; clear hA a; intro a hA
  refine S.done ?_
  replace hA : St 179 [(0, _), (1, _), (2, _), (6, _)] a := hA.sub ((.cons rfl (.cons rfl (.cons rfl (.cons rfl .nil)))))
  refine Ends.seq ?_
  refine Ends.seq ?_
  refine Ends.cut (fun (a : Act) (wv : World) => St 179 [(0, .int .i64 slots), (1, .int .i64 wk), (2, .int .i64 rm), (6, .bool false), (21, .bool (decide ((50 < slots ∧ slots ≤ 4096))))] a ∧ Mem w nof [] wv) ?_ (fun k2 hJ => ?_)
  · clear hA hM a; rintro a w1 ⟨hA, hM⟩
    refine Ends.ite hA rfl (fun hc1 => ?_) (fun hc1 => ?_)
    · exfalso; omega
    ·
      refine Ends.skip ?_
      refine Ends.seq ?_
      refine Ends.region ?_
      refine S.val hA (R.move rfl) rfl ?_; clear hA a; intro a hA
      refine S.val hA (R.conv Try.underlying22 Try.underlying3 rfl) rfl ?_; clear hA a; intro a hA
      refine S.val hA (R.remI rfl rfl rfl ⟨u64_nn _, by decide⟩) rfl ?_; clear hA a; intro a hA
      obtain ⟨n2, hn3, en4⟩ := umod_ex rm 5000 (by decide)
      refine S.val hA (R.to (v := .int .i64 (n2 : Int)) (R.conv Try.underlying3 Try.underlying22 rfl) (congrArg (Value.int .i64) en4)) rfl ?_; clear hA a; intro a hA
      refine S.val hA (R.assign rfl) rfl ?_; clear hA a; intro a hA
      refine S.done ?_
      replace hA : St 179 [(0, _), (1, _), (6, _), (7, _)] a := hA.sub ((.cons rfl (.cons rfl (.cons rfl (.cons rfl .nil)))))
      refine Ends.seq ?_
      refine Ends.region ?_
      refine S.val hA (R.move rfl) rfl ?_; clear hA a; intro a hA
      refine S.call hA (R.callF Try.func20 rfl rfl rfl) rfl (new_ok ((n2 : Int)) (by omega) (by omega) _) ?_; clear hA a
      rintro e w2 ⟨m5, c6, rfl, hm5c6, hn⟩
      replace hM : Mem _ _ [memO m5 c6 ((List.replicate ((n2 : Int)).toNat 0)) 0 ⟨0, 0, 0, 0, false⟩] _ := hM.call hn; clear hn
      refine ⟨.tuple #[.pointer (some ⟨m5, 0, none⟩), .int .i64 0], rfl, fun a hA => ?_⟩
      refine S.val hA (R.move rfl) rfl ?_; clear hA a; intro a hA
      refine S.val hA (R.extract (v := .pointer (some ⟨m5, 0, none⟩)) rfl rfl) rfl ?_; clear hA a; intro a hA
      refine S.val hA (R.extract (v := .int .i64 0) rfl rfl) rfl ?_; clear hA a; intro a hA
      refine S.val hA (R.assign rfl) rfl ?_; clear hA a; intro a hA
      refine S.val hA (R.assign rfl) rfl ?_; clear hA a; intro a hA
      refine S.done ?_
      replace hA : St 179 [(0, _), (1, _), (6, _), (7, _), (8, _), (9, _)] a := hA.sub ((.cons rfl (.cons rfl (.cons rfl (.cons rfl (.cons rfl (.cons rfl .nil)))))))
      refine Ends.seq ?_
      by_cases hs7 : 1 ≤ slots ∧ slots ≤ 4096
      ·
        by_cases hs8 : 1 ≤ slots ∧ slots ≤ 4096 ∧ 1 ≤ wk ∧ wk ≤ 16 ∧ 2 + slots + 1 ≤ (n2 : Int)
        ·
          refine Ends.region ?_
          refine S.val hA (R.move rfl) rfl ?_; clear hA a; intro a hA
          refine S.val hA (R.move rfl) rfl ?_; clear hA a; intro a hA
          refine S.val hA (R.move rfl) rfl ?_; clear hA a; intro a hA
          refine S.call hA (R.callF Try.func47 rfl rfl rfl) rfl (pnew_ok m5 c6 ((List.replicate ((n2 : Int)).toNat 0)) 0 ⟨0, 0, 0, 0, false⟩ hm5c6 2 slots wk (by first | omega | decide | (simp; done) | (simp; omega)) (by first | omega | decide | (simp; done) | (simp; omega)) (by first | omega | decide | (simp; done) | (simp; omega)) (by first | omega | decide | (simp; done) | (simp; omega)) (by first | omega | decide | (simp; done) | (simp; omega)) _ (hM.hereN 1)) ?_; clear hA a
          rintro e w3 ⟨p9, nb10, ob11, op12, rfl, hn⟩
          replace hM : Mem _ _ [pt p9 #[.pointer (some ⟨m5, 0, none⟩), .int .i64 2, .slice (some ⟨nb10, 0, none⟩) slots.toNat slots.toNat, .slice (some ⟨ob11, 0, none⟩) wk.toNat wk.toNat] 128, pt nb10 ((madeCells #[.slice none 0 0, .int .i64 0] (slots.toNat * 2))) 77, pt ob11 ((vals (nils wk.toNat))) 43, memO m5 c6 ((linkL ((List.replicate ((n2 : Int)).toNat 0)) 2 slots slots.toNat)) (0 + 1 + slots) op12] _ := hM.callL 1 hn; clear hn
          refine ⟨.tuple #[.pointer (some ⟨p9, 0, none⟩), .int .i64 0], rfl, fun a hA => ?_⟩
          refine S.val hA (R.move rfl) rfl ?_; clear hA a; intro a hA
          refine S.val hA (R.extract (v := .pointer (some ⟨p9, 0, none⟩)) rfl rfl) rfl ?_; clear hA a; intro a hA
          refine S.val hA (R.extract (v := .int .i64 0) rfl rfl) rfl ?_; clear hA a; intro a hA
          refine S.val hA (R.assign rfl) rfl ?_; clear hA a; intro a hA
          refine S.val hA (R.assign rfl) rfl ?_; clear hA a; intro a hA
          refine S.done ?_
          replace hA : St 179 [(0, _), (1, _), (6, _), (7, _), (9, _), (10, _), (11, _)] a := hA.sub ((.cons rfl (.cons rfl (.cons rfl (.cons rfl (.cons rfl (.cons rfl (.cons rfl .nil))))))))
          refine Ends.seq ?_
          refine Ends.region ?_
          refine S.call hA (R.callF Try.func47 rfl rfl rfl) rfl (pnew_nil 0 1 1 (by first | omega | decide | (simp; done) | (simp; omega)) _) ?_; clear hA a
          rintro e w4 ⟨rfl, rfl⟩
          refine ⟨.tuple #[.pointer none, .int .i64 1], rfl, fun a hA => ?_⟩
          refine S.val hA (R.move rfl) rfl ?_; clear hA a; intro a hA
          refine S.val hA (R.extract (v := .pointer none) rfl rfl) rfl ?_; clear hA a; intro a hA
          refine S.val hA (R.extract (v := .int .i64 1) rfl rfl) rfl ?_; clear hA a; intro a hA
          refine S.val hA (R.assign rfl) rfl ?_; clear hA a; intro a hA
          refine S.val hA (R.assign rfl) rfl ?_; clear hA a; intro a hA
          refine S.done ?_
          replace hA : St 179 [(0, _), (1, _), (6, _), (7, _), (9, _), (10, _), (11, _), (13, _)] a := hA.sub ((.cons rfl (.cons rfl (.cons rfl (.cons rfl (.cons rfl (.cons rfl (.cons rfl (.cons rfl .nil)))))))))
          refine Ends.seq ?_
          refine Ends.region ?_
          refine S.val hA (R.assign rfl) rfl ?_; clear hA a; intro a hA
          refine S.done ?_
          replace hA : St 179 [(0, _), (1, _), (6, _), (7, _), (9, _), (10, _), (11, _), (13, _), (14, _)] a := hA.sub ((.cons rfl (.cons rfl (.cons rfl (.cons rfl (.cons rfl (.cons rfl (.cons rfl (.cons rfl (.cons rfl .nil))))))))))
          refine Ends.seq ?_
          refine Ends.seq ?_
          refine Ends.region ?_
          refine S.call hA (R.callF Try.func43 rfl rfl rfl) rfl (ppools_any _) ?_; clear hA a
          rintro e w5 ⟨rfl, hb⟩
          replace hM := hM.callB hb; clear hb
          refine ⟨.bool true, rfl, fun a hA => ?_⟩
          refine S.val hA (R.not rfl) rfl ?_; clear hA a; intro a hA
          refine S.val hA (R.move rfl) rfl ?_; clear hA a; intro a hA
          refine S.valg (dj := 47) hA (by kernel_rfl) rfl (R.move rfl) rfl ?_; clear hA a; intro a hA
          refine S.valg (dj := 47) hA (by kernel_rfl) rfl (R.ff (R.neq rfl rfl) (by first | decide | simp | omega)) rfl ?_; clear hA a; intro a hA
          refine S.val hA (R.pickF rfl rfl) rfl ?_; clear hA a; intro a hA
          refine S.val hA (R.move rfl) rfl ?_; clear hA a; intro a hA
          refine S.valg (dj := 51) hA (by kernel_rfl) rfl (R.move rfl) rfl ?_; clear hA a; intro a hA
          refine S.valg (dj := 51) hA (by kernel_rfl) rfl (R.ff (R.neq rfl rfl) (by first | decide | simp | omega)) rfl ?_; clear hA a; intro a hA
          refine S.val hA (R.pickF rfl rfl) rfl ?_; clear hA a; intro a hA
          refine S.val hA (R.move rfl) rfl ?_; clear hA a; intro a hA
          refine S.callg (dj := 55) hA (by kernel_rfl) rfl (R.callF Try.func48 rfl rfl rfl) rfl (pnone_any _) ?_; clear hA a
          rintro e w6 ⟨rfl, rfl⟩
          refine ⟨.pointer none, rfl, fun a hA => ?_⟩
          refine S.callg (dj := 55) hA (by kernel_rfl) rfl (R.callF Try.func49 rfl rfl rfl) rfl (pslots_nil _) ?_; clear hA a
          rintro e w7 ⟨rfl, rfl⟩
          refine ⟨.int .i64 0, rfl, fun a hA => ?_⟩
          refine S.valg (dj := 55) hA (by kernel_rfl) rfl (R.ff (R.neq rfl rfl) (by first | decide | simp | omega)) rfl ?_; clear hA a; intro a hA
          refine S.val hA (R.pickF rfl rfl) rfl ?_; clear hA a; intro a hA
          refine S.val hA (R.move rfl) rfl ?_; clear hA a; intro a hA
          refine S.callg (dj := 60) hA (by kernel_rfl) rfl (R.callF Try.func48 rfl rfl rfl) rfl (pnone_any _) ?_; clear hA a
          rintro e w8 ⟨rfl, rfl⟩
          refine ⟨.pointer none, rfl, fun a hA => ?_⟩
          refine S.callg (dj := 60) hA (by kernel_rfl) rfl (R.callF Try.func50 rfl rfl rfl) rfl (ptake_nil 0 _) ?_; clear hA a
          rintro e w9 ⟨rfl, rfl⟩
          refine ⟨.pointer none, rfl, fun a hA => ?_⟩
          refine S.valg (dj := 60) hA (by kernel_rfl) rfl (R.neqNil Try.underlying83 rfl rfl) rfl ?_; clear hA a; intro a hA
          refine S.val hA (R.pickF rfl rfl) rfl ?_; clear hA a; intro a hA
          refine S.val hA (R.move rfl) rfl ?_; clear hA a; intro a hA
          refine S.callg (dj := 65) hA (by kernel_rfl) rfl (R.callF Try.func48 rfl rfl rfl) rfl (pnone_any _) ?_; clear hA a
          rintro e w10 ⟨rfl, rfl⟩
          refine ⟨.pointer none, rfl, fun a hA => ?_⟩
          refine S.callg (dj := 65) hA (by kernel_rfl) rfl (R.callF Try.func51 rfl rfl rfl) rfl (pgive_nil 0 0 _) ?_; clear hA a
          rintro e w11 ⟨rfl, rfl⟩
          refine ⟨.pointer none, rfl, fun a hA => ?_⟩
          refine S.valg (dj := 65) hA (by kernel_rfl) rfl (R.neqNil Try.underlying83 rfl rfl) rfl ?_; clear hA a; intro a hA
          refine S.val hA (R.pickF rfl rfl) rfl ?_; clear hA a; intro a hA
          refine S.val hA (R.move rfl) rfl ?_; clear hA a; intro a hA
          refine S.callg (dj := 70) hA (by kernel_rfl) rfl (R.callF Try.func48 rfl rfl rfl) rfl (pnone_any _) ?_; clear hA a
          rintro e w12 ⟨rfl, rfl⟩
          refine ⟨.pointer none, rfl, fun a hA => ?_⟩
          refine S.callg (dj := 70) hA (by kernel_rfl) rfl (R.callF Try.func52 rfl rfl rfl) rfl (pown_nil 0 _) ?_; clear hA a
          rintro e w13 ⟨rfl, rfl⟩
          refine ⟨.slice none 0 0, rfl, fun a hA => ?_⟩
          refine S.valg (dj := 70) hA (by kernel_rfl) rfl (R.lenS Try.underlying43 rfl rfl) rfl ?_; clear hA a; intro a hA
          refine S.valg (dj := 70) hA (by kernel_rfl) rfl (R.ff (R.neq rfl rfl) (by first | decide | simp | omega)) rfl ?_; clear hA a; intro a hA
          refine S.val hA (R.pickF rfl rfl) rfl ?_; clear hA a; intro a hA
          refine S.val hA (R.move rfl) rfl ?_; clear hA a; intro a hA
          refine S.callg (dj := 76) hA (by kernel_rfl) rfl (R.callF Try.func48 rfl rfl rfl) rfl (pnone_any _) ?_; clear hA a
          rintro e w14 ⟨rfl, rfl⟩
          refine ⟨.pointer none, rfl, fun a hA => ?_⟩
          refine S.callg (dj := 76) hA (by kernel_rfl) rfl (R.callF Try.func53 rfl rfl rfl) rfl (pshared_nil _) ?_; clear hA a
          rintro e w15 ⟨rfl, rfl⟩
          refine ⟨.slice none 0 0, rfl, fun a hA => ?_⟩
          refine S.valg (dj := 76) hA (by kernel_rfl) rfl (R.lenS Try.underlying43 rfl rfl) rfl ?_; clear hA a; intro a hA
          refine S.valg (dj := 76) hA (by kernel_rfl) rfl (R.ff (R.neq rfl rfl) (by first | decide | simp | omega)) rfl ?_; clear hA a; intro a hA
          refine S.val hA (R.pickF rfl rfl) rfl ?_; clear hA a; intro a hA
          refine S.val hA (R.move rfl) rfl ?_; clear hA a; intro a hA
          refine S.valg (dj := 82) hA (by kernel_rfl) rfl (R.move rfl) rfl ?_; clear hA a; intro a hA
          refine S.callg (dj := 82) hA (by kernel_rfl) rfl (R.callF Try.func54 rfl rfl rfl) rfl (pover_nil _) ?_; clear hA a
          rintro e w16 ⟨rfl, rfl⟩
          refine ⟨.bool true, rfl, fun a hA => ?_⟩
          refine S.valg (dj := 82) hA (by kernel_rfl) rfl (R.not rfl) rfl ?_; clear hA a; intro a hA
          refine S.val hA (R.pickF rfl rfl) rfl ?_; clear hA a; intro a hA
          refine S.val hA (R.move rfl) rfl ?_; clear hA a; intro a hA
          refine S.valg (dj := 87) hA (by kernel_rfl) rfl (R.move rfl) rfl ?_; clear hA a; intro a hA
          refine S.callg (dj := 87) hA (by kernel_rfl) rfl (R.callF Try.func55 rfl rfl rfl) rfl (pstep_nil _) ?_; clear hA a
          rintro e w17 ⟨rfl, rfl⟩
          refine ⟨.bool true, rfl, fun a hA => ?_⟩
          refine S.valg (dj := 87) hA (by kernel_rfl) rfl (R.not rfl) rfl ?_; clear hA a; intro a hA
          refine S.val hA (R.pickF rfl rfl) rfl ?_; clear hA a; intro a hA
          refine S.val hA (R.move rfl) rfl ?_; clear hA a; intro a hA
          refine S.valg (dj := 92) hA (by kernel_rfl) rfl (R.move rfl) rfl ?_; clear hA a; intro a hA
          refine S.callg (dj := 92) hA (by kernel_rfl) rfl (R.callF Try.func56 rfl rfl rfl) rfl (pslot_nil _) ?_; clear hA a
          rintro e w18 ⟨rfl, rfl⟩
          refine ⟨.int .i64 (-1), rfl, fun a hA => ?_⟩
          refine S.valg (dj := 92) hA (by kernel_rfl) rfl (R.ff (R.neq rfl rfl) (by first | decide | simp | omega)) rfl ?_; clear hA a; intro a hA
          refine S.val hA (R.pickF rfl rfl) rfl ?_; clear hA a; intro a hA
          refine S.done ?_
          replace hA : St 179 [(0, _), (1, _), (6, _), (7, _), (10, _), (11, _), (96, _)] a := hA.sub ((.cons rfl (.cons rfl (.cons rfl (.cons rfl (.cons rfl (.cons rfl (.cons rfl .nil))))))))
          refine Ends.condF hA rfl ?_
          refine Ends.skip ?_
          refine Ends.seq ?_
          refine Ends.region ?_
          refine S.val hA (R.move rfl) rfl ?_; clear hA a; intro a hA
          refine S.val hA (R.tt (R.geq rfl rfl) (by omega)) rfl ?_; clear hA a; intro a hA
          refine S.val hA (R.move rfl) rfl ?_; clear hA a; intro a hA
          refine S.valg (dj := 99) hA (by kernel_rfl) rfl (R.move rfl) rfl ?_; clear hA a; intro a hA
          refine S.valg (dj := 99) hA (by kernel_rfl) rfl (R.tt (R.leq rfl rfl) (by omega)) rfl ?_; clear hA a; intro a hA
          refine S.val hA (R.pickT rfl rfl) rfl ?_; clear hA a; intro a hA
          refine S.val hA (R.move rfl) rfl ?_; clear hA a; intro a hA
          refine S.valg (dj := 103) hA (by kernel_rfl) rfl (R.move rfl) rfl ?_; clear hA a; intro a hA
          refine S.valg (dj := 103) hA (by kernel_rfl) rfl (R.tt (R.geq rfl rfl) (by omega)) rfl ?_; clear hA a; intro a hA
          refine S.val hA (R.pickT rfl rfl) rfl ?_; clear hA a; intro a hA
          refine S.val hA (R.move rfl) rfl ?_; clear hA a; intro a hA
          refine S.valg (dj := 107) hA (by kernel_rfl) rfl (R.move rfl) rfl ?_; clear hA a; intro a hA
          refine S.valg (dj := 107) hA (by kernel_rfl) rfl (R.tt (R.leq rfl rfl) (by omega)) rfl ?_; clear hA a; intro a hA
          refine S.val hA (R.pickT rfl rfl) rfl ?_; clear hA a; intro a hA
          refine S.val hA (R.move rfl) rfl ?_; clear hA a; intro a hA
          refine S.valg (dj := 111) hA (by kernel_rfl) rfl (R.move rfl) rfl ?_; clear hA a; intro a hA
          refine S.valg (dj := 111) hA (by kernel_rfl) rfl (R.move rfl) rfl ?_; clear hA a; intro a hA
          refine S.valg (dj := 111) hA (by kernel_rfl) rfl (R.addI rfl rfl (r := 2 + slots) rfl (by omega)) rfl ?_; clear hA a; intro a hA
          refine S.valg (dj := 111) hA (by kernel_rfl) rfl (R.addI rfl rfl (r := (2 + slots) + 1) rfl (by omega)) rfl ?_; clear hA a; intro a hA
          refine S.valg (dj := 111) hA (by kernel_rfl) rfl (R.tt (R.geq rfl rfl) (by omega)) rfl ?_; clear hA a; intro a hA
          refine S.val hA (R.pickT rfl rfl) rfl ?_; clear hA a; intro a hA
          refine S.val hA (R.assign rfl) rfl ?_; clear hA a; intro a hA
          refine S.done ?_
          replace hA : St 179 [(0, _), (1, _), (6, _), (10, _), (11, _), (15, _)] a := hA.sub ((.cons rfl (.cons rfl (.cons rfl (.cons rfl (.cons rfl (.cons rfl .nil)))))))
          refine Ends.seq ?_
          refine Ends.seq ?_
          refine Ends.region ?_
          refine S.val hA (R.move rfl) rfl ?_; clear hA a; intro a hA
          refine S.val hA (R.not rfl) rfl ?_; clear hA a; intro a hA
          refine S.done ?_
          replace hA : St 179 [(0, _), (1, _), (6, _), (10, _), (11, _), (119, _)] a := hA.sub ((.cons rfl (.cons rfl (.cons rfl (.cons rfl (.cons rfl (.cons rfl .nil)))))))
          refine Ends.condF hA rfl ?_
          refine Ends.skip ?_
          refine Ends.seq ?_
          refine Ends.region ?_
          refine S.val hA (R.move rfl) rfl ?_; clear hA a; intro a hA
          refine S.val hA (R.tt (R.eql rfl rfl) (by first | decide | simp | omega)) rfl ?_; clear hA a; intro a hA
          refine S.val hA (R.move rfl) rfl ?_; clear hA a; intro a hA
          refine S.valg (dj := 143) hA (by kernel_rfl) rfl (R.move rfl) rfl ?_; clear hA a; intro a hA
          refine S.callg (dj := 143) hA (by kernel_rfl) rfl (R.callF Try.func49 rfl rfl rfl) rfl (pslots p9 m5 nb10 ob11 slots.toNat wk.toNat 2 _ (hM.block (k := 0) rfl)) ?_; clear hA a
          rintro e w19 ⟨rfl, rfl⟩
          refine ⟨.int .i64 ((slots.toNat : Int)), rfl, fun a hA => ?_⟩
          refine S.valg (dj := 143) hA (by kernel_rfl) rfl (R.move rfl) rfl ?_; clear hA a; intro a hA
          refine S.valg (dj := 143) hA (by kernel_rfl) rfl (R.tt (R.eql rfl rfl) (by omega)) rfl ?_; clear hA a; intro a hA
          refine S.val hA (R.pickT rfl rfl) rfl ?_; clear hA a; intro a hA
          refine S.val hA (R.move rfl) rfl ?_; clear hA a; intro a hA
          refine S.valg (dj := 149) hA (by kernel_rfl) rfl (R.move rfl) rfl ?_; clear hA a; intro a hA
          replace hM := hM.front (k := 3) rfl
          replace hM := hM.front (k := 1) rfl
          replace hM : Mem _ _ [pt p9 #[.pointer (some ⟨m5, 0, none⟩), .int .i64 2, .slice (some ⟨nb10, 0, none⟩) slots.toNat slots.toNat, .slice (some ⟨ob11, 0, none⟩) wk.toNat wk.toNat] 128, memO m5 c6 ((linkL ((List.replicate ((n2 : Int)).toNat 0)) 2 slots slots.toNat)) (0 + 1 + slots) op12, pt nb10 ((madeCells #[.slice none 0 0, .int .i64 0] (slots.toNat * 2))) 77, pt ob11 ((vals (nils wk.toNat))) 43] _ := hM
          refine S.callg (dj := 149) hA (by kernel_rfl) rfl (R.callF Try.func53 rfl rfl rfl) rfl (pshared_new p9 m5 c6 nb10 ob11 wk.toNat 2 slots ((List.replicate ((n2 : Int)).toNat 0)) (0 + 1 + slots) op12 hm5c6 (by first | omega | decide | (simp; done) | (simp; omega)) (by first | omega | decide | (simp; done) | (simp; omega)) (by first | omega | decide | (simp; done) | (simp; omega)) _ (hM.hereN 2)) ?_; clear hA a
          rintro e w20 ⟨a13, c14, rfl, hn⟩
          replace hM : Mem _ _ [pt p9 #[.pointer (some ⟨m5, 0, none⟩), .int .i64 2, .slice (some ⟨nb10, 0, none⟩) slots.toNat slots.toNat, .slice (some ⟨ob11, 0, none⟩) wk.toNat wk.toNat] 128, memO m5 c6 ((linkL ((List.replicate ((n2 : Int)).toNat 0)) 2 slots slots.toNat)) (0 + 1 + slots) op12, pt nb10 ((madeCells #[.slice none 0 0, .int .i64 0] (slots.toNat * 2))) 77, pt ob11 ((vals (nils wk.toNat))) 43] _ := hM.callL 2 hn; clear hn
          refine ⟨.slice a13 slots.toNat c14, rfl, fun a hA => ?_⟩
          refine S.valg (dj := 149) hA (by kernel_rfl) rfl (R.lenS Try.underlying43 rfl rfl) rfl ?_; clear hA a; intro a hA
          refine S.valg (dj := 149) hA (by kernel_rfl) rfl (R.move rfl) rfl ?_; clear hA a; intro a hA
          refine S.valg (dj := 149) hA (by kernel_rfl) rfl (R.tt (R.eql rfl rfl) (by omega)) rfl ?_; clear hA a; intro a hA
          refine S.val hA (R.pickT rfl rfl) rfl ?_; clear hA a; intro a hA
          refine S.val hA (R.move rfl) rfl ?_; clear hA a; intro a hA
          refine S.valg (dj := 156) hA (by kernel_rfl) rfl (R.move rfl) rfl ?_; clear hA a; intro a hA
          refine S.valg (dj := 156) hA (by kernel_rfl) rfl (R.move rfl) rfl ?_; clear hA a; intro a hA
          refine S.callg (dj := 156) hA (by kernel_rfl) rfl (R.callF Try.func50 rfl rfl rfl) rfl (ptake_high p9 m5 nb10 ob11 slots.toNat wk.toNat 2 wk (by first | omega | decide | (simp; done) | (simp; omega)) _ (hM.block (k := 0) rfl)) ?_; clear hA a
          rintro e w21 ⟨rfl, rfl⟩
          refine ⟨.pointer none, rfl, fun a hA => ?_⟩
          refine S.valg (dj := 156) hA (by kernel_rfl) rfl (R.eqlNil Try.underlying83 rfl rfl) rfl ?_; clear hA a; intro a hA
          refine S.val hA (R.pickT rfl rfl) rfl ?_; clear hA a; intro a hA
          refine S.val hA (R.move rfl) rfl ?_; clear hA a; intro a hA
          refine S.valg (dj := 162) hA (by kernel_rfl) rfl (R.move rfl) rfl ?_; clear hA a; intro a hA
          refine S.callg (dj := 162) hA (by kernel_rfl) rfl (R.callF Try.func50 rfl rfl rfl) rfl (ptake_low p9 m5 nb10 ob11 slots.toNat wk.toNat 2 (-1) (by first | omega | decide | (simp; done) | (simp; omega)) _ (hM.block (k := 0) rfl)) ?_; clear hA a
          rintro e w22 ⟨rfl, rfl⟩
          refine ⟨.pointer none, rfl, fun a hA => ?_⟩
          refine S.valg (dj := 162) hA (by kernel_rfl) rfl (R.eqlNil Try.underlying83 rfl rfl) rfl ?_; clear hA a; intro a hA
          refine S.val hA (R.pickT rfl rfl) rfl ?_; clear hA a; intro a hA
          refine S.val hA (R.move rfl) rfl ?_; clear hA a; intro a hA
          refine S.valg (dj := 167) hA (by kernel_rfl) rfl (R.move rfl) rfl ?_; clear hA a; intro a hA
          refine S.valg (dj := 167) hA (by kernel_rfl) rfl (R.move rfl) rfl ?_; clear hA a; intro a hA
          refine S.callg (dj := 167) hA (by kernel_rfl) rfl (R.callF Try.func51 rfl rfl rfl) rfl (pgive_slot p9 m5 nb10 ob11 slots.toNat wk.toNat 2 0 slots (by first | omega | decide | (simp; done) | (simp; omega)) _ (hM.block (k := 0) rfl)) ?_; clear hA a
          rintro e w23 ⟨rfl, rfl⟩
          refine ⟨.pointer none, rfl, fun a hA => ?_⟩
          refine S.valg (dj := 167) hA (by kernel_rfl) rfl (R.eqlNil Try.underlying83 rfl rfl) rfl ?_; clear hA a; intro a hA
          refine S.val hA (R.pickT rfl rfl) rfl ?_; clear hA a; intro a hA
          refine S.val hA (R.move rfl) rfl ?_; clear hA a; intro a hA
          refine S.valg (dj := 173) hA (by kernel_rfl) rfl (R.move rfl) rfl ?_; clear hA a; intro a hA
          refine S.valg (dj := 173) hA (by kernel_rfl) rfl (R.move rfl) rfl ?_; clear hA a; intro a hA
          refine S.callg (dj := 173) hA (by kernel_rfl) rfl (R.callF Try.func51 rfl rfl rfl) rfl (pgive_high p9 m5 nb10 ob11 slots.toNat wk.toNat 2 wk 0 (by first | omega | decide | (simp; done) | (simp; omega)) (by first | omega | decide | (simp; done) | (simp; omega)) _ (hM.block (k := 0) rfl)) ?_; clear hA a
          rintro e w24 ⟨rfl, rfl⟩
          refine ⟨.pointer none, rfl, fun a hA => ?_⟩
          refine S.valg (dj := 173) hA (by kernel_rfl) rfl (R.eqlNil Try.underlying83 rfl rfl) rfl ?_; clear hA a; intro a hA
          refine S.val hA (R.pickT rfl rfl) rfl ?_; clear hA a; intro a hA
          refine S.val hA (R.assign rfl) rfl ?_; clear hA a; intro a hA
          refine S.done ?_
          replace hA : St 179 [(6, _)] a := hA.sub ((.cons rfl .nil))
          refine Ends.ret1 Try.func10 Try.results10 hA rfl ?_
          exact ⟨rfl, hM.nilL.below⟩
        ·
          refine Ends.region ?_
          refine S.val hA (R.move rfl) rfl ?_; clear hA a; intro a hA
          refine S.val hA (R.move rfl) rfl ?_; clear hA a; intro a hA
          refine S.val hA (R.move rfl) rfl ?_; clear hA a; intro a hA
          refine S.call hA (R.callF Try.func47 rfl rfl rfl) rfl (pnew_badr m5 c6 ((List.replicate ((n2 : Int)).toNat 0)) 0 ⟨0, 0, 0, 0, false⟩ hm5c6 2 slots wk (by first | omega | decide | (simp; done) | (simp; omega)) hs7 (by rw [List.length_replicate]; omega) _ (hM.hereN 1)) ?_; clear hA a
          rintro e w25 ⟨rfl, hn⟩
          replace hM : Mem _ _ [memO m5 c6 ((List.replicate ((n2 : Int)).toNat 0)) 0 ⟨0, 0, 0, 0, false⟩] _ := hM.callL 1 hn; clear hn
          refine ⟨.tuple #[.pointer none, .int .i64 1], rfl, fun a hA => ?_⟩
          refine S.val hA (R.move rfl) rfl ?_; clear hA a; intro a hA
          refine S.val hA (R.extract (v := .pointer none) rfl rfl) rfl ?_; clear hA a; intro a hA
          refine S.val hA (R.extract (v := .int .i64 1) rfl rfl) rfl ?_; clear hA a; intro a hA
          refine S.val hA (R.assign rfl) rfl ?_; clear hA a; intro a hA
          refine S.val hA (R.assign rfl) rfl ?_; clear hA a; intro a hA
          refine S.done ?_
          replace hA : St 179 [(0, _), (1, _), (6, _), (7, _), (9, _), (10, _), (11, _)] a := hA.sub ((.cons rfl (.cons rfl (.cons rfl (.cons rfl (.cons rfl (.cons rfl (.cons rfl .nil))))))))
          refine Ends.seq ?_
          refine Ends.region ?_
          refine S.call hA (R.callF Try.func47 rfl rfl rfl) rfl (pnew_nil 0 1 1 (by first | omega | decide | (simp; done) | (simp; omega)) _) ?_; clear hA a
          rintro e w26 ⟨rfl, rfl⟩
          refine ⟨.tuple #[.pointer none, .int .i64 1], rfl, fun a hA => ?_⟩
          refine S.val hA (R.move rfl) rfl ?_; clear hA a; intro a hA
          refine S.val hA (R.extract (v := .pointer none) rfl rfl) rfl ?_; clear hA a; intro a hA
          refine S.val hA (R.extract (v := .int .i64 1) rfl rfl) rfl ?_; clear hA a; intro a hA
          refine S.val hA (R.assign rfl) rfl ?_; clear hA a; intro a hA
          refine S.val hA (R.assign rfl) rfl ?_; clear hA a; intro a hA
          refine S.done ?_
          replace hA : St 179 [(0, _), (1, _), (6, _), (7, _), (9, _), (10, _), (11, _), (13, _)] a := hA.sub ((.cons rfl (.cons rfl (.cons rfl (.cons rfl (.cons rfl (.cons rfl (.cons rfl (.cons rfl .nil)))))))))
          refine Ends.seq ?_
          refine Ends.region ?_
          refine S.val hA (R.assign rfl) rfl ?_; clear hA a; intro a hA
          refine S.done ?_
          replace hA : St 179 [(0, _), (1, _), (6, _), (7, _), (9, _), (10, _), (11, _), (13, _), (14, _)] a := hA.sub ((.cons rfl (.cons rfl (.cons rfl (.cons rfl (.cons rfl (.cons rfl (.cons rfl (.cons rfl (.cons rfl .nil))))))))))
          refine Ends.seq ?_
          refine Ends.seq ?_
          refine Ends.region ?_
          refine S.call hA (R.callF Try.func43 rfl rfl rfl) rfl (ppools_any _) ?_; clear hA a
          rintro e w27 ⟨rfl, hb⟩
          replace hM := hM.callB hb; clear hb
          refine ⟨.bool true, rfl, fun a hA => ?_⟩
          refine S.val hA (R.not rfl) rfl ?_; clear hA a; intro a hA
          refine S.val hA (R.move rfl) rfl ?_; clear hA a; intro a hA
          refine S.valg (dj := 47) hA (by kernel_rfl) rfl (R.move rfl) rfl ?_; clear hA a; intro a hA
          refine S.valg (dj := 47) hA (by kernel_rfl) rfl (R.ff (R.neq rfl rfl) (by first | decide | simp | omega)) rfl ?_; clear hA a; intro a hA
          refine S.val hA (R.pickF rfl rfl) rfl ?_; clear hA a; intro a hA
          refine S.val hA (R.move rfl) rfl ?_; clear hA a; intro a hA
          refine S.valg (dj := 51) hA (by kernel_rfl) rfl (R.move rfl) rfl ?_; clear hA a; intro a hA
          refine S.valg (dj := 51) hA (by kernel_rfl) rfl (R.ff (R.neq rfl rfl) (by first | decide | simp | omega)) rfl ?_; clear hA a; intro a hA
          refine S.val hA (R.pickF rfl rfl) rfl ?_; clear hA a; intro a hA
          refine S.val hA (R.move rfl) rfl ?_; clear hA a; intro a hA
          refine S.callg (dj := 55) hA (by kernel_rfl) rfl (R.callF Try.func48 rfl rfl rfl) rfl (pnone_any _) ?_; clear hA a
          rintro e w28 ⟨rfl, rfl⟩
          refine ⟨.pointer none, rfl, fun a hA => ?_⟩
          refine S.callg (dj := 55) hA (by kernel_rfl) rfl (R.callF Try.func49 rfl rfl rfl) rfl (pslots_nil _) ?_; clear hA a
          rintro e w29 ⟨rfl, rfl⟩
          refine ⟨.int .i64 0, rfl, fun a hA => ?_⟩
          refine S.valg (dj := 55) hA (by kernel_rfl) rfl (R.ff (R.neq rfl rfl) (by first | decide | simp | omega)) rfl ?_; clear hA a; intro a hA
          refine S.val hA (R.pickF rfl rfl) rfl ?_; clear hA a; intro a hA
          refine S.val hA (R.move rfl) rfl ?_; clear hA a; intro a hA
          refine S.callg (dj := 60) hA (by kernel_rfl) rfl (R.callF Try.func48 rfl rfl rfl) rfl (pnone_any _) ?_; clear hA a
          rintro e w30 ⟨rfl, rfl⟩
          refine ⟨.pointer none, rfl, fun a hA => ?_⟩
          refine S.callg (dj := 60) hA (by kernel_rfl) rfl (R.callF Try.func50 rfl rfl rfl) rfl (ptake_nil 0 _) ?_; clear hA a
          rintro e w31 ⟨rfl, rfl⟩
          refine ⟨.pointer none, rfl, fun a hA => ?_⟩
          refine S.valg (dj := 60) hA (by kernel_rfl) rfl (R.neqNil Try.underlying83 rfl rfl) rfl ?_; clear hA a; intro a hA
          refine S.val hA (R.pickF rfl rfl) rfl ?_; clear hA a; intro a hA
          refine S.val hA (R.move rfl) rfl ?_; clear hA a; intro a hA
          refine S.callg (dj := 65) hA (by kernel_rfl) rfl (R.callF Try.func48 rfl rfl rfl) rfl (pnone_any _) ?_; clear hA a
          rintro e w32 ⟨rfl, rfl⟩
          refine ⟨.pointer none, rfl, fun a hA => ?_⟩
          refine S.callg (dj := 65) hA (by kernel_rfl) rfl (R.callF Try.func51 rfl rfl rfl) rfl (pgive_nil 0 0 _) ?_; clear hA a
          rintro e w33 ⟨rfl, rfl⟩
          refine ⟨.pointer none, rfl, fun a hA => ?_⟩
          refine S.valg (dj := 65) hA (by kernel_rfl) rfl (R.neqNil Try.underlying83 rfl rfl) rfl ?_; clear hA a; intro a hA
          refine S.val hA (R.pickF rfl rfl) rfl ?_; clear hA a; intro a hA
          refine S.val hA (R.move rfl) rfl ?_; clear hA a; intro a hA
          refine S.callg (dj := 70) hA (by kernel_rfl) rfl (R.callF Try.func48 rfl rfl rfl) rfl (pnone_any _) ?_; clear hA a
          rintro e w34 ⟨rfl, rfl⟩
          refine ⟨.pointer none, rfl, fun a hA => ?_⟩
          refine S.callg (dj := 70) hA (by kernel_rfl) rfl (R.callF Try.func52 rfl rfl rfl) rfl (pown_nil 0 _) ?_; clear hA a
          rintro e w35 ⟨rfl, rfl⟩
          refine ⟨.slice none 0 0, rfl, fun a hA => ?_⟩
          refine S.valg (dj := 70) hA (by kernel_rfl) rfl (R.lenS Try.underlying43 rfl rfl) rfl ?_; clear hA a; intro a hA
          refine S.valg (dj := 70) hA (by kernel_rfl) rfl (R.ff (R.neq rfl rfl) (by first | decide | simp | omega)) rfl ?_; clear hA a; intro a hA
          refine S.val hA (R.pickF rfl rfl) rfl ?_; clear hA a; intro a hA
          refine S.val hA (R.move rfl) rfl ?_; clear hA a; intro a hA
          refine S.callg (dj := 76) hA (by kernel_rfl) rfl (R.callF Try.func48 rfl rfl rfl) rfl (pnone_any _) ?_; clear hA a
          rintro e w36 ⟨rfl, rfl⟩
          refine ⟨.pointer none, rfl, fun a hA => ?_⟩
          refine S.callg (dj := 76) hA (by kernel_rfl) rfl (R.callF Try.func53 rfl rfl rfl) rfl (pshared_nil _) ?_; clear hA a
          rintro e w37 ⟨rfl, rfl⟩
          refine ⟨.slice none 0 0, rfl, fun a hA => ?_⟩
          refine S.valg (dj := 76) hA (by kernel_rfl) rfl (R.lenS Try.underlying43 rfl rfl) rfl ?_; clear hA a; intro a hA
          refine S.valg (dj := 76) hA (by kernel_rfl) rfl (R.ff (R.neq rfl rfl) (by first | decide | simp | omega)) rfl ?_; clear hA a; intro a hA
          refine S.val hA (R.pickF rfl rfl) rfl ?_; clear hA a; intro a hA
          refine S.val hA (R.move rfl) rfl ?_; clear hA a; intro a hA
          refine S.valg (dj := 82) hA (by kernel_rfl) rfl (R.move rfl) rfl ?_; clear hA a; intro a hA
          refine S.callg (dj := 82) hA (by kernel_rfl) rfl (R.callF Try.func54 rfl rfl rfl) rfl (pover_nil _) ?_; clear hA a
          rintro e w38 ⟨rfl, rfl⟩
          refine ⟨.bool true, rfl, fun a hA => ?_⟩
          refine S.valg (dj := 82) hA (by kernel_rfl) rfl (R.not rfl) rfl ?_; clear hA a; intro a hA
          refine S.val hA (R.pickF rfl rfl) rfl ?_; clear hA a; intro a hA
          refine S.val hA (R.move rfl) rfl ?_; clear hA a; intro a hA
          refine S.valg (dj := 87) hA (by kernel_rfl) rfl (R.move rfl) rfl ?_; clear hA a; intro a hA
          refine S.callg (dj := 87) hA (by kernel_rfl) rfl (R.callF Try.func55 rfl rfl rfl) rfl (pstep_nil _) ?_; clear hA a
          rintro e w39 ⟨rfl, rfl⟩
          refine ⟨.bool true, rfl, fun a hA => ?_⟩
          refine S.valg (dj := 87) hA (by kernel_rfl) rfl (R.not rfl) rfl ?_; clear hA a; intro a hA
          refine S.val hA (R.pickF rfl rfl) rfl ?_; clear hA a; intro a hA
          refine S.val hA (R.move rfl) rfl ?_; clear hA a; intro a hA
          refine S.valg (dj := 92) hA (by kernel_rfl) rfl (R.move rfl) rfl ?_; clear hA a; intro a hA
          refine S.callg (dj := 92) hA (by kernel_rfl) rfl (R.callF Try.func56 rfl rfl rfl) rfl (pslot_nil _) ?_; clear hA a
          rintro e w40 ⟨rfl, rfl⟩
          refine ⟨.int .i64 (-1), rfl, fun a hA => ?_⟩
          refine S.valg (dj := 92) hA (by kernel_rfl) rfl (R.ff (R.neq rfl rfl) (by first | decide | simp | omega)) rfl ?_; clear hA a; intro a hA
          refine S.val hA (R.pickF rfl rfl) rfl ?_; clear hA a; intro a hA
          refine S.done ?_
          replace hA : St 179 [(0, _), (1, _), (6, _), (7, _), (10, _), (11, _), (96, _)] a := hA.sub ((.cons rfl (.cons rfl (.cons rfl (.cons rfl (.cons rfl (.cons rfl (.cons rfl .nil))))))))
          refine Ends.condF hA rfl ?_
          refine Ends.skip ?_
          refine Ends.seq ?_
          refine Ends.cut (fun (a : Act) (wv : World) => St 179 [(0, .int .i64 slots), (1, .int .i64 wk), (6, .bool false), (10, .pointer none), (11, .int .i64 1), (15, .bool (decide (((((1 ≤ slots ∧ slots ≤ 4096) ∧ 1 ≤ wk) ∧ wk ≤ 16) ∧ ((2 + slots) + 1) ≤ ((n2 : Int))))))] a ∧ Mem w nof [memO m5 c6 ((List.replicate ((n2 : Int)).toNat 0)) 0 ⟨0, 0, 0, 0, false⟩] wv) ?_ (fun k2 hJ => ?_)
          · clear hA hM a; rintro a w41 ⟨hA, hM⟩
            refine Ends.seq ?_
            refine Ends.seq ?_
            refine Ends.region ?_
            refine S.val hA (R.move rfl) rfl ?_; clear hA a; intro a hA
            refine S.val hA (R.notD rfl) rfl ?_; clear hA a; intro a hA
            refine S.done ?_
            replace hA : St 179 [(0, _), (1, _), (6, _), (10, _), (11, _), (119, _)] a := hA.sub ((.cons rfl (.cons rfl (.cons rfl (.cons rfl (.cons rfl (.cons rfl .nil)))))))
            refine Ends.ite hA rfl (fun hc15 => ?_) (fun hc15 => ?_)
            ·
              refine Ends.seq ?_
              refine Ends.region ?_
              refine S.val hA (R.move rfl) rfl ?_; clear hA a; intro a hA
              refine S.val hA (R.eqlNil Try.underlying72 rfl rfl) rfl ?_; clear hA a; intro a hA
              refine S.val hA (R.move rfl) rfl ?_; clear hA a; intro a hA
              refine S.valg (dj := 122) hA (by kernel_rfl) rfl (R.move rfl) rfl ?_; clear hA a; intro a hA
              refine S.valg (dj := 122) hA (by kernel_rfl) rfl (R.tt (R.eql rfl rfl) (by first | decide | simp | omega)) rfl ?_; clear hA a; intro a hA
              refine S.val hA (R.pickT rfl rfl) rfl ?_; clear hA a; intro a hA
              refine S.val hA (R.move rfl) rfl ?_; clear hA a; intro a hA
              refine S.valg (dj := 126) hA (by kernel_rfl) rfl (R.move rfl) rfl ?_; clear hA a; intro a hA
              refine S.callg (dj := 126) hA (by kernel_rfl) rfl (R.callF Try.func57 rfl rfl rfl) rfl (pcells_ok slots hs7 _) ?_; clear hA a
              rintro e w42 ⟨rfl, rfl⟩
              refine ⟨.int .i64 (slots + 1), rfl, fun a hA => ?_⟩
              refine S.valg (dj := 126) hA (by kernel_rfl) rfl (R.move rfl) rfl ?_; clear hA a; intro a hA
              refine S.valg (dj := 126) hA (by kernel_rfl) rfl (R.add rfl rfl) rfl ?_; clear hA a; intro a hA
              refine S.valg (dj := 126) hA (by kernel_rfl) rfl (R.tt (R.eql rfl rfl) ((by first | omega | (rw [IntKind.wrap_i64]; omega)))) rfl ?_; clear hA a; intro a hA
              refine S.valg (dj := 126) hA (by kernel_rfl) rfl (R.move rfl) rfl ?_; clear hA a; intro a hA
              refine S.no (dj := 132) hA (by kernel_rfl) rfl rfl rfl ?_; clear hA a; intro a hA
              refine S.no (dj := 132) hA (by kernel_rfl) rfl rfl rfl ?_; clear hA a; intro a hA
              refine S.valg (dj := 126) hA (by kernel_rfl) rfl (R.pickT rfl rfl) rfl ?_; clear hA a; intro a hA
              refine S.valg (dj := 126) hA (by kernel_rfl) rfl (R.move rfl) rfl ?_; clear hA a; intro a hA
              refine S.no (dj := 136) hA (by kernel_rfl) rfl rfl rfl ?_; clear hA a; intro a hA
              refine S.no (dj := 136) hA (by kernel_rfl) rfl rfl rfl ?_; clear hA a; intro a hA
              refine S.valg (dj := 126) hA (by kernel_rfl) rfl (R.pickT rfl rfl) rfl ?_; clear hA a; intro a hA
              refine S.val hA (R.pickT rfl rfl) rfl ?_; clear hA a; intro a hA
              refine S.val hA (R.assign rfl) rfl ?_; clear hA a; intro a hA
              refine S.done ?_
              replace hA : St 179 [(0, _), (1, _), (6, _), (10, _), (11, _)] a := hA.sub ((.cons rfl (.cons rfl (.cons rfl (.cons rfl (.cons rfl .nil))))))
              refine Ends.ret1 Try.func10 Try.results10 hA rfl ?_
              exact ⟨rfl, hM.nilL.below⟩
            · exfalso; omega
          ·
            refine Ends.region ?_
            refine S.val hA (R.move rfl) rfl ?_; clear hA a; intro a hA
            refine S.val hA (R.geq rfl rfl) rfl ?_; clear hA a; intro a hA
            refine S.val hA (R.move rfl) rfl ?_; clear hA a; intro a hA
            refine hA.split (d := 99) rfl ?_ ?_
            · clear hA; intro hg16 hA
              refine S.valg (dj := 99) hA (by kernel_rfl) rfl (R.move rfl) rfl ?_; clear hA a; intro a hA
              refine S.valg (dj := 99) hA (by kernel_rfl) rfl (R.leq rfl rfl) rfl ?_; clear hA a; intro a hA
              refine S.val hA (R.pickT rfl rfl) rfl ?_; clear hA a; intro a hA
              refine S.val hA (R.move rfl) rfl ?_; clear hA a; intro a hA
              refine hA.split (d := 103) rfl ?_ ?_
              · clear hA; intro hg17 hA
                refine S.valg (dj := 103) hA (by kernel_rfl) rfl (R.move rfl) rfl ?_; clear hA a; intro a hA
                refine S.valg (dj := 103) hA (by kernel_rfl) rfl (R.geq rfl rfl) rfl ?_; clear hA a; intro a hA
                refine S.val hA (R.pickT rfl rfl) rfl ?_; clear hA a; intro a hA
                refine S.val hA (R.move rfl) rfl ?_; clear hA a; intro a hA
                refine hA.split (d := 107) rfl ?_ ?_
                · clear hA; intro hg18 hA
                  refine S.valg (dj := 107) hA (by kernel_rfl) rfl (R.move rfl) rfl ?_; clear hA a; intro a hA
                  refine S.valg (dj := 107) hA (by kernel_rfl) rfl (R.leq rfl rfl) rfl ?_; clear hA a; intro a hA
                  refine S.val hA (R.pickT rfl rfl) rfl ?_; clear hA a; intro a hA
                  refine S.val hA (R.move rfl) rfl ?_; clear hA a; intro a hA
                  refine hA.split (d := 111) rfl ?_ ?_
                  · clear hA; intro hg19 hA
                    refine S.valg (dj := 111) hA (by kernel_rfl) rfl (R.move rfl) rfl ?_; clear hA a; intro a hA
                    refine S.valg (dj := 111) hA (by kernel_rfl) rfl (R.move rfl) rfl ?_; clear hA a; intro a hA
                    refine S.valg (dj := 111) hA (by kernel_rfl) rfl (R.addI rfl rfl (r := 2 + slots) rfl (by omega)) rfl ?_; clear hA a; intro a hA
                    refine S.valg (dj := 111) hA (by kernel_rfl) rfl (R.addI rfl rfl (r := (2 + slots) + 1) rfl (by omega)) rfl ?_; clear hA a; intro a hA
                    refine S.valg (dj := 111) hA (by kernel_rfl) rfl (R.geq rfl rfl) rfl ?_; clear hA a; intro a hA
                    refine S.val hA (R.pickT rfl rfl) rfl ?_; clear hA a; intro a hA
                    refine S.val hA (R.assign rfl) rfl ?_; clear hA a; intro a hA
                    refine S.done ?_
                    replace hA : St 179 [(0, _), (1, _), (6, _), (10, _), (11, _), (15, _)] a := hA.sub ((.cons rfl (.cons rfl (.cons rfl (.cons rfl (.cons rfl (.cons rfl .nil)))))))
                    exact hJ _ _ ⟨hA.sub (.cons rfl (.cons rfl (.cons rfl (.cons rfl (.cons rfl (.cons (by first | rfl | exact congrArg (fun b => some (Value.bool b)) (by first | (simp; done) | simp [hg16, hg17, hg18, hg19])) .nil)))))), hM⟩
                  · clear hA; intro hg19 hA
                    refine S.no (dj := 111) hA (by kernel_rfl) rfl rfl rfl ?_; clear hA a; intro a hA
                    refine S.no (dj := 111) hA (by kernel_rfl) rfl rfl rfl ?_; clear hA a; intro a hA
                    refine S.no (dj := 111) hA (by kernel_rfl) rfl rfl rfl ?_; clear hA a; intro a hA
                    refine S.no (dj := 111) hA (by kernel_rfl) rfl rfl rfl ?_; clear hA a; intro a hA
                    refine S.no (dj := 111) hA (by kernel_rfl) rfl rfl rfl ?_; clear hA a; intro a hA
                    refine S.val hA (R.pickF rfl rfl) rfl ?_; clear hA a; intro a hA
                    refine S.val hA (R.assign rfl) rfl ?_; clear hA a; intro a hA
                    refine S.done ?_
                    replace hA : St 179 [(0, _), (1, _), (6, _), (10, _), (11, _), (15, _)] a := hA.sub ((.cons rfl (.cons rfl (.cons rfl (.cons rfl (.cons rfl (.cons rfl .nil)))))))
                    exact hJ _ _ ⟨hA.sub (.cons rfl (.cons rfl (.cons rfl (.cons rfl (.cons rfl (.cons (by first | rfl | exact congrArg (fun b => some (Value.bool b)) (by first | (simp; done) | simp [hg16, hg17, hg18, hg19])) .nil)))))), hM⟩
                · clear hA; intro hg18 hA
                  refine S.no (dj := 107) hA (by kernel_rfl) rfl rfl rfl ?_; clear hA a; intro a hA
                  refine S.no (dj := 107) hA (by kernel_rfl) rfl rfl rfl ?_; clear hA a; intro a hA
                  refine S.val hA (R.pickF rfl rfl) rfl ?_; clear hA a; intro a hA
                  refine S.val hA (R.move rfl) rfl ?_; clear hA a; intro a hA
                  refine S.no (dj := 111) hA (by kernel_rfl) rfl rfl rfl ?_; clear hA a; intro a hA
                  refine S.no (dj := 111) hA (by kernel_rfl) rfl rfl rfl ?_; clear hA a; intro a hA
                  refine S.no (dj := 111) hA (by kernel_rfl) rfl rfl rfl ?_; clear hA a; intro a hA
                  refine S.no (dj := 111) hA (by kernel_rfl) rfl rfl rfl ?_; clear hA a; intro a hA
                  refine S.no (dj := 111) hA (by kernel_rfl) rfl rfl rfl ?_; clear hA a; intro a hA
                  refine S.val hA (R.pickF rfl rfl) rfl ?_; clear hA a; intro a hA
                  refine S.val hA (R.assign rfl) rfl ?_; clear hA a; intro a hA
                  refine S.done ?_
                  replace hA : St 179 [(0, _), (1, _), (6, _), (10, _), (11, _), (15, _)] a := hA.sub ((.cons rfl (.cons rfl (.cons rfl (.cons rfl (.cons rfl (.cons rfl .nil)))))))
                  exact hJ _ _ ⟨hA.sub (.cons rfl (.cons rfl (.cons rfl (.cons rfl (.cons rfl (.cons (by first | rfl | exact congrArg (fun b => some (Value.bool b)) (by first | (simp; done) | simp [hg16, hg17, hg18])) .nil)))))), hM⟩
              · clear hA; intro hg17 hA
                refine S.no (dj := 103) hA (by kernel_rfl) rfl rfl rfl ?_; clear hA a; intro a hA
                refine S.no (dj := 103) hA (by kernel_rfl) rfl rfl rfl ?_; clear hA a; intro a hA
                refine S.val hA (R.pickF rfl rfl) rfl ?_; clear hA a; intro a hA
                refine S.val hA (R.move rfl) rfl ?_; clear hA a; intro a hA
                refine S.no (dj := 107) hA (by kernel_rfl) rfl rfl rfl ?_; clear hA a; intro a hA
                refine S.no (dj := 107) hA (by kernel_rfl) rfl rfl rfl ?_; clear hA a; intro a hA
                refine S.val hA (R.pickF rfl rfl) rfl ?_; clear hA a; intro a hA
                refine S.val hA (R.move rfl) rfl ?_; clear hA a; intro a hA
                refine S.no (dj := 111) hA (by kernel_rfl) rfl rfl rfl ?_; clear hA a; intro a hA
                refine S.no (dj := 111) hA (by kernel_rfl) rfl rfl rfl ?_; clear hA a; intro a hA
                refine S.no (dj := 111) hA (by kernel_rfl) rfl rfl rfl ?_; clear hA a; intro a hA
                refine S.no (dj := 111) hA (by kernel_rfl) rfl rfl rfl ?_; clear hA a; intro a hA
                refine S.no (dj := 111) hA (by kernel_rfl) rfl rfl rfl ?_; clear hA a; intro a hA
                refine S.val hA (R.pickF rfl rfl) rfl ?_; clear hA a; intro a hA
                refine S.val hA (R.assign rfl) rfl ?_; clear hA a; intro a hA
                refine S.done ?_
                replace hA : St 179 [(0, _), (1, _), (6, _), (10, _), (11, _), (15, _)] a := hA.sub ((.cons rfl (.cons rfl (.cons rfl (.cons rfl (.cons rfl (.cons rfl .nil)))))))
                exact hJ _ _ ⟨hA.sub (.cons rfl (.cons rfl (.cons rfl (.cons rfl (.cons rfl (.cons (by first | rfl | exact congrArg (fun b => some (Value.bool b)) (by first | (simp; done) | simp [hg16, hg17])) .nil)))))), hM⟩
            · clear hA; intro hg16 hA
              refine S.no (dj := 99) hA (by kernel_rfl) rfl rfl rfl ?_; clear hA a; intro a hA
              refine S.no (dj := 99) hA (by kernel_rfl) rfl rfl rfl ?_; clear hA a; intro a hA
              refine S.val hA (R.pickF rfl rfl) rfl ?_; clear hA a; intro a hA
              refine S.val hA (R.move rfl) rfl ?_; clear hA a; intro a hA
              refine S.no (dj := 103) hA (by kernel_rfl) rfl rfl rfl ?_; clear hA a; intro a hA
              refine S.no (dj := 103) hA (by kernel_rfl) rfl rfl rfl ?_; clear hA a; intro a hA
              refine S.val hA (R.pickF rfl rfl) rfl ?_; clear hA a; intro a hA
              refine S.val hA (R.move rfl) rfl ?_; clear hA a; intro a hA
              refine S.no (dj := 107) hA (by kernel_rfl) rfl rfl rfl ?_; clear hA a; intro a hA
              refine S.no (dj := 107) hA (by kernel_rfl) rfl rfl rfl ?_; clear hA a; intro a hA
              refine S.val hA (R.pickF rfl rfl) rfl ?_; clear hA a; intro a hA
              refine S.val hA (R.move rfl) rfl ?_; clear hA a; intro a hA
              refine S.no (dj := 111) hA (by kernel_rfl) rfl rfl rfl ?_; clear hA a; intro a hA
              refine S.no (dj := 111) hA (by kernel_rfl) rfl rfl rfl ?_; clear hA a; intro a hA
              refine S.no (dj := 111) hA (by kernel_rfl) rfl rfl rfl ?_; clear hA a; intro a hA
              refine S.no (dj := 111) hA (by kernel_rfl) rfl rfl rfl ?_; clear hA a; intro a hA
              refine S.no (dj := 111) hA (by kernel_rfl) rfl rfl rfl ?_; clear hA a; intro a hA
              refine S.val hA (R.pickF rfl rfl) rfl ?_; clear hA a; intro a hA
              refine S.val hA (R.assign rfl) rfl ?_; clear hA a; intro a hA
              refine S.done ?_
              replace hA : St 179 [(0, _), (1, _), (6, _), (10, _), (11, _), (15, _)] a := hA.sub ((.cons rfl (.cons rfl (.cons rfl (.cons rfl (.cons rfl (.cons rfl .nil)))))))
              exact hJ _ _ ⟨hA.sub (.cons rfl (.cons rfl (.cons rfl (.cons rfl (.cons rfl (.cons (by first | rfl | exact congrArg (fun b => some (Value.bool b)) (by first | (simp; done) | simp [hg16])) .nil)))))), hM⟩
      ·
        by_cases hs20 : 1 ≤ slots ∧ slots ≤ 4096 ∧ 1 ≤ wk ∧ wk ≤ 16 ∧ 2 + slots + 1 ≤ (n2 : Int)
        ·
          refine Ends.region ?_
          refine S.val hA (R.move rfl) rfl ?_; clear hA a; intro a hA
          refine S.val hA (R.move rfl) rfl ?_; clear hA a; intro a hA
          refine S.val hA (R.move rfl) rfl ?_; clear hA a; intro a hA
          refine S.call hA (R.callF Try.func47 rfl rfl rfl) rfl (pnew_ok m5 c6 ((List.replicate ((n2 : Int)).toNat 0)) 0 ⟨0, 0, 0, 0, false⟩ hm5c6 2 slots wk (by first | omega | decide | (simp; done) | (simp; omega)) (by first | omega | decide | (simp; done) | (simp; omega)) (by first | omega | decide | (simp; done) | (simp; omega)) (by first | omega | decide | (simp; done) | (simp; omega)) (by first | omega | decide | (simp; done) | (simp; omega)) _ (hM.hereN 1)) ?_; clear hA a
          rintro e w43 ⟨p21, nb22, ob23, op24, rfl, hn⟩
          replace hM : Mem _ _ [pt p21 #[.pointer (some ⟨m5, 0, none⟩), .int .i64 2, .slice (some ⟨nb22, 0, none⟩) slots.toNat slots.toNat, .slice (some ⟨ob23, 0, none⟩) wk.toNat wk.toNat] 128, pt nb22 ((madeCells #[.slice none 0 0, .int .i64 0] (slots.toNat * 2))) 77, pt ob23 ((vals (nils wk.toNat))) 43, memO m5 c6 ((linkL ((List.replicate ((n2 : Int)).toNat 0)) 2 slots slots.toNat)) (0 + 1 + slots) op24] _ := hM.callL 1 hn; clear hn
          refine ⟨.tuple #[.pointer (some ⟨p21, 0, none⟩), .int .i64 0], rfl, fun a hA => ?_⟩
          refine S.val hA (R.move rfl) rfl ?_; clear hA a; intro a hA
          refine S.val hA (R.extract (v := .pointer (some ⟨p21, 0, none⟩)) rfl rfl) rfl ?_; clear hA a; intro a hA
          refine S.val hA (R.extract (v := .int .i64 0) rfl rfl) rfl ?_; clear hA a; intro a hA
          refine S.val hA (R.assign rfl) rfl ?_; clear hA a; intro a hA
          refine S.val hA (R.assign rfl) rfl ?_; clear hA a; intro a hA
          refine S.done ?_
          replace hA : St 179 [(0, _), (1, _), (6, _), (7, _), (9, _), (10, _), (11, _)] a := hA.sub ((.cons rfl (.cons rfl (.cons rfl (.cons rfl (.cons rfl (.cons rfl (.cons rfl .nil))))))))
          refine Ends.seq ?_
          refine Ends.region ?_
          refine S.call hA (R.callF Try.func47 rfl rfl rfl) rfl (pnew_nil 0 1 1 (by first | omega | decide | (simp; done) | (simp; omega)) _) ?_; clear hA a
          rintro e w44 ⟨rfl, rfl⟩
          refine ⟨.tuple #[.pointer none, .int .i64 1], rfl, fun a hA => ?_⟩
          refine S.val hA (R.move rfl) rfl ?_; clear hA a; intro a hA
          refine S.val hA (R.extract (v := .pointer none) rfl rfl) rfl ?_; clear hA a; intro a hA
          refine S.val hA (R.extract (v := .int .i64 1) rfl rfl) rfl ?_; clear hA a; intro a hA
          refine S.val hA (R.assign rfl) rfl ?_; clear hA a; intro a hA
          refine S.val hA (R.assign rfl) rfl ?_; clear hA a; intro a hA
          refine S.done ?_
          replace hA : St 179 [(0, _), (1, _), (6, _), (7, _), (9, _), (10, _), (11, _), (13, _)] a := hA.sub ((.cons rfl (.cons rfl (.cons rfl (.cons rfl (.cons rfl (.cons rfl (.cons rfl (.cons rfl .nil)))))))))
          refine Ends.seq ?_
          refine Ends.region ?_
          refine S.val hA (R.assign rfl) rfl ?_; clear hA a; intro a hA
          refine S.done ?_
          replace hA : St 179 [(0, _), (1, _), (6, _), (7, _), (9, _), (10, _), (11, _), (13, _), (14, _)] a := hA.sub ((.cons rfl (.cons rfl (.cons rfl (.cons rfl (.cons rfl (.cons rfl (.cons rfl (.cons rfl (.cons rfl .nil))))))))))
          refine Ends.seq ?_
          refine Ends.seq ?_
          refine Ends.region ?_
          refine S.call hA (R.callF Try.func43 rfl rfl rfl) rfl (ppools_any _) ?_; clear hA a
          rintro e w45 ⟨rfl, hb⟩
          replace hM := hM.callB hb; clear hb
          refine ⟨.bool true, rfl, fun a hA => ?_⟩
          refine S.val hA (R.not rfl) rfl ?_; clear hA a; intro a hA
          refine S.val hA (R.move rfl) rfl ?_; clear hA a; intro a hA
          refine S.valg (dj := 47) hA (by kernel_rfl) rfl (R.move rfl) rfl ?_; clear hA a; intro a hA
          refine S.valg (dj := 47) hA (by kernel_rfl) rfl (R.ff (R.neq rfl rfl) (by first | decide | simp | omega)) rfl ?_; clear hA a; intro a hA
          refine S.val hA (R.pickF rfl rfl) rfl ?_; clear hA a; intro a hA
          refine S.val hA (R.move rfl) rfl ?_; clear hA a; intro a hA
          refine S.valg (dj := 51) hA (by kernel_rfl) rfl (R.move rfl) rfl ?_; clear hA a; intro a hA
          refine S.valg (dj := 51) hA (by kernel_rfl) rfl (R.ff (R.neq rfl rfl) (by first | decide | simp | omega)) rfl ?_; clear hA a; intro a hA
          refine S.val hA (R.pickF rfl rfl) rfl ?_; clear hA a; intro a hA
          refine S.val hA (R.move rfl) rfl ?_; clear hA a; intro a hA
          refine S.callg (dj := 55) hA (by kernel_rfl) rfl (R.callF Try.func48 rfl rfl rfl) rfl (pnone_any _) ?_; clear hA a
          rintro e w46 ⟨rfl, rfl⟩
          refine ⟨.pointer none, rfl, fun a hA => ?_⟩
          refine S.callg (dj := 55) hA (by kernel_rfl) rfl (R.callF Try.func49 rfl rfl rfl) rfl (pslots_nil _) ?_; clear hA a
          rintro e w47 ⟨rfl, rfl⟩
          refine ⟨.int .i64 0, rfl, fun a hA => ?_⟩
          refine S.valg (dj := 55) hA (by kernel_rfl) rfl (R.ff (R.neq rfl rfl) (by first | decide | simp | omega)) rfl ?_; clear hA a; intro a hA
          refine S.val hA (R.pickF rfl rfl) rfl ?_; clear hA a; intro a hA
          refine S.val hA (R.move rfl) rfl ?_; clear hA a; intro a hA
          refine S.callg (dj := 60) hA (by kernel_rfl) rfl (R.callF Try.func48 rfl rfl rfl) rfl (pnone_any _) ?_; clear hA a
          rintro e w48 ⟨rfl, rfl⟩
          refine ⟨.pointer none, rfl, fun a hA => ?_⟩
          refine S.callg (dj := 60) hA (by kernel_rfl) rfl (R.callF Try.func50 rfl rfl rfl) rfl (ptake_nil 0 _) ?_; clear hA a
          rintro e w49 ⟨rfl, rfl⟩
          refine ⟨.pointer none, rfl, fun a hA => ?_⟩
          refine S.valg (dj := 60) hA (by kernel_rfl) rfl (R.neqNil Try.underlying83 rfl rfl) rfl ?_; clear hA a; intro a hA
          refine S.val hA (R.pickF rfl rfl) rfl ?_; clear hA a; intro a hA
          refine S.val hA (R.move rfl) rfl ?_; clear hA a; intro a hA
          refine S.callg (dj := 65) hA (by kernel_rfl) rfl (R.callF Try.func48 rfl rfl rfl) rfl (pnone_any _) ?_; clear hA a
          rintro e w50 ⟨rfl, rfl⟩
          refine ⟨.pointer none, rfl, fun a hA => ?_⟩
          refine S.callg (dj := 65) hA (by kernel_rfl) rfl (R.callF Try.func51 rfl rfl rfl) rfl (pgive_nil 0 0 _) ?_; clear hA a
          rintro e w51 ⟨rfl, rfl⟩
          refine ⟨.pointer none, rfl, fun a hA => ?_⟩
          refine S.valg (dj := 65) hA (by kernel_rfl) rfl (R.neqNil Try.underlying83 rfl rfl) rfl ?_; clear hA a; intro a hA
          refine S.val hA (R.pickF rfl rfl) rfl ?_; clear hA a; intro a hA
          refine S.val hA (R.move rfl) rfl ?_; clear hA a; intro a hA
          refine S.callg (dj := 70) hA (by kernel_rfl) rfl (R.callF Try.func48 rfl rfl rfl) rfl (pnone_any _) ?_; clear hA a
          rintro e w52 ⟨rfl, rfl⟩
          refine ⟨.pointer none, rfl, fun a hA => ?_⟩
          refine S.callg (dj := 70) hA (by kernel_rfl) rfl (R.callF Try.func52 rfl rfl rfl) rfl (pown_nil 0 _) ?_; clear hA a
          rintro e w53 ⟨rfl, rfl⟩
          refine ⟨.slice none 0 0, rfl, fun a hA => ?_⟩
          refine S.valg (dj := 70) hA (by kernel_rfl) rfl (R.lenS Try.underlying43 rfl rfl) rfl ?_; clear hA a; intro a hA
          refine S.valg (dj := 70) hA (by kernel_rfl) rfl (R.ff (R.neq rfl rfl) (by first | decide | simp | omega)) rfl ?_; clear hA a; intro a hA
          refine S.val hA (R.pickF rfl rfl) rfl ?_; clear hA a; intro a hA
          refine S.val hA (R.move rfl) rfl ?_; clear hA a; intro a hA
          refine S.callg (dj := 76) hA (by kernel_rfl) rfl (R.callF Try.func48 rfl rfl rfl) rfl (pnone_any _) ?_; clear hA a
          rintro e w54 ⟨rfl, rfl⟩
          refine ⟨.pointer none, rfl, fun a hA => ?_⟩
          refine S.callg (dj := 76) hA (by kernel_rfl) rfl (R.callF Try.func53 rfl rfl rfl) rfl (pshared_nil _) ?_; clear hA a
          rintro e w55 ⟨rfl, rfl⟩
          refine ⟨.slice none 0 0, rfl, fun a hA => ?_⟩
          refine S.valg (dj := 76) hA (by kernel_rfl) rfl (R.lenS Try.underlying43 rfl rfl) rfl ?_; clear hA a; intro a hA
          refine S.valg (dj := 76) hA (by kernel_rfl) rfl (R.ff (R.neq rfl rfl) (by first | decide | simp | omega)) rfl ?_; clear hA a; intro a hA
          refine S.val hA (R.pickF rfl rfl) rfl ?_; clear hA a; intro a hA
          refine S.val hA (R.move rfl) rfl ?_; clear hA a; intro a hA
          refine S.valg (dj := 82) hA (by kernel_rfl) rfl (R.move rfl) rfl ?_; clear hA a; intro a hA
          refine S.callg (dj := 82) hA (by kernel_rfl) rfl (R.callF Try.func54 rfl rfl rfl) rfl (pover_nil _) ?_; clear hA a
          rintro e w56 ⟨rfl, rfl⟩
          refine ⟨.bool true, rfl, fun a hA => ?_⟩
          refine S.valg (dj := 82) hA (by kernel_rfl) rfl (R.not rfl) rfl ?_; clear hA a; intro a hA
          refine S.val hA (R.pickF rfl rfl) rfl ?_; clear hA a; intro a hA
          refine S.val hA (R.move rfl) rfl ?_; clear hA a; intro a hA
          refine S.valg (dj := 87) hA (by kernel_rfl) rfl (R.move rfl) rfl ?_; clear hA a; intro a hA
          refine S.callg (dj := 87) hA (by kernel_rfl) rfl (R.callF Try.func55 rfl rfl rfl) rfl (pstep_nil _) ?_; clear hA a
          rintro e w57 ⟨rfl, rfl⟩
          refine ⟨.bool true, rfl, fun a hA => ?_⟩
          refine S.valg (dj := 87) hA (by kernel_rfl) rfl (R.not rfl) rfl ?_; clear hA a; intro a hA
          refine S.val hA (R.pickF rfl rfl) rfl ?_; clear hA a; intro a hA
          refine S.val hA (R.move rfl) rfl ?_; clear hA a; intro a hA
          refine S.valg (dj := 92) hA (by kernel_rfl) rfl (R.move rfl) rfl ?_; clear hA a; intro a hA
          refine S.callg (dj := 92) hA (by kernel_rfl) rfl (R.callF Try.func56 rfl rfl rfl) rfl (pslot_nil _) ?_; clear hA a
          rintro e w58 ⟨rfl, rfl⟩
          refine ⟨.int .i64 (-1), rfl, fun a hA => ?_⟩
          refine S.valg (dj := 92) hA (by kernel_rfl) rfl (R.ff (R.neq rfl rfl) (by first | decide | simp | omega)) rfl ?_; clear hA a; intro a hA
          refine S.val hA (R.pickF rfl rfl) rfl ?_; clear hA a; intro a hA
          refine S.done ?_
          replace hA : St 179 [(0, _), (1, _), (6, _), (7, _), (10, _), (11, _), (96, _)] a := hA.sub ((.cons rfl (.cons rfl (.cons rfl (.cons rfl (.cons rfl (.cons rfl (.cons rfl .nil))))))))
          refine Ends.condF hA rfl ?_
          refine Ends.skip ?_
          refine Ends.seq ?_
          refine Ends.region ?_
          refine S.val hA (R.move rfl) rfl ?_; clear hA a; intro a hA
          refine S.val hA (R.tt (R.geq rfl rfl) (by omega)) rfl ?_; clear hA a; intro a hA
          refine S.val hA (R.move rfl) rfl ?_; clear hA a; intro a hA
          refine S.valg (dj := 99) hA (by kernel_rfl) rfl (R.move rfl) rfl ?_; clear hA a; intro a hA
          refine S.valg (dj := 99) hA (by kernel_rfl) rfl (R.tt (R.leq rfl rfl) (by omega)) rfl ?_; clear hA a; intro a hA
          refine S.val hA (R.pickT rfl rfl) rfl ?_; clear hA a; intro a hA
          refine S.val hA (R.move rfl) rfl ?_; clear hA a; intro a hA
          refine S.valg (dj := 103) hA (by kernel_rfl) rfl (R.move rfl) rfl ?_; clear hA a; intro a hA
          refine S.valg (dj := 103) hA (by kernel_rfl) rfl (R.tt (R.geq rfl rfl) (by omega)) rfl ?_; clear hA a; intro a hA
          refine S.val hA (R.pickT rfl rfl) rfl ?_; clear hA a; intro a hA
          refine S.val hA (R.move rfl) rfl ?_; clear hA a; intro a hA
          refine S.valg (dj := 107) hA (by kernel_rfl) rfl (R.move rfl) rfl ?_; clear hA a; intro a hA
          refine S.valg (dj := 107) hA (by kernel_rfl) rfl (R.tt (R.leq rfl rfl) (by omega)) rfl ?_; clear hA a; intro a hA
          refine S.val hA (R.pickT rfl rfl) rfl ?_; clear hA a; intro a hA
          refine S.val hA (R.move rfl) rfl ?_; clear hA a; intro a hA
          refine S.valg (dj := 111) hA (by kernel_rfl) rfl (R.move rfl) rfl ?_; clear hA a; intro a hA
          refine S.valg (dj := 111) hA (by kernel_rfl) rfl (R.move rfl) rfl ?_; clear hA a; intro a hA
          refine S.valg (dj := 111) hA (by kernel_rfl) rfl (R.addI rfl rfl (r := 2 + slots) rfl (by omega)) rfl ?_; clear hA a; intro a hA
          refine S.valg (dj := 111) hA (by kernel_rfl) rfl (R.addI rfl rfl (r := (2 + slots) + 1) rfl (by omega)) rfl ?_; clear hA a; intro a hA
          refine S.valg (dj := 111) hA (by kernel_rfl) rfl (R.tt (R.geq rfl rfl) (by omega)) rfl ?_; clear hA a; intro a hA
          refine S.val hA (R.pickT rfl rfl) rfl ?_; clear hA a; intro a hA
          refine S.val hA (R.assign rfl) rfl ?_; clear hA a; intro a hA
          refine S.done ?_
          replace hA : St 179 [(0, _), (1, _), (6, _), (10, _), (11, _), (15, _)] a := hA.sub ((.cons rfl (.cons rfl (.cons rfl (.cons rfl (.cons rfl (.cons rfl .nil)))))))
          refine Ends.seq ?_
          refine Ends.seq ?_
          refine Ends.region ?_
          refine S.val hA (R.move rfl) rfl ?_; clear hA a; intro a hA
          refine S.val hA (R.not rfl) rfl ?_; clear hA a; intro a hA
          refine S.done ?_
          replace hA : St 179 [(0, _), (1, _), (6, _), (10, _), (11, _), (119, _)] a := hA.sub ((.cons rfl (.cons rfl (.cons rfl (.cons rfl (.cons rfl (.cons rfl .nil)))))))
          refine Ends.condF hA rfl ?_
          refine Ends.skip ?_
          refine Ends.seq ?_
          refine Ends.region ?_
          refine S.val hA (R.move rfl) rfl ?_; clear hA a; intro a hA
          refine S.val hA (R.tt (R.eql rfl rfl) (by first | decide | simp | omega)) rfl ?_; clear hA a; intro a hA
          refine S.val hA (R.move rfl) rfl ?_; clear hA a; intro a hA
          refine S.valg (dj := 143) hA (by kernel_rfl) rfl (R.move rfl) rfl ?_; clear hA a; intro a hA
          refine S.callg (dj := 143) hA (by kernel_rfl) rfl (R.callF Try.func49 rfl rfl rfl) rfl (pslots p21 m5 nb22 ob23 slots.toNat wk.toNat 2 _ (hM.block (k := 0) rfl)) ?_; clear hA a
          rintro e w59 ⟨rfl, rfl⟩
          refine ⟨.int .i64 ((slots.toNat : Int)), rfl, fun a hA => ?_⟩
          refine S.valg (dj := 143) hA (by kernel_rfl) rfl (R.move rfl) rfl ?_; clear hA a; intro a hA
          refine S.valg (dj := 143) hA (by kernel_rfl) rfl (R.tt (R.eql rfl rfl) (by omega)) rfl ?_; clear hA a; intro a hA
          refine S.val hA (R.pickT rfl rfl) rfl ?_; clear hA a; intro a hA
          refine S.val hA (R.move rfl) rfl ?_; clear hA a; intro a hA
          refine S.valg (dj := 149) hA (by kernel_rfl) rfl (R.move rfl) rfl ?_; clear hA a; intro a hA
          replace hM := hM.front (k := 3) rfl
          replace hM := hM.front (k := 1) rfl
          replace hM : Mem _ _ [pt p21 #[.pointer (some ⟨m5, 0, none⟩), .int .i64 2, .slice (some ⟨nb22, 0, none⟩) slots.toNat slots.toNat, .slice (some ⟨ob23, 0, none⟩) wk.toNat wk.toNat] 128, memO m5 c6 ((linkL ((List.replicate ((n2 : Int)).toNat 0)) 2 slots slots.toNat)) (0 + 1 + slots) op24, pt nb22 ((madeCells #[.slice none 0 0, .int .i64 0] (slots.toNat * 2))) 77, pt ob23 ((vals (nils wk.toNat))) 43] _ := hM
          refine S.callg (dj := 149) hA (by kernel_rfl) rfl (R.callF Try.func53 rfl rfl rfl) rfl (pshared_new p21 m5 c6 nb22 ob23 wk.toNat 2 slots ((List.replicate ((n2 : Int)).toNat 0)) (0 + 1 + slots) op24 hm5c6 (by first | omega | decide | (simp; done) | (simp; omega)) (by first | omega | decide | (simp; done) | (simp; omega)) (by first | omega | decide | (simp; done) | (simp; omega)) _ (hM.hereN 2)) ?_; clear hA a
          rintro e w60 ⟨a25, c26, rfl, hn⟩
          replace hM : Mem _ _ [pt p21 #[.pointer (some ⟨m5, 0, none⟩), .int .i64 2, .slice (some ⟨nb22, 0, none⟩) slots.toNat slots.toNat, .slice (some ⟨ob23, 0, none⟩) wk.toNat wk.toNat] 128, memO m5 c6 ((linkL ((List.replicate ((n2 : Int)).toNat 0)) 2 slots slots.toNat)) (0 + 1 + slots) op24, pt nb22 ((madeCells #[.slice none 0 0, .int .i64 0] (slots.toNat * 2))) 77, pt ob23 ((vals (nils wk.toNat))) 43] _ := hM.callL 2 hn; clear hn
          refine ⟨.slice a25 slots.toNat c26, rfl, fun a hA => ?_⟩
          refine S.valg (dj := 149) hA (by kernel_rfl) rfl (R.lenS Try.underlying43 rfl rfl) rfl ?_; clear hA a; intro a hA
          refine S.valg (dj := 149) hA (by kernel_rfl) rfl (R.move rfl) rfl ?_; clear hA a; intro a hA
          refine S.valg (dj := 149) hA (by kernel_rfl) rfl (R.tt (R.eql rfl rfl) (by omega)) rfl ?_; clear hA a; intro a hA
          refine S.val hA (R.pickT rfl rfl) rfl ?_; clear hA a; intro a hA
          refine S.val hA (R.move rfl) rfl ?_; clear hA a; intro a hA
          refine S.valg (dj := 156) hA (by kernel_rfl) rfl (R.move rfl) rfl ?_; clear hA a; intro a hA
          refine S.valg (dj := 156) hA (by kernel_rfl) rfl (R.move rfl) rfl ?_; clear hA a; intro a hA
          refine S.callg (dj := 156) hA (by kernel_rfl) rfl (R.callF Try.func50 rfl rfl rfl) rfl (ptake_high p21 m5 nb22 ob23 slots.toNat wk.toNat 2 wk (by first | omega | decide | (simp; done) | (simp; omega)) _ (hM.block (k := 0) rfl)) ?_; clear hA a
          rintro e w61 ⟨rfl, rfl⟩
          refine ⟨.pointer none, rfl, fun a hA => ?_⟩
          refine S.valg (dj := 156) hA (by kernel_rfl) rfl (R.eqlNil Try.underlying83 rfl rfl) rfl ?_; clear hA a; intro a hA
          refine S.val hA (R.pickT rfl rfl) rfl ?_; clear hA a; intro a hA
          refine S.val hA (R.move rfl) rfl ?_; clear hA a; intro a hA
          refine S.valg (dj := 162) hA (by kernel_rfl) rfl (R.move rfl) rfl ?_; clear hA a; intro a hA
          refine S.callg (dj := 162) hA (by kernel_rfl) rfl (R.callF Try.func50 rfl rfl rfl) rfl (ptake_low p21 m5 nb22 ob23 slots.toNat wk.toNat 2 (-1) (by first | omega | decide | (simp; done) | (simp; omega)) _ (hM.block (k := 0) rfl)) ?_; clear hA a
          rintro e w62 ⟨rfl, rfl⟩
          refine ⟨.pointer none, rfl, fun a hA => ?_⟩
          refine S.valg (dj := 162) hA (by kernel_rfl) rfl (R.eqlNil Try.underlying83 rfl rfl) rfl ?_; clear hA a; intro a hA
          refine S.val hA (R.pickT rfl rfl) rfl ?_; clear hA a; intro a hA
          refine S.val hA (R.move rfl) rfl ?_; clear hA a; intro a hA
          refine S.valg (dj := 167) hA (by kernel_rfl) rfl (R.move rfl) rfl ?_; clear hA a; intro a hA
          refine S.valg (dj := 167) hA (by kernel_rfl) rfl (R.move rfl) rfl ?_; clear hA a; intro a hA
          refine S.callg (dj := 167) hA (by kernel_rfl) rfl (R.callF Try.func51 rfl rfl rfl) rfl (pgive_slot p21 m5 nb22 ob23 slots.toNat wk.toNat 2 0 slots (by first | omega | decide | (simp; done) | (simp; omega)) _ (hM.block (k := 0) rfl)) ?_; clear hA a
          rintro e w63 ⟨rfl, rfl⟩
          refine ⟨.pointer none, rfl, fun a hA => ?_⟩
          refine S.valg (dj := 167) hA (by kernel_rfl) rfl (R.eqlNil Try.underlying83 rfl rfl) rfl ?_; clear hA a; intro a hA
          refine S.val hA (R.pickT rfl rfl) rfl ?_; clear hA a; intro a hA
          refine S.val hA (R.move rfl) rfl ?_; clear hA a; intro a hA
          refine S.valg (dj := 173) hA (by kernel_rfl) rfl (R.move rfl) rfl ?_; clear hA a; intro a hA
          refine S.valg (dj := 173) hA (by kernel_rfl) rfl (R.move rfl) rfl ?_; clear hA a; intro a hA
          refine S.callg (dj := 173) hA (by kernel_rfl) rfl (R.callF Try.func51 rfl rfl rfl) rfl (pgive_high p21 m5 nb22 ob23 slots.toNat wk.toNat 2 wk 0 (by first | omega | decide | (simp; done) | (simp; omega)) (by first | omega | decide | (simp; done) | (simp; omega)) _ (hM.block (k := 0) rfl)) ?_; clear hA a
          rintro e w64 ⟨rfl, rfl⟩
          refine ⟨.pointer none, rfl, fun a hA => ?_⟩
          refine S.valg (dj := 173) hA (by kernel_rfl) rfl (R.eqlNil Try.underlying83 rfl rfl) rfl ?_; clear hA a; intro a hA
          refine S.val hA (R.pickT rfl rfl) rfl ?_; clear hA a; intro a hA
          refine S.val hA (R.assign rfl) rfl ?_; clear hA a; intro a hA
          refine S.done ?_
          replace hA : St 179 [(6, _)] a := hA.sub ((.cons rfl .nil))
          refine Ends.ret1 Try.func10 Try.results10 hA rfl ?_
          exact ⟨rfl, hM.nilL.below⟩
        ·
          refine Ends.region ?_
          refine S.val hA (R.move rfl) rfl ?_; clear hA a; intro a hA
          refine S.val hA (R.move rfl) rfl ?_; clear hA a; intro a hA
          refine S.val hA (R.move rfl) rfl ?_; clear hA a; intro a hA
          refine S.call hA (R.callF Try.func47 rfl rfl rfl) rfl (pnew_badn m5 c6 ((List.replicate ((n2 : Int)).toNat 0)) 0 ⟨0, 0, 0, 0, false⟩ hm5c6 2 slots wk (by first | omega | decide | (simp; done) | (simp; omega)) hs7 _ (hM.hereN 1)) ?_; clear hA a
          rintro e w65 ⟨rfl, hn⟩
          replace hM : Mem _ _ [memO m5 c6 ((List.replicate ((n2 : Int)).toNat 0)) 0 ⟨0, 0, 0, 0, false⟩] _ := hM.callL 1 hn; clear hn
          refine ⟨.tuple #[.pointer none, .int .i64 1], rfl, fun a hA => ?_⟩
          refine S.val hA (R.move rfl) rfl ?_; clear hA a; intro a hA
          refine S.val hA (R.extract (v := .pointer none) rfl rfl) rfl ?_; clear hA a; intro a hA
          refine S.val hA (R.extract (v := .int .i64 1) rfl rfl) rfl ?_; clear hA a; intro a hA
          refine S.val hA (R.assign rfl) rfl ?_; clear hA a; intro a hA
          refine S.val hA (R.assign rfl) rfl ?_; clear hA a; intro a hA
          refine S.done ?_
          replace hA : St 179 [(0, _), (1, _), (6, _), (7, _), (9, _), (10, _), (11, _)] a := hA.sub ((.cons rfl (.cons rfl (.cons rfl (.cons rfl (.cons rfl (.cons rfl (.cons rfl .nil))))))))
          refine Ends.seq ?_
          refine Ends.region ?_
          refine S.call hA (R.callF Try.func47 rfl rfl rfl) rfl (pnew_nil 0 1 1 (by first | omega | decide | (simp; done) | (simp; omega)) _) ?_; clear hA a
          rintro e w66 ⟨rfl, rfl⟩
          refine ⟨.tuple #[.pointer none, .int .i64 1], rfl, fun a hA => ?_⟩
          refine S.val hA (R.move rfl) rfl ?_; clear hA a; intro a hA
          refine S.val hA (R.extract (v := .pointer none) rfl rfl) rfl ?_; clear hA a; intro a hA
          refine S.val hA (R.extract (v := .int .i64 1) rfl rfl) rfl ?_; clear hA a; intro a hA
          refine S.val hA (R.assign rfl) rfl ?_; clear hA a; intro a hA
          refine S.val hA (R.assign rfl) rfl ?_; clear hA a; intro a hA
          refine S.done ?_
          replace hA : St 179 [(0, _), (1, _), (6, _), (7, _), (9, _), (10, _), (11, _), (13, _)] a := hA.sub ((.cons rfl (.cons rfl (.cons rfl (.cons rfl (.cons rfl (.cons rfl (.cons rfl (.cons rfl .nil)))))))))
          refine Ends.seq ?_
          refine Ends.region ?_
          refine S.val hA (R.assign rfl) rfl ?_; clear hA a; intro a hA
          refine S.done ?_
          replace hA : St 179 [(0, _), (1, _), (6, _), (7, _), (9, _), (10, _), (11, _), (13, _), (14, _)] a := hA.sub ((.cons rfl (.cons rfl (.cons rfl (.cons rfl (.cons rfl (.cons rfl (.cons rfl (.cons rfl (.cons rfl .nil))))))))))
          refine Ends.seq ?_
          refine Ends.seq ?_
          refine Ends.region ?_
          refine S.call hA (R.callF Try.func43 rfl rfl rfl) rfl (ppools_any _) ?_; clear hA a
          rintro e w67 ⟨rfl, hb⟩
          replace hM := hM.callB hb; clear hb
          refine ⟨.bool true, rfl, fun a hA => ?_⟩
          refine S.val hA (R.not rfl) rfl ?_; clear hA a; intro a hA
          refine S.val hA (R.move rfl) rfl ?_; clear hA a; intro a hA
          refine S.valg (dj := 47) hA (by kernel_rfl) rfl (R.move rfl) rfl ?_; clear hA a; intro a hA
          refine S.valg (dj := 47) hA (by kernel_rfl) rfl (R.ff (R.neq rfl rfl) (by first | decide | simp | omega)) rfl ?_; clear hA a; intro a hA
          refine S.val hA (R.pickF rfl rfl) rfl ?_; clear hA a; intro a hA
          refine S.val hA (R.move rfl) rfl ?_; clear hA a; intro a hA
          refine S.valg (dj := 51) hA (by kernel_rfl) rfl (R.move rfl) rfl ?_; clear hA a; intro a hA
          refine S.valg (dj := 51) hA (by kernel_rfl) rfl (R.ff (R.neq rfl rfl) (by first | decide | simp | omega)) rfl ?_; clear hA a; intro a hA
          refine S.val hA (R.pickF rfl rfl) rfl ?_; clear hA a; intro a hA
          refine S.val hA (R.move rfl) rfl ?_; clear hA a; intro a hA
          refine S.callg (dj := 55) hA (by kernel_rfl) rfl (R.callF Try.func48 rfl rfl rfl) rfl (pnone_any _) ?_; clear hA a
          rintro e w68 ⟨rfl, rfl⟩
          refine ⟨.pointer none, rfl, fun a hA => ?_⟩
          refine S.callg (dj := 55) hA (by kernel_rfl) rfl (R.callF Try.func49 rfl rfl rfl) rfl (pslots_nil _) ?_; clear hA a
          rintro e w69 ⟨rfl, rfl⟩
          refine ⟨.int .i64 0, rfl, fun a hA => ?_⟩
          refine S.valg (dj := 55) hA (by kernel_rfl) rfl (R.ff (R.neq rfl rfl) (by first | decide | simp | omega)) rfl ?_; clear hA a; intro a hA
          refine S.val hA (R.pickF rfl rfl) rfl ?_; clear hA a; intro a hA
          refine S.val hA (R.move rfl) rfl ?_; clear hA a; intro a hA
          refine S.callg (dj := 60) hA (by kernel_rfl) rfl (R.callF Try.func48 rfl rfl rfl) rfl (pnone_any _) ?_; clear hA a
          rintro e w70 ⟨rfl, rfl⟩
          refine ⟨.pointer none, rfl, fun a hA => ?_⟩
          refine S.callg (dj := 60) hA (by kernel_rfl) rfl (R.callF Try.func50 rfl rfl rfl) rfl (ptake_nil 0 _) ?_; clear hA a
          rintro e w71 ⟨rfl, rfl⟩
          refine ⟨.pointer none, rfl, fun a hA => ?_⟩
          refine S.valg (dj := 60) hA (by kernel_rfl) rfl (R.neqNil Try.underlying83 rfl rfl) rfl ?_; clear hA a; intro a hA
          refine S.val hA (R.pickF rfl rfl) rfl ?_; clear hA a; intro a hA
          refine S.val hA (R.move rfl) rfl ?_; clear hA a; intro a hA
          refine S.callg (dj := 65) hA (by kernel_rfl) rfl (R.callF Try.func48 rfl rfl rfl) rfl (pnone_any _) ?_; clear hA a
          rintro e w72 ⟨rfl, rfl⟩
          refine ⟨.pointer none, rfl, fun a hA => ?_⟩
          refine S.callg (dj := 65) hA (by kernel_rfl) rfl (R.callF Try.func51 rfl rfl rfl) rfl (pgive_nil 0 0 _) ?_; clear hA a
          rintro e w73 ⟨rfl, rfl⟩
          refine ⟨.pointer none, rfl, fun a hA => ?_⟩
          refine S.valg (dj := 65) hA (by kernel_rfl) rfl (R.neqNil Try.underlying83 rfl rfl) rfl ?_; clear hA a; intro a hA
          refine S.val hA (R.pickF rfl rfl) rfl ?_; clear hA a; intro a hA
          refine S.val hA (R.move rfl) rfl ?_; clear hA a; intro a hA
          refine S.callg (dj := 70) hA (by kernel_rfl) rfl (R.callF Try.func48 rfl rfl rfl) rfl (pnone_any _) ?_; clear hA a
          rintro e w74 ⟨rfl, rfl⟩
          refine ⟨.pointer none, rfl, fun a hA => ?_⟩
          refine S.callg (dj := 70) hA (by kernel_rfl) rfl (R.callF Try.func52 rfl rfl rfl) rfl (pown_nil 0 _) ?_; clear hA a
          rintro e w75 ⟨rfl, rfl⟩
          refine ⟨.slice none 0 0, rfl, fun a hA => ?_⟩
          refine S.valg (dj := 70) hA (by kernel_rfl) rfl (R.lenS Try.underlying43 rfl rfl) rfl ?_; clear hA a; intro a hA
          refine S.valg (dj := 70) hA (by kernel_rfl) rfl (R.ff (R.neq rfl rfl) (by first | decide | simp | omega)) rfl ?_; clear hA a; intro a hA
          refine S.val hA (R.pickF rfl rfl) rfl ?_; clear hA a; intro a hA
          refine S.val hA (R.move rfl) rfl ?_; clear hA a; intro a hA
          refine S.callg (dj := 76) hA (by kernel_rfl) rfl (R.callF Try.func48 rfl rfl rfl) rfl (pnone_any _) ?_; clear hA a
          rintro e w76 ⟨rfl, rfl⟩
          refine ⟨.pointer none, rfl, fun a hA => ?_⟩
          refine S.callg (dj := 76) hA (by kernel_rfl) rfl (R.callF Try.func53 rfl rfl rfl) rfl (pshared_nil _) ?_; clear hA a
          rintro e w77 ⟨rfl, rfl⟩
          refine ⟨.slice none 0 0, rfl, fun a hA => ?_⟩
          refine S.valg (dj := 76) hA (by kernel_rfl) rfl (R.lenS Try.underlying43 rfl rfl) rfl ?_; clear hA a; intro a hA
          refine S.valg (dj := 76) hA (by kernel_rfl) rfl (R.ff (R.neq rfl rfl) (by first | decide | simp | omega)) rfl ?_; clear hA a; intro a hA
          refine S.val hA (R.pickF rfl rfl) rfl ?_; clear hA a; intro a hA
          refine S.val hA (R.move rfl) rfl ?_; clear hA a; intro a hA
          refine S.valg (dj := 82) hA (by kernel_rfl) rfl (R.move rfl) rfl ?_; clear hA a; intro a hA
          refine S.callg (dj := 82) hA (by kernel_rfl) rfl (R.callF Try.func54 rfl rfl rfl) rfl (pover_nil _) ?_; clear hA a
          rintro e w78 ⟨rfl, rfl⟩
          refine ⟨.bool true, rfl, fun a hA => ?_⟩
          refine S.valg (dj := 82) hA (by kernel_rfl) rfl (R.not rfl) rfl ?_; clear hA a; intro a hA
          refine S.val hA (R.pickF rfl rfl) rfl ?_; clear hA a; intro a hA
          refine S.val hA (R.move rfl) rfl ?_; clear hA a; intro a hA
          refine S.valg (dj := 87) hA (by kernel_rfl) rfl (R.move rfl) rfl ?_; clear hA a; intro a hA
          refine S.callg (dj := 87) hA (by kernel_rfl) rfl (R.callF Try.func55 rfl rfl rfl) rfl (pstep_nil _) ?_; clear hA a
          rintro e w79 ⟨rfl, rfl⟩
          refine ⟨.bool true, rfl, fun a hA => ?_⟩
          refine S.valg (dj := 87) hA (by kernel_rfl) rfl (R.not rfl) rfl ?_; clear hA a; intro a hA
          refine S.val hA (R.pickF rfl rfl) rfl ?_; clear hA a; intro a hA
          refine S.val hA (R.move rfl) rfl ?_; clear hA a; intro a hA
          refine S.valg (dj := 92) hA (by kernel_rfl) rfl (R.move rfl) rfl ?_; clear hA a; intro a hA
          refine S.callg (dj := 92) hA (by kernel_rfl) rfl (R.callF Try.func56 rfl rfl rfl) rfl (pslot_nil _) ?_; clear hA a
          rintro e w80 ⟨rfl, rfl⟩
          refine ⟨.int .i64 (-1), rfl, fun a hA => ?_⟩
          refine S.valg (dj := 92) hA (by kernel_rfl) rfl (R.ff (R.neq rfl rfl) (by first | decide | simp | omega)) rfl ?_; clear hA a; intro a hA
          refine S.val hA (R.pickF rfl rfl) rfl ?_; clear hA a; intro a hA
          refine S.done ?_
          replace hA : St 179 [(0, _), (1, _), (6, _), (7, _), (10, _), (11, _), (96, _)] a := hA.sub ((.cons rfl (.cons rfl (.cons rfl (.cons rfl (.cons rfl (.cons rfl (.cons rfl .nil))))))))
          refine Ends.condF hA rfl ?_
          refine Ends.skip ?_
          refine Ends.seq ?_
          refine Ends.cut (fun (a : Act) (wv : World) => St 179 [(0, .int .i64 slots), (1, .int .i64 wk), (6, .bool false), (10, .pointer none), (11, .int .i64 1), (15, .bool (decide (((((1 ≤ slots ∧ slots ≤ 4096) ∧ 1 ≤ wk) ∧ wk ≤ 16) ∧ ((2 + slots) + 1) ≤ ((n2 : Int))))))] a ∧ Mem w nof [memO m5 c6 ((List.replicate ((n2 : Int)).toNat 0)) 0 ⟨0, 0, 0, 0, false⟩] wv) ?_ (fun k2 hJ => ?_)
          · clear hA hM a; rintro a w81 ⟨hA, hM⟩
            refine Ends.seq ?_
            refine Ends.seq ?_
            refine Ends.region ?_
            refine S.val hA (R.move rfl) rfl ?_; clear hA a; intro a hA
            refine S.val hA (R.notD rfl) rfl ?_; clear hA a; intro a hA
            refine S.done ?_
            replace hA : St 179 [(0, _), (1, _), (6, _), (10, _), (11, _), (119, _)] a := hA.sub ((.cons rfl (.cons rfl (.cons rfl (.cons rfl (.cons rfl (.cons rfl .nil)))))))
            refine Ends.ite hA rfl (fun hc27 => ?_) (fun hc27 => ?_)
            ·
              refine Ends.seq ?_
              refine Ends.cut (fun (a : Act) (wv : World) => St 179 [(0, .int .i64 slots), (1, .int .i64 wk), (6, .bool (decide (((0 = (IntKind.i64.wrap (slots + 1)) ∨ slots < 1) ∨ 4096 < slots)))), (10, .pointer none), (11, .int .i64 1)] a ∧ Mem w nof [memO m5 c6 ((List.replicate ((n2 : Int)).toNat 0)) 0 ⟨0, 0, 0, 0, false⟩] wv) ?_ (fun k2 hJ => ?_)
              · clear hA hM a; rintro a w82 ⟨hA, hM⟩
                refine Ends.ret1 Try.func10 Try.results10 hA rfl ?_
                exact ⟨congrArg (fun b => Ending.returned (.bool b)) (decide_eq_true (by omega)), hM.nilL.below⟩
              ·
                refine Ends.region ?_
                refine S.val hA (R.move rfl) rfl ?_; clear hA a; intro a hA
                refine S.val hA (R.eqlNil Try.underlying72 rfl rfl) rfl ?_; clear hA a; intro a hA
                refine S.val hA (R.move rfl) rfl ?_; clear hA a; intro a hA
                refine S.valg (dj := 122) hA (by kernel_rfl) rfl (R.move rfl) rfl ?_; clear hA a; intro a hA
                refine S.valg (dj := 122) hA (by kernel_rfl) rfl (R.tt (R.eql rfl rfl) (by first | decide | simp | omega)) rfl ?_; clear hA a; intro a hA
                refine S.val hA (R.pickT rfl rfl) rfl ?_; clear hA a; intro a hA
                refine S.val hA (R.move rfl) rfl ?_; clear hA a; intro a hA
                refine S.valg (dj := 126) hA (by kernel_rfl) rfl (R.move rfl) rfl ?_; clear hA a; intro a hA
                refine S.callg (dj := 126) hA (by kernel_rfl) rfl (R.callF Try.func57 rfl rfl rfl) rfl (pcells_bad slots hs7 _) ?_; clear hA a
                rintro e w83 ⟨rfl, rfl⟩
                refine ⟨.int .i64 0, rfl, fun a hA => ?_⟩
                refine S.valg (dj := 126) hA (by kernel_rfl) rfl (R.move rfl) rfl ?_; clear hA a; intro a hA
                refine S.valg (dj := 126) hA (by kernel_rfl) rfl (R.add rfl rfl) rfl ?_; clear hA a; intro a hA
                refine S.valg (dj := 126) hA (by kernel_rfl) rfl (R.eql rfl rfl) rfl ?_; clear hA a; intro a hA
                refine S.valg (dj := 126) hA (by kernel_rfl) rfl (R.move rfl) rfl ?_; clear hA a; intro a hA
                refine hA.split (d := 132) rfl ?_ ?_
                · clear hA; intro hg28 hA
                  refine S.no (dj := 132) hA (by kernel_rfl) rfl rfl rfl ?_; clear hA a; intro a hA
                  refine S.no (dj := 132) hA (by kernel_rfl) rfl rfl rfl ?_; clear hA a; intro a hA
                  refine S.valg (dj := 126) hA (by kernel_rfl) rfl (R.pickT rfl rfl) rfl ?_; clear hA a; intro a hA
                  refine S.valg (dj := 126) hA (by kernel_rfl) rfl (R.move rfl) rfl ?_; clear hA a; intro a hA
                  refine S.no (dj := 136) hA (by kernel_rfl) rfl rfl rfl ?_; clear hA a; intro a hA
                  refine S.no (dj := 136) hA (by kernel_rfl) rfl rfl rfl ?_; clear hA a; intro a hA
                  refine S.valg (dj := 126) hA (by kernel_rfl) rfl (R.pickT rfl rfl) rfl ?_; clear hA a; intro a hA
                  refine S.val hA (R.pickT rfl rfl) rfl ?_; clear hA a; intro a hA
                  refine S.val hA (R.assign rfl) rfl ?_; clear hA a; intro a hA
                  refine S.done ?_
                  replace hA : St 179 [(0, _), (1, _), (6, _), (10, _), (11, _)] a := hA.sub ((.cons rfl (.cons rfl (.cons rfl (.cons rfl (.cons rfl .nil))))))
                  exact hJ _ _ ⟨hA.sub (.cons rfl (.cons rfl (.cons (by first | rfl | exact congrArg (fun b => some (Value.bool b)) (by first | (simp; done) | simp [hg28])) (.cons rfl (.cons rfl .nil))))), hM⟩
                · clear hA; intro hg28 hA
                  refine S.valg (dj := 132) hA (by kernel_rfl) rfl (R.move rfl) rfl ?_; clear hA a; intro a hA
                  refine S.valg (dj := 132) hA (by kernel_rfl) rfl (R.lss rfl rfl) rfl ?_; clear hA a; intro a hA
                  refine S.valg (dj := 126) hA (by kernel_rfl) rfl (R.pickF rfl rfl) rfl ?_; clear hA a; intro a hA
                  refine S.valg (dj := 126) hA (by kernel_rfl) rfl (R.move rfl) rfl ?_; clear hA a; intro a hA
                  refine hA.split (d := 136) rfl ?_ ?_
                  · clear hA; intro hg29 hA
                    refine S.no (dj := 136) hA (by kernel_rfl) rfl rfl rfl ?_; clear hA a; intro a hA
                    refine S.no (dj := 136) hA (by kernel_rfl) rfl rfl rfl ?_; clear hA a; intro a hA
                    refine S.valg (dj := 126) hA (by kernel_rfl) rfl (R.pickT rfl rfl) rfl ?_; clear hA a; intro a hA
                    refine S.val hA (R.pickT rfl rfl) rfl ?_; clear hA a; intro a hA
                    refine S.val hA (R.assign rfl) rfl ?_; clear hA a; intro a hA
                    refine S.done ?_
                    replace hA : St 179 [(0, _), (1, _), (6, _), (10, _), (11, _)] a := hA.sub ((.cons rfl (.cons rfl (.cons rfl (.cons rfl (.cons rfl .nil))))))
                    exact hJ _ _ ⟨hA.sub (.cons rfl (.cons rfl (.cons (by first | rfl | exact congrArg (fun b => some (Value.bool b)) (by first | (simp; done) | simp [hg28, hg29])) (.cons rfl (.cons rfl .nil))))), hM⟩
                  · clear hA; intro hg29 hA
                    refine S.valg (dj := 136) hA (by kernel_rfl) rfl (R.move rfl) rfl ?_; clear hA a; intro a hA
                    refine S.valg (dj := 136) hA (by kernel_rfl) rfl (R.gtr rfl rfl) rfl ?_; clear hA a; intro a hA
                    refine S.valg (dj := 126) hA (by kernel_rfl) rfl (R.pickF rfl rfl) rfl ?_; clear hA a; intro a hA
                    refine S.val hA (R.pickT rfl rfl) rfl ?_; clear hA a; intro a hA
                    refine S.val hA (R.assign rfl) rfl ?_; clear hA a; intro a hA
                    refine S.done ?_
                    replace hA : St 179 [(0, _), (1, _), (6, _), (10, _), (11, _)] a := hA.sub ((.cons rfl (.cons rfl (.cons rfl (.cons rfl (.cons rfl .nil))))))
                    exact hJ _ _ ⟨hA.sub (.cons rfl (.cons rfl (.cons (by first | rfl | exact congrArg (fun b => some (Value.bool b)) (by first | (simp; done) | simp [hg28, hg29])) (.cons rfl (.cons rfl .nil))))), hM⟩
            · exfalso; omega
          ·
            refine Ends.region ?_
            refine S.val hA (R.move rfl) rfl ?_; clear hA a; intro a hA
            refine S.val hA (R.geq rfl rfl) rfl ?_; clear hA a; intro a hA
            refine S.val hA (R.move rfl) rfl ?_; clear hA a; intro a hA
            refine hA.split (d := 99) rfl ?_ ?_
            · clear hA; intro hg30 hA
              refine S.valg (dj := 99) hA (by kernel_rfl) rfl (R.move rfl) rfl ?_; clear hA a; intro a hA
              refine S.valg (dj := 99) hA (by kernel_rfl) rfl (R.leq rfl rfl) rfl ?_; clear hA a; intro a hA
              refine S.val hA (R.pickT rfl rfl) rfl ?_; clear hA a; intro a hA
              refine S.val hA (R.move rfl) rfl ?_; clear hA a; intro a hA
              refine hA.split (d := 103) rfl ?_ ?_
              · clear hA; intro hg31 hA
                refine S.valg (dj := 103) hA (by kernel_rfl) rfl (R.move rfl) rfl ?_; clear hA a; intro a hA
                refine S.valg (dj := 103) hA (by kernel_rfl) rfl (R.geq rfl rfl) rfl ?_; clear hA a; intro a hA
                refine S.val hA (R.pickT rfl rfl) rfl ?_; clear hA a; intro a hA
                refine S.val hA (R.move rfl) rfl ?_; clear hA a; intro a hA
                refine hA.split (d := 107) rfl ?_ ?_
                · clear hA; intro hg32 hA
                  refine S.valg (dj := 107) hA (by kernel_rfl) rfl (R.move rfl) rfl ?_; clear hA a; intro a hA
                  refine S.valg (dj := 107) hA (by kernel_rfl) rfl (R.leq rfl rfl) rfl ?_; clear hA a; intro a hA
                  refine S.val hA (R.pickT rfl rfl) rfl ?_; clear hA a; intro a hA
                  refine S.val hA (R.move rfl) rfl ?_; clear hA a; intro a hA
                  refine hA.split (d := 111) rfl ?_ ?_
                  · clear hA; intro hg33 hA
                    refine S.valg (dj := 111) hA (by kernel_rfl) rfl (R.move rfl) rfl ?_; clear hA a; intro a hA
                    refine S.valg (dj := 111) hA (by kernel_rfl) rfl (R.move rfl) rfl ?_; clear hA a; intro a hA
                    refine S.valg (dj := 111) hA (by kernel_rfl) rfl (R.addI rfl rfl (r := 2 + slots) rfl (by omega)) rfl ?_; clear hA a; intro a hA
                    refine S.valg (dj := 111) hA (by kernel_rfl) rfl (R.addI rfl rfl (r := (2 + slots) + 1) rfl (by omega)) rfl ?_; clear hA a; intro a hA
                    refine S.valg (dj := 111) hA (by kernel_rfl) rfl (R.geq rfl rfl) rfl ?_; clear hA a; intro a hA
                    refine S.val hA (R.pickT rfl rfl) rfl ?_; clear hA a; intro a hA
                    refine S.val hA (R.assign rfl) rfl ?_; clear hA a; intro a hA
                    refine S.done ?_
                    replace hA : St 179 [(0, _), (1, _), (6, _), (10, _), (11, _), (15, _)] a := hA.sub ((.cons rfl (.cons rfl (.cons rfl (.cons rfl (.cons rfl (.cons rfl .nil)))))))
                    exact hJ _ _ ⟨hA.sub (.cons rfl (.cons rfl (.cons rfl (.cons rfl (.cons rfl (.cons (by first | rfl | exact congrArg (fun b => some (Value.bool b)) (by first | (simp; done) | simp [hg30, hg31, hg32, hg33])) .nil)))))), hM⟩
                  · clear hA; intro hg33 hA
                    refine S.no (dj := 111) hA (by kernel_rfl) rfl rfl rfl ?_; clear hA a; intro a hA
                    refine S.no (dj := 111) hA (by kernel_rfl) rfl rfl rfl ?_; clear hA a; intro a hA
                    refine S.no (dj := 111) hA (by kernel_rfl) rfl rfl rfl ?_; clear hA a; intro a hA
                    refine S.no (dj := 111) hA (by kernel_rfl) rfl rfl rfl ?_; clear hA a; intro a hA
                    refine S.no (dj := 111) hA (by kernel_rfl) rfl rfl rfl ?_; clear hA a; intro a hA
                    refine S.val hA (R.pickF rfl rfl) rfl ?_; clear hA a; intro a hA
                    refine S.val hA (R.assign rfl) rfl ?_; clear hA a; intro a hA
                    refine S.done ?_
                    replace hA : St 179 [(0, _), (1, _), (6, _), (10, _), (11, _), (15, _)] a := hA.sub ((.cons rfl (.cons rfl (.cons rfl (.cons rfl (.cons rfl (.cons rfl .nil)))))))
                    exact hJ _ _ ⟨hA.sub (.cons rfl (.cons rfl (.cons rfl (.cons rfl (.cons rfl (.cons (by first | rfl | exact congrArg (fun b => some (Value.bool b)) (by first | (simp; done) | simp [hg30, hg31, hg32, hg33])) .nil)))))), hM⟩
                · clear hA; intro hg32 hA
                  refine S.no (dj := 107) hA (by kernel_rfl) rfl rfl rfl ?_; clear hA a; intro a hA
                  refine S.no (dj := 107) hA (by kernel_rfl) rfl rfl rfl ?_; clear hA a; intro a hA
                  refine S.val hA (R.pickF rfl rfl) rfl ?_; clear hA a; intro a hA
                  refine S.val hA (R.move rfl) rfl ?_; clear hA a; intro a hA
                  refine S.no (dj := 111) hA (by kernel_rfl) rfl rfl rfl ?_; clear hA a; intro a hA
                  refine S.no (dj := 111) hA (by kernel_rfl) rfl rfl rfl ?_; clear hA a; intro a hA
                  refine S.no (dj := 111) hA (by kernel_rfl) rfl rfl rfl ?_; clear hA a; intro a hA
                  refine S.no (dj := 111) hA (by kernel_rfl) rfl rfl rfl ?_; clear hA a; intro a hA
                  refine S.no (dj := 111) hA (by kernel_rfl) rfl rfl rfl ?_; clear hA a; intro a hA
                  refine S.val hA (R.pickF rfl rfl) rfl ?_; clear hA a; intro a hA
                  refine S.val hA (R.assign rfl) rfl ?_; clear hA a; intro a hA
                  refine S.done ?_
                  replace hA : St 179 [(0, _), (1, _), (6, _), (10, _), (11, _), (15, _)] a := hA.sub ((.cons rfl (.cons rfl (.cons rfl (.cons rfl (.cons rfl (.cons rfl .nil)))))))
                  exact hJ _ _ ⟨hA.sub (.cons rfl (.cons rfl (.cons rfl (.cons rfl (.cons rfl (.cons (by first | rfl | exact congrArg (fun b => some (Value.bool b)) (by first | (simp; done) | simp [hg30, hg31, hg32])) .nil)))))), hM⟩
              · clear hA; intro hg31 hA
                refine S.no (dj := 103) hA (by kernel_rfl) rfl rfl rfl ?_; clear hA a; intro a hA
                refine S.no (dj := 103) hA (by kernel_rfl) rfl rfl rfl ?_; clear hA a; intro a hA
                refine S.val hA (R.pickF rfl rfl) rfl ?_; clear hA a; intro a hA
                refine S.val hA (R.move rfl) rfl ?_; clear hA a; intro a hA
                refine S.no (dj := 107) hA (by kernel_rfl) rfl rfl rfl ?_; clear hA a; intro a hA
                refine S.no (dj := 107) hA (by kernel_rfl) rfl rfl rfl ?_; clear hA a; intro a hA
                refine S.val hA (R.pickF rfl rfl) rfl ?_; clear hA a; intro a hA
                refine S.val hA (R.move rfl) rfl ?_; clear hA a; intro a hA
                refine S.no (dj := 111) hA (by kernel_rfl) rfl rfl rfl ?_; clear hA a; intro a hA
                refine S.no (dj := 111) hA (by kernel_rfl) rfl rfl rfl ?_; clear hA a; intro a hA
                refine S.no (dj := 111) hA (by kernel_rfl) rfl rfl rfl ?_; clear hA a; intro a hA
                refine S.no (dj := 111) hA (by kernel_rfl) rfl rfl rfl ?_; clear hA a; intro a hA
                refine S.no (dj := 111) hA (by kernel_rfl) rfl rfl rfl ?_; clear hA a; intro a hA
                refine S.val hA (R.pickF rfl rfl) rfl ?_; clear hA a; intro a hA
                refine S.val hA (R.assign rfl) rfl ?_; clear hA a; intro a hA
                refine S.done ?_
                replace hA : St 179 [(0, _), (1, _), (6, _), (10, _), (11, _), (15, _)] a := hA.sub ((.cons rfl (.cons rfl (.cons rfl (.cons rfl (.cons rfl (.cons rfl .nil)))))))
                exact hJ _ _ ⟨hA.sub (.cons rfl (.cons rfl (.cons rfl (.cons rfl (.cons rfl (.cons (by first | rfl | exact congrArg (fun b => some (Value.bool b)) (by first | (simp; done) | simp [hg30, hg31])) .nil)))))), hM⟩
            · clear hA; intro hg30 hA
              refine S.no (dj := 99) hA (by kernel_rfl) rfl rfl rfl ?_; clear hA a; intro a hA
              refine S.no (dj := 99) hA (by kernel_rfl) rfl rfl rfl ?_; clear hA a; intro a hA
              refine S.val hA (R.pickF rfl rfl) rfl ?_; clear hA a; intro a hA
              refine S.val hA (R.move rfl) rfl ?_; clear hA a; intro a hA
              refine S.no (dj := 103) hA (by kernel_rfl) rfl rfl rfl ?_; clear hA a; intro a hA
              refine S.no (dj := 103) hA (by kernel_rfl) rfl rfl rfl ?_; clear hA a; intro a hA
              refine S.val hA (R.pickF rfl rfl) rfl ?_; clear hA a; intro a hA
              refine S.val hA (R.move rfl) rfl ?_; clear hA a; intro a hA
              refine S.no (dj := 107) hA (by kernel_rfl) rfl rfl rfl ?_; clear hA a; intro a hA
              refine S.no (dj := 107) hA (by kernel_rfl) rfl rfl rfl ?_; clear hA a; intro a hA
              refine S.val hA (R.pickF rfl rfl) rfl ?_; clear hA a; intro a hA
              refine S.val hA (R.move rfl) rfl ?_; clear hA a; intro a hA
              refine S.no (dj := 111) hA (by kernel_rfl) rfl rfl rfl ?_; clear hA a; intro a hA
              refine S.no (dj := 111) hA (by kernel_rfl) rfl rfl rfl ?_; clear hA a; intro a hA
              refine S.no (dj := 111) hA (by kernel_rfl) rfl rfl rfl ?_; clear hA a; intro a hA
              refine S.no (dj := 111) hA (by kernel_rfl) rfl rfl rfl ?_; clear hA a; intro a hA
              refine S.no (dj := 111) hA (by kernel_rfl) rfl rfl rfl ?_; clear hA a; intro a hA
              refine S.val hA (R.pickF rfl rfl) rfl ?_; clear hA a; intro a hA
              refine S.val hA (R.assign rfl) rfl ?_; clear hA a; intro a hA
              refine S.done ?_
              replace hA : St 179 [(0, _), (1, _), (6, _), (10, _), (11, _), (15, _)] a := hA.sub ((.cons rfl (.cons rfl (.cons rfl (.cons rfl (.cons rfl (.cons rfl .nil)))))))
              exact hJ _ _ ⟨hA.sub (.cons rfl (.cons rfl (.cons rfl (.cons rfl (.cons rfl (.cons (by first | rfl | exact congrArg (fun b => some (Value.bool b)) (by first | (simp; done) | simp [hg30])) .nil)))))), hM⟩
  ·
    refine Ends.region ?_
    refine S.val hA (R.move rfl) rfl ?_; clear hA a; intro a hA
    refine S.val hA (R.gtr rfl rfl) rfl ?_; clear hA a; intro a hA
    refine S.val hA (R.move rfl) rfl ?_; clear hA a; intro a hA
    refine hA.split (d := 18) rfl ?_ ?_
    · clear hA; intro hg34 hA
      refine S.valg (dj := 18) hA (by kernel_rfl) rfl (R.move rfl) rfl ?_; clear hA a; intro a hA
      refine S.valg (dj := 18) hA (by kernel_rfl) rfl (R.leq rfl rfl) rfl ?_; clear hA a; intro a hA
      refine S.val hA (R.pickT rfl rfl) rfl ?_; clear hA a; intro a hA
      refine S.done ?_
      replace hA : St 179 [(0, _), (1, _), (2, _), (6, _), (21, _)] a := hA.sub ((.cons rfl (.cons rfl (.cons rfl (.cons rfl (.cons rfl .nil))))))
      exact hJ _ _ ⟨hA.sub (.cons rfl (.cons rfl (.cons rfl (.cons rfl (.cons (by first | rfl | exact congrArg (fun b => some (Value.bool b)) (by first | (simp; done) | simp [hg34])) .nil))))), hM⟩
    · clear hA; intro hg34 hA
      refine S.no (dj := 18) hA (by kernel_rfl) rfl rfl rfl ?_; clear hA a; intro a hA
      refine S.no (dj := 18) hA (by kernel_rfl) rfl rfl rfl ?_; clear hA a; intro a hA
      refine S.val hA (R.pickF rfl rfl) rfl ?_; clear hA a; intro a hA
      refine S.done ?_
      replace hA : St 179 [(0, _), (1, _), (2, _), (6, _), (21, _)] a := hA.sub ((.cons rfl (.cons rfl (.cons rfl (.cons rfl (.cons rfl .nil))))))
      exact hJ _ _ ⟨hA.sub (.cons rfl (.cons rfl (.cons rfl (.cons rfl (.cons (by first | rfl | exact congrArg (fun b => some (Value.bool b)) (by first | (simp; done) | simp [hg34])) .nil))))), hM⟩
set_option maxRecDepth 100000 in
set_option maxHeartbeats 400000 in
theorem poolNews_big (slots wk rm : Int) (sz : Int) (hS : sz = 4096 - slots % 3) (hb : 50 < slots ∧ slots ≤ 4096) (_hs : -9223372036854775808 ≤ slots ∧ slots ≤ 9223372036854775807) (w : World) :
    Calls Try.prog 10 #[.int .i64 slots, .int .i64 wk, .int .i64 rm] w fun e w' => e = .returned (.bool true) ∧ Below w.heap.size w w' := by
  have hM := Mem.start w
  refine Calls.of_ends (vs := [.int .i64 slots, .int .i64 wk, .int .i64 rm]) Try.func10 rfl Try.ntmps10 rfl ?_
  intro a hA
  replace hA : St 179 [(0, _), (1, _), (2, _)] a := hA
  refine Ends.seq ?_
  refine Ends.region ?_
  refine S.val hA (R.assign rfl) rfl ?_; clear hA a; intro a hA
  refine S.done ?_
  replace hA : St 179 [(0, _), (1, _), (2, _), (6, _)] a := hA.sub ((.cons rfl (.cons rfl (.cons rfl (.cons rfl .nil)))))
  refine Ends.seq ?_
  refine Ends.seq ?_
  refine Ends.region ?_
  refine S.val hA (R.move rfl) rfl ?_; clear hA a; intro a hA
  refine S.val hA (R.tt (R.gtr rfl rfl) (by omega)) rfl ?_; clear hA a; intro a hA
  refine S.val hA (R.move rfl) rfl ?_; clear hA a; intro a hA
  refine S.valg (dj := 18) hA (by kernel_rfl) rfl (R.move rfl) rfl ?_; clear hA a; intro a hA
  refine S.valg (dj := 18) hA (by kernel_rfl) rfl (R.tt (R.leq rfl rfl) (by omega)) rfl ?_; clear hA a; intro a hA
  refine S.val hA (R.pickT rfl rfl) rfl ?_; clear hA a; intro a hA
  refine S.done ?_
  replace hA : St 179 [(0, _), (1, _), (2, _), (6, _), (21, _)] a := hA.sub ((.cons rfl (.cons rfl (.cons rfl (.cons rfl (.cons rfl .nil))))))
  refine Ends.condT hA rfl ?_
  refine Ends.region ?_
  refine S.val hA (R.move rfl) rfl ?_; clear hA a; intro a hA
  refine S.val hA (R.remI rfl rfl rfl (by omega)) rfl ?_; clear hA a; intro a hA
  refine S.val hA (R.subI rfl rfl (r := sz) (by omega) (by omega)) rfl ?_; clear hA a; intro a hA
  refine S.val hA (R.assign rfl) rfl ?_; clear hA a; intro a hA
  refine S.done ?_
  replace hA : St 179 [(0, _), (1, _), (2, _), (6, _)] a := hA.sub ((.cons rfl (.cons rfl (.cons rfl (.cons rfl .nil)))))
  refine Ends.seq ?_
  refine Ends.region ?_
  refine S.val hA (R.move rfl) rfl ?_; clear hA a; intro a hA
  refine S.val hA (R.conv Try.underlying22 Try.underlying3 rfl) rfl ?_; clear hA a; intro a hA
  refine S.val hA (R.remI rfl rfl rfl ⟨u64_nn _, by decide⟩) rfl ?_; clear hA a; intro a hA
  obtain ⟨n1, hn2, en3⟩ := umod_ex rm 5000 (by decide)
  refine S.val hA (R.to (v := .int .i64 (n1 : Int)) (R.conv Try.underlying3 Try.underlying22 rfl) (congrArg (Value.int .i64) en3)) rfl ?_; clear hA a; intro a hA
  refine S.val hA (R.assign rfl) rfl ?_; clear hA a; intro a hA
  refine S.done ?_
  replace hA : St 179 [(0, _), (1, _), (6, _), (7, _)] a := hA.sub ((.cons rfl (.cons rfl (.cons rfl (.cons rfl .nil)))))
  refine Ends.seq ?_
  refine Ends.region ?_
  refine S.val hA (R.move rfl) rfl ?_; clear hA a; intro a hA
  refine S.call hA (R.callF Try.func20 rfl rfl rfl) rfl (new_ok ((n1 : Int)) (by omega) (by omega) _) ?_; clear hA a
  rintro e w1 ⟨m4, c5, rfl, hm4c5, hn⟩
  replace hM : Mem _ _ [memO m4 c5 ((List.replicate ((n1 : Int)).toNat 0)) 0 ⟨0, 0, 0, 0, false⟩] _ := hM.call hn; clear hn
  refine ⟨.tuple #[.pointer (some ⟨m4, 0, none⟩), .int .i64 0], rfl, fun a hA => ?_⟩
  refine S.val hA (R.move rfl) rfl ?_; clear hA a; intro a hA
  refine S.val hA (R.extract (v := .pointer (some ⟨m4, 0, none⟩)) rfl rfl) rfl ?_; clear hA a; intro a hA
  refine S.val hA (R.extract (v := .int .i64 0) rfl rfl) rfl ?_; clear hA a; intro a hA
  refine S.val hA (R.assign rfl) rfl ?_; clear hA a; intro a hA
  refine S.val hA (R.assign rfl) rfl ?_; clear hA a; intro a hA
  refine S.done ?_
  replace hA : St 179 [(0, _), (1, _), (6, _), (7, _), (8, _), (9, _)] a := hA.sub ((.cons rfl (.cons rfl (.cons rfl (.cons rfl (.cons rfl (.cons rfl .nil)))))))
  refine Ends.seq ?_
  by_cases hs6 : 1 ≤ sz ∧ sz ≤ 4096
  ·
    by_cases hs7 : 1 ≤ sz ∧ sz ≤ 4096 ∧ 1 ≤ wk ∧ wk ≤ 16 ∧ 2 + sz + 1 ≤ (n1 : Int)
    ·
      refine Ends.region ?_
      refine S.val hA (R.move rfl) rfl ?_; clear hA a; intro a hA
      refine S.val hA (R.move rfl) rfl ?_; clear hA a; intro a hA
      refine S.val hA (R.move rfl) rfl ?_; clear hA a; intro a hA
      refine S.call hA (R.callF Try.func47 rfl rfl rfl) rfl (pnew_ok m4 c5 ((List.replicate ((n1 : Int)).toNat 0)) 0 ⟨0, 0, 0, 0, false⟩ hm4c5 2 sz wk (by first | omega | decide | (simp; done) | (simp; omega)) (by first | omega | decide | (simp; done) | (simp; omega)) (by first | omega | decide | (simp; done) | (simp; omega)) (by first | omega | decide | (simp; done) | (simp; omega)) (by first | omega | decide | (simp; done) | (simp; omega)) _ (hM.hereN 1)) ?_; clear hA a
      rintro e w2 ⟨p8, nb9, ob10, op11, rfl, hn⟩
      replace hM : Mem _ _ [pt p8 #[.pointer (some ⟨m4, 0, none⟩), .int .i64 2, .slice (some ⟨nb9, 0, none⟩) sz.toNat sz.toNat, .slice (some ⟨ob10, 0, none⟩) wk.toNat wk.toNat] 128, pt nb9 ((madeCells #[.slice none 0 0, .int .i64 0] (sz.toNat * 2))) 77, pt ob10 ((vals (nils wk.toNat))) 43, memO m4 c5 ((linkL ((List.replicate ((n1 : Int)).toNat 0)) 2 sz sz.toNat)) (0 + 1 + sz) op11] _ := hM.callL 1 hn; clear hn
      refine ⟨.tuple #[.pointer (some ⟨p8, 0, none⟩), .int .i64 0], rfl, fun a hA => ?_⟩
      refine S.val hA (R.move rfl) rfl ?_; clear hA a; intro a hA
      refine S.val hA (R.extract (v := .pointer (some ⟨p8, 0, none⟩)) rfl rfl) rfl ?_; clear hA a; intro a hA
      refine S.val hA (R.extract (v := .int .i64 0) rfl rfl) rfl ?_; clear hA a; intro a hA
      refine S.val hA (R.assign rfl) rfl ?_; clear hA a; intro a hA
      refine S.val hA (R.assign rfl) rfl ?_; clear hA a; intro a hA
      refine S.done ?_
      replace hA : St 179 [(0, _), (1, _), (6, _), (7, _), (9, _), (10, _), (11, _)] a := hA.sub ((.cons rfl (.cons rfl (.cons rfl (.cons rfl (.cons rfl (.cons rfl (.cons rfl .nil))))))))
      refine Ends.seq ?_
      refine Ends.region ?_
      refine S.call hA (R.callF Try.func47 rfl rfl rfl) rfl (pnew_nil 0 1 1 (by first | omega | decide | (simp; done) | (simp; omega)) _) ?_; clear hA a
      rintro e w3 ⟨rfl, rfl⟩
      refine ⟨.tuple #[.pointer none, .int .i64 1], rfl, fun a hA => ?_⟩
      refine S.val hA (R.move rfl) rfl ?_; clear hA a; intro a hA
      refine S.val hA (R.extract (v := .pointer none) rfl rfl) rfl ?_; clear hA a; intro a hA
      refine S.val hA (R.extract (v := .int .i64 1) rfl rfl) rfl ?_; clear hA a; intro a hA
      refine S.val hA (R.assign rfl) rfl ?_; clear hA a; intro a hA
      refine S.val hA (R.assign rfl) rfl ?_; clear hA a; intro a hA
      refine S.done ?_
      replace hA : St 179 [(0, _), (1, _), (6, _), (7, _), (9, _), (10, _), (11, _), (13, _)] a := hA.sub ((.cons rfl (.cons rfl (.cons rfl (.cons rfl (.cons rfl (.cons rfl (.cons rfl (.cons rfl .nil)))))))))
      refine Ends.seq ?_
      refine Ends.region ?_
      refine S.val hA (R.assign rfl) rfl ?_; clear hA a; intro a hA
      refine S.done ?_
      replace hA : St 179 [(0, _), (1, _), (6, _), (7, _), (9, _), (10, _), (11, _), (13, _), (14, _)] a := hA.sub ((.cons rfl (.cons rfl (.cons rfl (.cons rfl (.cons rfl (.cons rfl (.cons rfl (.cons rfl (.cons rfl .nil))))))))))
      refine Ends.seq ?_
      refine Ends.seq ?_
      refine Ends.region ?_
      refine S.call hA (R.callF Try.func43 rfl rfl rfl) rfl (ppools_any _) ?_; clear hA a
      rintro e w4 ⟨rfl, hb⟩
      replace hM := hM.callB hb; clear hb
      refine ⟨.bool true, rfl, fun a hA => ?_⟩
      refine S.val hA (R.not rfl) rfl ?_; clear hA a; intro a hA
      refine S.val hA (R.move rfl) rfl ?_; clear hA a; intro a hA
      refine S.valg (dj := 47) hA (by kernel_rfl) rfl (R.move rfl) rfl ?_; clear hA a; intro a hA
      refine S.valg (dj := 47) hA (by kernel_rfl) rfl (R.ff (R.neq rfl rfl) (by first | decide | simp | omega)) rfl ?_; clear hA a; intro a hA
      refine S.val hA (R.pickF rfl rfl) rfl ?_; clear hA a; intro a hA
      refine S.val hA (R.move rfl) rfl ?_; clear hA a; intro a hA
      refine S.valg (dj := 51) hA (by kernel_rfl) rfl (R.move rfl) rfl ?_; clear hA a; intro a hA
      refine S.valg (dj := 51) hA (by kernel_rfl) rfl (R.ff (R.neq rfl rfl) (by first | decide | simp | omega)) rfl ?_; clear hA a; intro a hA
      refine S.val hA (R.pickF rfl rfl) rfl ?_; clear hA a; intro a hA
      refine S.val hA (R.move rfl) rfl ?_; clear hA a; intro a hA
      refine S.callg (dj := 55) hA (by kernel_rfl) rfl (R.callF Try.func48 rfl rfl rfl) rfl (pnone_any _) ?_; clear hA a
      rintro e w5 ⟨rfl, rfl⟩
      refine ⟨.pointer none, rfl, fun a hA => ?_⟩
      refine S.callg (dj := 55) hA (by kernel_rfl) rfl (R.callF Try.func49 rfl rfl rfl) rfl (pslots_nil _) ?_; clear hA a
      rintro e w6 ⟨rfl, rfl⟩
      refine ⟨.int .i64 0, rfl, fun a hA => ?_⟩
      refine S.valg (dj := 55) hA (by kernel_rfl) rfl (R.ff (R.neq rfl rfl) (by first | decide | simp | omega)) rfl ?_; clear hA a; intro a hA
      refine S.val hA (R.pickF rfl rfl) rfl ?_; clear hA a; intro a hA
      refine S.val hA (R.move rfl) rfl ?_; clear hA a; intro a hA
      refine S.callg (dj := 60) hA (by kernel_rfl) rfl (R.callF Try.func48 rfl rfl rfl) rfl (pnone_any _) ?_; clear hA a
      rintro e w7 ⟨rfl, rfl⟩
      refine ⟨.pointer none, rfl, fun a hA => ?_⟩
      refine S.callg (dj := 60) hA (by kernel_rfl) rfl (R.callF Try.func50 rfl rfl rfl) rfl (ptake_nil 0 _) ?_; clear hA a
      rintro e w8 ⟨rfl, rfl⟩
      refine ⟨.pointer none, rfl, fun a hA => ?_⟩
      refine S.valg (dj := 60) hA (by kernel_rfl) rfl (R.neqNil Try.underlying83 rfl rfl) rfl ?_; clear hA a; intro a hA
      refine S.val hA (R.pickF rfl rfl) rfl ?_; clear hA a; intro a hA
      refine S.val hA (R.move rfl) rfl ?_; clear hA a; intro a hA
      refine S.callg (dj := 65) hA (by kernel_rfl) rfl (R.callF Try.func48 rfl rfl rfl) rfl (pnone_any _) ?_; clear hA a
      rintro e w9 ⟨rfl, rfl⟩
      refine ⟨.pointer none, rfl, fun a hA => ?_⟩
      refine S.callg (dj := 65) hA (by kernel_rfl) rfl (R.callF Try.func51 rfl rfl rfl) rfl (pgive_nil 0 0 _) ?_; clear hA a
      rintro e w10 ⟨rfl, rfl⟩
      refine ⟨.pointer none, rfl, fun a hA => ?_⟩
      refine S.valg (dj := 65) hA (by kernel_rfl) rfl (R.neqNil Try.underlying83 rfl rfl) rfl ?_; clear hA a; intro a hA
      refine S.val hA (R.pickF rfl rfl) rfl ?_; clear hA a; intro a hA
      refine S.val hA (R.move rfl) rfl ?_; clear hA a; intro a hA
      refine S.callg (dj := 70) hA (by kernel_rfl) rfl (R.callF Try.func48 rfl rfl rfl) rfl (pnone_any _) ?_; clear hA a
      rintro e w11 ⟨rfl, rfl⟩
      refine ⟨.pointer none, rfl, fun a hA => ?_⟩
      refine S.callg (dj := 70) hA (by kernel_rfl) rfl (R.callF Try.func52 rfl rfl rfl) rfl (pown_nil 0 _) ?_; clear hA a
      rintro e w12 ⟨rfl, rfl⟩
      refine ⟨.slice none 0 0, rfl, fun a hA => ?_⟩
      refine S.valg (dj := 70) hA (by kernel_rfl) rfl (R.lenS Try.underlying43 rfl rfl) rfl ?_; clear hA a; intro a hA
      refine S.valg (dj := 70) hA (by kernel_rfl) rfl (R.ff (R.neq rfl rfl) (by first | decide | simp | omega)) rfl ?_; clear hA a; intro a hA
      refine S.val hA (R.pickF rfl rfl) rfl ?_; clear hA a; intro a hA
      refine S.val hA (R.move rfl) rfl ?_; clear hA a; intro a hA
      refine S.callg (dj := 76) hA (by kernel_rfl) rfl (R.callF Try.func48 rfl rfl rfl) rfl (pnone_any _) ?_; clear hA a
      rintro e w13 ⟨rfl, rfl⟩
      refine ⟨.pointer none, rfl, fun a hA => ?_⟩
      refine S.callg (dj := 76) hA (by kernel_rfl) rfl (R.callF Try.func53 rfl rfl rfl) rfl (pshared_nil _) ?_; clear hA a
      rintro e w14 ⟨rfl, rfl⟩
      refine ⟨.slice none 0 0, rfl, fun a hA => ?_⟩
      refine S.valg (dj := 76) hA (by kernel_rfl) rfl (R.lenS Try.underlying43 rfl rfl) rfl ?_; clear hA a; intro a hA
      refine S.valg (dj := 76) hA (by kernel_rfl) rfl (R.ff (R.neq rfl rfl) (by first | decide | simp | omega)) rfl ?_; clear hA a; intro a hA
      refine S.val hA (R.pickF rfl rfl) rfl ?_; clear hA a; intro a hA
      refine S.val hA (R.move rfl) rfl ?_; clear hA a; intro a hA
      refine S.valg (dj := 82) hA (by kernel_rfl) rfl (R.move rfl) rfl ?_; clear hA a; intro a hA
      refine S.callg (dj := 82) hA (by kernel_rfl) rfl (R.callF Try.func54 rfl rfl rfl) rfl (pover_nil _) ?_; clear hA a
      rintro e w15 ⟨rfl, rfl⟩
      refine ⟨.bool true, rfl, fun a hA => ?_⟩
      refine S.valg (dj := 82) hA (by kernel_rfl) rfl (R.not rfl) rfl ?_; clear hA a; intro a hA
      refine S.val hA (R.pickF rfl rfl) rfl ?_; clear hA a; intro a hA
      refine S.val hA (R.move rfl) rfl ?_; clear hA a; intro a hA
      refine S.valg (dj := 87) hA (by kernel_rfl) rfl (R.move rfl) rfl ?_; clear hA a; intro a hA
      refine S.callg (dj := 87) hA (by kernel_rfl) rfl (R.callF Try.func55 rfl rfl rfl) rfl (pstep_nil _) ?_; clear hA a
      rintro e w16 ⟨rfl, rfl⟩
      refine ⟨.bool true, rfl, fun a hA => ?_⟩
      refine S.valg (dj := 87) hA (by kernel_rfl) rfl (R.not rfl) rfl ?_; clear hA a; intro a hA
      refine S.val hA (R.pickF rfl rfl) rfl ?_; clear hA a; intro a hA
      refine S.val hA (R.move rfl) rfl ?_; clear hA a; intro a hA
      refine S.valg (dj := 92) hA (by kernel_rfl) rfl (R.move rfl) rfl ?_; clear hA a; intro a hA
      refine S.callg (dj := 92) hA (by kernel_rfl) rfl (R.callF Try.func56 rfl rfl rfl) rfl (pslot_nil _) ?_; clear hA a
      rintro e w17 ⟨rfl, rfl⟩
      refine ⟨.int .i64 (-1), rfl, fun a hA => ?_⟩
      refine S.valg (dj := 92) hA (by kernel_rfl) rfl (R.ff (R.neq rfl rfl) (by first | decide | simp | omega)) rfl ?_; clear hA a; intro a hA
      refine S.val hA (R.pickF rfl rfl) rfl ?_; clear hA a; intro a hA
      refine S.done ?_
      replace hA : St 179 [(0, _), (1, _), (6, _), (7, _), (10, _), (11, _), (96, _)] a := hA.sub ((.cons rfl (.cons rfl (.cons rfl (.cons rfl (.cons rfl (.cons rfl (.cons rfl .nil))))))))
      refine Ends.condF hA rfl ?_
      refine Ends.skip ?_
      refine Ends.seq ?_
      refine Ends.region ?_
      refine S.val hA (R.move rfl) rfl ?_; clear hA a; intro a hA
      refine S.val hA (R.tt (R.geq rfl rfl) (by omega)) rfl ?_; clear hA a; intro a hA
      refine S.val hA (R.move rfl) rfl ?_; clear hA a; intro a hA
      refine S.valg (dj := 99) hA (by kernel_rfl) rfl (R.move rfl) rfl ?_; clear hA a; intro a hA
      refine S.valg (dj := 99) hA (by kernel_rfl) rfl (R.tt (R.leq rfl rfl) (by omega)) rfl ?_; clear hA a; intro a hA
      refine S.val hA (R.pickT rfl rfl) rfl ?_; clear hA a; intro a hA
      refine S.val hA (R.move rfl) rfl ?_; clear hA a; intro a hA
      refine S.valg (dj := 103) hA (by kernel_rfl) rfl (R.move rfl) rfl ?_; clear hA a; intro a hA
      refine S.valg (dj := 103) hA (by kernel_rfl) rfl (R.tt (R.geq rfl rfl) (by omega)) rfl ?_; clear hA a; intro a hA
      refine S.val hA (R.pickT rfl rfl) rfl ?_; clear hA a; intro a hA
      refine S.val hA (R.move rfl) rfl ?_; clear hA a; intro a hA
      refine S.valg (dj := 107) hA (by kernel_rfl) rfl (R.move rfl) rfl ?_; clear hA a; intro a hA
      refine S.valg (dj := 107) hA (by kernel_rfl) rfl (R.tt (R.leq rfl rfl) (by omega)) rfl ?_; clear hA a; intro a hA
      refine S.val hA (R.pickT rfl rfl) rfl ?_; clear hA a; intro a hA
      refine S.val hA (R.move rfl) rfl ?_; clear hA a; intro a hA
      refine S.valg (dj := 111) hA (by kernel_rfl) rfl (R.move rfl) rfl ?_; clear hA a; intro a hA
      refine S.valg (dj := 111) hA (by kernel_rfl) rfl (R.move rfl) rfl ?_; clear hA a; intro a hA
      refine S.valg (dj := 111) hA (by kernel_rfl) rfl (R.addI rfl rfl (r := 2 + sz) rfl (by omega)) rfl ?_; clear hA a; intro a hA
      refine S.valg (dj := 111) hA (by kernel_rfl) rfl (R.addI rfl rfl (r := (2 + sz) + 1) rfl (by omega)) rfl ?_; clear hA a; intro a hA
      refine S.valg (dj := 111) hA (by kernel_rfl) rfl (R.tt (R.geq rfl rfl) (by omega)) rfl ?_; clear hA a; intro a hA
      refine S.val hA (R.pickT rfl rfl) rfl ?_; clear hA a; intro a hA
      refine S.val hA (R.assign rfl) rfl ?_; clear hA a; intro a hA
      refine S.done ?_
      replace hA : St 179 [(0, _), (1, _), (6, _), (10, _), (11, _), (15, _)] a := hA.sub ((.cons rfl (.cons rfl (.cons rfl (.cons rfl (.cons rfl (.cons rfl .nil)))))))
      refine Ends.seq ?_
      refine Ends.seq ?_
      refine Ends.region ?_
      refine S.val hA (R.move rfl) rfl ?_; clear hA a; intro a hA
      refine S.val hA (R.not rfl) rfl ?_; clear hA a; intro a hA
      refine S.done ?_
      replace hA : St 179 [(0, _), (1, _), (6, _), (10, _), (11, _), (119, _)] a := hA.sub ((.cons rfl (.cons rfl (.cons rfl (.cons rfl (.cons rfl (.cons rfl .nil)))))))
      refine Ends.condF hA rfl ?_
      refine Ends.skip ?_
      refine Ends.seq ?_
      refine Ends.region ?_
      refine S.val hA (R.move rfl) rfl ?_; clear hA a; intro a hA
      refine S.val hA (R.tt (R.eql rfl rfl) (by first | decide | simp | omega)) rfl ?_; clear hA a; intro a hA
      refine S.val hA (R.move rfl) rfl ?_; clear hA a; intro a hA
      refine S.valg (dj := 143) hA (by kernel_rfl) rfl (R.move rfl) rfl ?_; clear hA a; intro a hA
      refine S.callg (dj := 143) hA (by kernel_rfl) rfl (R.callF Try.func49 rfl rfl rfl) rfl (pslots p8 m4 nb9 ob10 sz.toNat wk.toNat 2 _ (hM.block (k := 0) rfl)) ?_; clear hA a
      rintro e w18 ⟨rfl, rfl⟩
      refine ⟨.int .i64 ((sz.toNat : Int)), rfl, fun a hA => ?_⟩
      refine S.valg (dj := 143) hA (by kernel_rfl) rfl (R.move rfl) rfl ?_; clear hA a; intro a hA
      refine S.valg (dj := 143) hA (by kernel_rfl) rfl (R.tt (R.eql rfl rfl) (by omega)) rfl ?_; clear hA a; intro a hA
      refine S.val hA (R.pickT rfl rfl) rfl ?_; clear hA a; intro a hA
      refine S.val hA (R.move rfl) rfl ?_; clear hA a; intro a hA
      refine S.valg (dj := 149) hA (by kernel_rfl) rfl (R.move rfl) rfl ?_; clear hA a; intro a hA
      replace hM := hM.front (k := 3) rfl
      replace hM := hM.front (k := 1) rfl
      replace hM : Mem _ _ [pt p8 #[.pointer (some ⟨m4, 0, none⟩), .int .i64 2, .slice (some ⟨nb9, 0, none⟩) sz.toNat sz.toNat, .slice (some ⟨ob10, 0, none⟩) wk.toNat wk.toNat] 128, memO m4 c5 ((linkL ((List.replicate ((n1 : Int)).toNat 0)) 2 sz sz.toNat)) (0 + 1 + sz) op11, pt nb9 ((madeCells #[.slice none 0 0, .int .i64 0] (sz.toNat * 2))) 77, pt ob10 ((vals (nils wk.toNat))) 43] _ := hM
      refine S.callg (dj := 149) hA (by kernel_rfl) rfl (R.callF Try.func53 rfl rfl rfl) rfl (pshared_new p8 m4 c5 nb9 ob10 wk.toNat 2 sz ((List.replicate ((n1 : Int)).toNat 0)) (0 + 1 + sz) op11 hm4c5 (by first | omega | decide | (simp; done) | (simp; omega)) (by first | omega | decide | (simp; done) | (simp; omega)) (by first | omega | decide | (simp; done) | (simp; omega)) _ (hM.hereN 2)) ?_; clear hA a
      rintro e w19 ⟨a12, c13, rfl, hn⟩
      replace hM : Mem _ _ [pt p8 #[.pointer (some ⟨m4, 0, none⟩), .int .i64 2, .slice (some ⟨nb9, 0, none⟩) sz.toNat sz.toNat, .slice (some ⟨ob10, 0, none⟩) wk.toNat wk.toNat] 128, memO m4 c5 ((linkL ((List.replicate ((n1 : Int)).toNat 0)) 2 sz sz.toNat)) (0 + 1 + sz) op11, pt nb9 ((madeCells #[.slice none 0 0, .int .i64 0] (sz.toNat * 2))) 77, pt ob10 ((vals (nils wk.toNat))) 43] _ := hM.callL 2 hn; clear hn
      refine ⟨.slice a12 sz.toNat c13, rfl, fun a hA => ?_⟩
      refine S.valg (dj := 149) hA (by kernel_rfl) rfl (R.lenS Try.underlying43 rfl rfl) rfl ?_; clear hA a; intro a hA
      refine S.valg (dj := 149) hA (by kernel_rfl) rfl (R.move rfl) rfl ?_; clear hA a; intro a hA
      refine S.valg (dj := 149) hA (by kernel_rfl) rfl (R.tt (R.eql rfl rfl) (by omega)) rfl ?_; clear hA a; intro a hA
      refine S.val hA (R.pickT rfl rfl) rfl ?_; clear hA a; intro a hA
      refine S.val hA (R.move rfl) rfl ?_; clear hA a; intro a hA
      refine S.valg (dj := 156) hA (by kernel_rfl) rfl (R.move rfl) rfl ?_; clear hA a; intro a hA
      refine S.valg (dj := 156) hA (by kernel_rfl) rfl (R.move rfl) rfl ?_; clear hA a; intro a hA
      refine S.callg (dj := 156) hA (by kernel_rfl) rfl (R.callF Try.func50 rfl rfl rfl) rfl (ptake_high p8 m4 nb9 ob10 sz.toNat wk.toNat 2 wk (by first | omega | decide | (simp; done) | (simp; omega)) _ (hM.block (k := 0) rfl)) ?_; clear hA a
      rintro e w20 ⟨rfl, rfl⟩
      refine ⟨.pointer none, rfl, fun a hA => ?_⟩
      refine S.valg (dj := 156) hA (by kernel_rfl) rfl (R.eqlNil Try.underlying83 rfl rfl) rfl ?_; clear hA a; intro a hA
      refine S.val hA (R.pickT rfl rfl) rfl ?_; clear hA a; intro a hA
      refine S.val hA (R.move rfl) rfl ?_; clear hA a; intro a hA
      refine S.valg (dj := 162) hA (by kernel_rfl) rfl (R.move rfl) rfl ?_; clear hA a; intro a hA
      refine S.callg (dj := 162) hA (by kernel_rfl) rfl (R.callF Try.func50 rfl rfl rfl) rfl (ptake_low p8 m4 nb9 ob10 sz.toNat wk.toNat 2 (-1) (by first | omega | decide | (simp; done) | (simp; omega)) _ (hM.block (k := 0) rfl)) ?_; clear hA a
      rintro e w21 ⟨rfl, rfl⟩
      refine ⟨.pointer none, rfl, fun a hA => ?_⟩
      refine S.valg (dj := 162) hA (by kernel_rfl) rfl (R.eqlNil Try.underlying83 rfl rfl) rfl ?_; clear hA a; intro a hA
      refine S.val hA (R.pickT rfl rfl) rfl ?_; clear hA a; intro a hA
      refine S.val hA (R.move rfl) rfl ?_; clear hA a; intro a hA
      refine S.valg (dj := 167) hA (by kernel_rfl) rfl (R.move rfl) rfl ?_; clear hA a; intro a hA
      refine S.valg (dj := 167) hA (by kernel_rfl) rfl (R.move rfl) rfl ?_; clear hA a; intro a hA
      refine S.callg (dj := 167) hA (by kernel_rfl) rfl (R.callF Try.func51 rfl rfl rfl) rfl (pgive_slot p8 m4 nb9 ob10 sz.toNat wk.toNat 2 0 sz (by first | omega | decide | (simp; done) | (simp; omega)) _ (hM.block (k := 0) rfl)) ?_; clear hA a
      rintro e w22 ⟨rfl, rfl⟩
      refine ⟨.pointer none, rfl, fun a hA => ?_⟩
      refine S.valg (dj := 167) hA (by kernel_rfl) rfl (R.eqlNil Try.underlying83 rfl rfl) rfl ?_; clear hA a; intro a hA
      refine S.val hA (R.pickT rfl rfl) rfl ?_; clear hA a; intro a hA
      refine S.val hA (R.move rfl) rfl ?_; clear hA a; intro a hA
      refine S.valg (dj := 173) hA (by kernel_rfl) rfl (R.move rfl) rfl ?_; clear hA a; intro a hA
      refine S.valg (dj := 173) hA (by kernel_rfl) rfl (R.move rfl) rfl ?_; clear hA a; intro a hA
      refine S.callg (dj := 173) hA (by kernel_rfl) rfl (R.callF Try.func51 rfl rfl rfl) rfl (pgive_high p8 m4 nb9 ob10 sz.toNat wk.toNat 2 wk 0 (by first | omega | decide | (simp; done) | (simp; omega)) (by first | omega | decide | (simp; done) | (simp; omega)) _ (hM.block (k := 0) rfl)) ?_; clear hA a
      rintro e w23 ⟨rfl, rfl⟩
      refine ⟨.pointer none, rfl, fun a hA => ?_⟩
      refine S.valg (dj := 173) hA (by kernel_rfl) rfl (R.eqlNil Try.underlying83 rfl rfl) rfl ?_; clear hA a; intro a hA
      refine S.val hA (R.pickT rfl rfl) rfl ?_; clear hA a; intro a hA
      refine S.val hA (R.assign rfl) rfl ?_; clear hA a; intro a hA
      refine S.done ?_
      replace hA : St 179 [(6, _)] a := hA.sub ((.cons rfl .nil))
      refine Ends.ret1 Try.func10 Try.results10 hA rfl ?_
      exact ⟨rfl, hM.nilL.below⟩
    ·
      refine Ends.region ?_
      refine S.val hA (R.move rfl) rfl ?_; clear hA a; intro a hA
      refine S.val hA (R.move rfl) rfl ?_; clear hA a; intro a hA
      refine S.val hA (R.move rfl) rfl ?_; clear hA a; intro a hA
      refine S.call hA (R.callF Try.func47 rfl rfl rfl) rfl (pnew_badr m4 c5 ((List.replicate ((n1 : Int)).toNat 0)) 0 ⟨0, 0, 0, 0, false⟩ hm4c5 2 sz wk (by first | omega | decide | (simp; done) | (simp; omega)) hs6 (by rw [List.length_replicate]; omega) _ (hM.hereN 1)) ?_; clear hA a
      rintro e w24 ⟨rfl, hn⟩
      replace hM : Mem _ _ [memO m4 c5 ((List.replicate ((n1 : Int)).toNat 0)) 0 ⟨0, 0, 0, 0, false⟩] _ := hM.callL 1 hn; clear hn
      refine ⟨.tuple #[.pointer none, .int .i64 1], rfl, fun a hA => ?_⟩
      refine S.val hA (R.move rfl) rfl ?_; clear hA a; intro a hA
      refine S.val hA (R.extract (v := .pointer none) rfl rfl) rfl ?_; clear hA a; intro a hA
      refine S.val hA (R.extract (v := .int .i64 1) rfl rfl) rfl ?_; clear hA a; intro a hA
      refine S.val hA (R.assign rfl) rfl ?_; clear hA a; intro a hA
      refine S.val hA (R.assign rfl) rfl ?_; clear hA a; intro a hA
      refine S.done ?_
      replace hA : St 179 [(0, _), (1, _), (6, _), (7, _), (9, _), (10, _), (11, _)] a := hA.sub ((.cons rfl (.cons rfl (.cons rfl (.cons rfl (.cons rfl (.cons rfl (.cons rfl .nil))))))))
      refine Ends.seq ?_
      refine Ends.region ?_
      refine S.call hA (R.callF Try.func47 rfl rfl rfl) rfl (pnew_nil 0 1 1 (by first | omega | decide | (simp; done) | (simp; omega)) _) ?_; clear hA a
      rintro e w25 ⟨rfl, rfl⟩
      refine ⟨.tuple #[.pointer none, .int .i64 1], rfl, fun a hA => ?_⟩
      refine S.val hA (R.move rfl) rfl ?_; clear hA a; intro a hA
      refine S.val hA (R.extract (v := .pointer none) rfl rfl) rfl ?_; clear hA a; intro a hA
      refine S.val hA (R.extract (v := .int .i64 1) rfl rfl) rfl ?_; clear hA a; intro a hA
      refine S.val hA (R.assign rfl) rfl ?_; clear hA a; intro a hA
      refine S.val hA (R.assign rfl) rfl ?_; clear hA a; intro a hA
      refine S.done ?_
      replace hA : St 179 [(0, _), (1, _), (6, _), (7, _), (9, _), (10, _), (11, _), (13, _)] a := hA.sub ((.cons rfl (.cons rfl (.cons rfl (.cons rfl (.cons rfl (.cons rfl (.cons rfl (.cons rfl .nil)))))))))
      refine Ends.seq ?_
      refine Ends.region ?_
      refine S.val hA (R.assign rfl) rfl ?_; clear hA a; intro a hA
      refine S.done ?_
      replace hA : St 179 [(0, _), (1, _), (6, _), (7, _), (9, _), (10, _), (11, _), (13, _), (14, _)] a := hA.sub ((.cons rfl (.cons rfl (.cons rfl (.cons rfl (.cons rfl (.cons rfl (.cons rfl (.cons rfl (.cons rfl .nil))))))))))
      refine Ends.seq ?_
      refine Ends.seq ?_
      refine Ends.region ?_
      refine S.call hA (R.callF Try.func43 rfl rfl rfl) rfl (ppools_any _) ?_; clear hA a
      rintro e w26 ⟨rfl, hb⟩
      replace hM := hM.callB hb; clear hb
      refine ⟨.bool true, rfl, fun a hA => ?_⟩
      refine S.val hA (R.not rfl) rfl ?_; clear hA a; intro a hA
      refine S.val hA (R.move rfl) rfl ?_; clear hA a; intro a hA
      refine S.valg (dj := 47) hA (by kernel_rfl) rfl (R.move rfl) rfl ?_; clear hA a; intro a hA
      refine S.valg (dj := 47) hA (by kernel_rfl) rfl (R.ff (R.neq rfl rfl) (by first | decide | simp | omega)) rfl ?_; clear hA a; intro a hA
      refine S.val hA (R.pickF rfl rfl) rfl ?_; clear hA a; intro a hA
      refine S.val hA (R.move rfl) rfl ?_; clear hA a; intro a hA
      refine S.valg (dj := 51) hA (by kernel_rfl) rfl (R.move rfl) rfl ?_; clear hA a; intro a hA
      refine S.valg (dj := 51) hA (by kernel_rfl) rfl (R.ff (R.neq rfl rfl) (by first | decide | simp | omega)) rfl ?_; clear hA a; intro a hA
      refine S.val hA (R.pickF rfl rfl) rfl ?_; clear hA a; intro a hA
      refine S.val hA (R.move rfl) rfl ?_; clear hA a; intro a hA
      refine S.callg (dj := 55) hA (by kernel_rfl) rfl (R.callF Try.func48 rfl rfl rfl) rfl (pnone_any _) ?_; clear hA a
      rintro e w27 ⟨rfl, rfl⟩
      refine ⟨.pointer none, rfl, fun a hA => ?_⟩
      refine S.callg (dj := 55) hA (by kernel_rfl) rfl (R.callF Try.func49 rfl rfl rfl) rfl (pslots_nil _) ?_; clear hA a
      rintro e w28 ⟨rfl, rfl⟩
      refine ⟨.int .i64 0, rfl, fun a hA => ?_⟩
      refine S.valg (dj := 55) hA (by kernel_rfl) rfl (R.ff (R.neq rfl rfl) (by first | decide | simp | omega)) rfl ?_; clear hA a; intro a hA
      refine S.val hA (R.pickF rfl rfl) rfl ?_; clear hA a; intro a hA
      refine S.val hA (R.move rfl) rfl ?_; clear hA a; intro a hA
      refine S.callg (dj := 60) hA (by kernel_rfl) rfl (R.callF Try.func48 rfl rfl rfl) rfl (pnone_any _) ?_; clear hA a
      rintro e w29 ⟨rfl, rfl⟩
      refine ⟨.pointer none, rfl, fun a hA => ?_⟩
      refine S.callg (dj := 60) hA (by kernel_rfl) rfl (R.callF Try.func50 rfl rfl rfl) rfl (ptake_nil 0 _) ?_; clear hA a
      rintro e w30 ⟨rfl, rfl⟩
      refine ⟨.pointer none, rfl, fun a hA => ?_⟩
      refine S.valg (dj := 60) hA (by kernel_rfl) rfl (R.neqNil Try.underlying83 rfl rfl) rfl ?_; clear hA a; intro a hA
      refine S.val hA (R.pickF rfl rfl) rfl ?_; clear hA a; intro a hA
      refine S.val hA (R.move rfl) rfl ?_; clear hA a; intro a hA
      refine S.callg (dj := 65) hA (by kernel_rfl) rfl (R.callF Try.func48 rfl rfl rfl) rfl (pnone_any _) ?_; clear hA a
      rintro e w31 ⟨rfl, rfl⟩
      refine ⟨.pointer none, rfl, fun a hA => ?_⟩
      refine S.callg (dj := 65) hA (by kernel_rfl) rfl (R.callF Try.func51 rfl rfl rfl) rfl (pgive_nil 0 0 _) ?_; clear hA a
      rintro e w32 ⟨rfl, rfl⟩
      refine ⟨.pointer none, rfl, fun a hA => ?_⟩
      refine S.valg (dj := 65) hA (by kernel_rfl) rfl (R.neqNil Try.underlying83 rfl rfl) rfl ?_; clear hA a; intro a hA
      refine S.val hA (R.pickF rfl rfl) rfl ?_; clear hA a; intro a hA
      refine S.val hA (R.move rfl) rfl ?_; clear hA a; intro a hA
      refine S.callg (dj := 70) hA (by kernel_rfl) rfl (R.callF Try.func48 rfl rfl rfl) rfl (pnone_any _) ?_; clear hA a
      rintro e w33 ⟨rfl, rfl⟩
      refine ⟨.pointer none, rfl, fun a hA => ?_⟩
      refine S.callg (dj := 70) hA (by kernel_rfl) rfl (R.callF Try.func52 rfl rfl rfl) rfl (pown_nil 0 _) ?_; clear hA a
      rintro e w34 ⟨rfl, rfl⟩
      refine ⟨.slice none 0 0, rfl, fun a hA => ?_⟩
      refine S.valg (dj := 70) hA (by kernel_rfl) rfl (R.lenS Try.underlying43 rfl rfl) rfl ?_; clear hA a; intro a hA
      refine S.valg (dj := 70) hA (by kernel_rfl) rfl (R.ff (R.neq rfl rfl) (by first | decide | simp | omega)) rfl ?_; clear hA a; intro a hA
      refine S.val hA (R.pickF rfl rfl) rfl ?_; clear hA a; intro a hA
      refine S.val hA (R.move rfl) rfl ?_; clear hA a; intro a hA
      refine S.callg (dj := 76) hA (by kernel_rfl) rfl (R.callF Try.func48 rfl rfl rfl) rfl (pnone_any _) ?_; clear hA a
      rintro e w35 ⟨rfl, rfl⟩
      refine ⟨.pointer none, rfl, fun a hA => ?_⟩
      refine S.callg (dj := 76) hA (by kernel_rfl) rfl (R.callF Try.func53 rfl rfl rfl) rfl (pshared_nil _) ?_; clear hA a
      rintro e w36 ⟨rfl, rfl⟩
      refine ⟨.slice none 0 0, rfl, fun a hA => ?_⟩
      refine S.valg (dj := 76) hA (by kernel_rfl) rfl (R.lenS Try.underlying43 rfl rfl) rfl ?_; clear hA a; intro a hA
      refine S.valg (dj := 76) hA (by kernel_rfl) rfl (R.ff (R.neq rfl rfl) (by first | decide | simp | omega)) rfl ?_; clear hA a; intro a hA
      refine S.val hA (R.pickF rfl rfl) rfl ?_; clear hA a; intro a hA
      refine S.val hA (R.move rfl) rfl ?_; clear hA a; intro a hA
      refine S.valg (dj := 82) hA (by kernel_rfl) rfl (R.move rfl) rfl ?_; clear hA a; intro a hA
      refine S.callg (dj := 82) hA (by kernel_rfl) rfl (R.callF Try.func54 rfl rfl rfl) rfl (pover_nil _) ?_; clear hA a
      rintro e w37 ⟨rfl, rfl⟩
      refine ⟨.bool true, rfl, fun a hA => ?_⟩
      refine S.valg (dj := 82) hA (by kernel_rfl) rfl (R.not rfl) rfl ?_; clear hA a; intro a hA
      refine S.val hA (R.pickF rfl rfl) rfl ?_; clear hA a; intro a hA
      refine S.val hA (R.move rfl) rfl ?_; clear hA a; intro a hA
      refine S.valg (dj := 87) hA (by kernel_rfl) rfl (R.move rfl) rfl ?_; clear hA a; intro a hA
      refine S.callg (dj := 87) hA (by kernel_rfl) rfl (R.callF Try.func55 rfl rfl rfl) rfl (pstep_nil _) ?_; clear hA a
      rintro e w38 ⟨rfl, rfl⟩
      refine ⟨.bool true, rfl, fun a hA => ?_⟩
      refine S.valg (dj := 87) hA (by kernel_rfl) rfl (R.not rfl) rfl ?_; clear hA a; intro a hA
      refine S.val hA (R.pickF rfl rfl) rfl ?_; clear hA a; intro a hA
      refine S.val hA (R.move rfl) rfl ?_; clear hA a; intro a hA
      refine S.valg (dj := 92) hA (by kernel_rfl) rfl (R.move rfl) rfl ?_; clear hA a; intro a hA
      refine S.callg (dj := 92) hA (by kernel_rfl) rfl (R.callF Try.func56 rfl rfl rfl) rfl (pslot_nil _) ?_; clear hA a
      rintro e w39 ⟨rfl, rfl⟩
      refine ⟨.int .i64 (-1), rfl, fun a hA => ?_⟩
      refine S.valg (dj := 92) hA (by kernel_rfl) rfl (R.ff (R.neq rfl rfl) (by first | decide | simp | omega)) rfl ?_; clear hA a; intro a hA
      refine S.val hA (R.pickF rfl rfl) rfl ?_; clear hA a; intro a hA
      refine S.done ?_
      replace hA : St 179 [(0, _), (1, _), (6, _), (7, _), (10, _), (11, _), (96, _)] a := hA.sub ((.cons rfl (.cons rfl (.cons rfl (.cons rfl (.cons rfl (.cons rfl (.cons rfl .nil))))))))
      refine Ends.condF hA rfl ?_
      refine Ends.skip ?_
      refine Ends.seq ?_
      refine Ends.cut (fun (a : Act) (wv : World) => St 179 [(0, .int .i64 sz), (1, .int .i64 wk), (6, .bool false), (10, .pointer none), (11, .int .i64 1), (15, .bool (decide (((((1 ≤ sz ∧ sz ≤ 4096) ∧ 1 ≤ wk) ∧ wk ≤ 16) ∧ ((2 + sz) + 1) ≤ ((n1 : Int))))))] a ∧ Mem w nof [memO m4 c5 ((List.replicate ((n1 : Int)).toNat 0)) 0 ⟨0, 0, 0, 0, false⟩] wv) ?_ (fun k2 hJ => ?_)
      · clear hA hM a; rintro a w40 ⟨hA, hM⟩
        refine Ends.seq ?_
        refine Ends.seq ?_
        refine Ends.region ?_
        refine S.val hA (R.move rfl) rfl ?_; clear hA a; intro a hA
        refine S.val hA (R.notD rfl) rfl ?_; clear hA a; intro a hA
        refine S.done ?_
        replace hA : St 179 [(0, _), (1, _), (6, _), (10, _), (11, _), (119, _)] a := hA.sub ((.cons rfl (.cons rfl (.cons rfl (.cons rfl (.cons rfl (.cons rfl .nil)))))))
        refine Ends.ite hA rfl (fun hc14 => ?_) (fun hc14 => ?_)
        ·
          refine Ends.seq ?_
          refine Ends.region ?_
          refine S.val hA (R.move rfl) rfl ?_; clear hA a; intro a hA
          refine S.val hA (R.eqlNil Try.underlying72 rfl rfl) rfl ?_; clear hA a; intro a hA
          refine S.val hA (R.move rfl) rfl ?_; clear hA a; intro a hA
          refine S.valg (dj := 122) hA (by kernel_rfl) rfl (R.move rfl) rfl ?_; clear hA a; intro a hA
          refine S.valg (dj := 122) hA (by kernel_rfl) rfl (R.tt (R.eql rfl rfl) (by first | decide | simp | omega)) rfl ?_; clear hA a; intro a hA
          refine S.val hA (R.pickT rfl rfl) rfl ?_; clear hA a; intro a hA
          refine S.val hA (R.move rfl) rfl ?_; clear hA a; intro a hA
          refine S.valg (dj := 126) hA (by kernel_rfl) rfl (R.move rfl) rfl ?_; clear hA a; intro a hA
          refine S.callg (dj := 126) hA (by kernel_rfl) rfl (R.callF Try.func57 rfl rfl rfl) rfl (pcells_ok sz hs6 _) ?_; clear hA a
          rintro e w41 ⟨rfl, rfl⟩
          refine ⟨.int .i64 (sz + 1), rfl, fun a hA => ?_⟩
          refine S.valg (dj := 126) hA (by kernel_rfl) rfl (R.move rfl) rfl ?_; clear hA a; intro a hA
          refine S.valg (dj := 126) hA (by kernel_rfl) rfl (R.add rfl rfl) rfl ?_; clear hA a; intro a hA
          refine S.valg (dj := 126) hA (by kernel_rfl) rfl (R.tt (R.eql rfl rfl) ((by first | omega | (rw [IntKind.wrap_i64]; omega)))) rfl ?_; clear hA a; intro a hA
          refine S.valg (dj := 126) hA (by kernel_rfl) rfl (R.move rfl) rfl ?_; clear hA a; intro a hA
          refine S.no (dj := 132) hA (by kernel_rfl) rfl rfl rfl ?_; clear hA a; intro a hA
          refine S.no (dj := 132) hA (by kernel_rfl) rfl rfl rfl ?_; clear hA a; intro a hA
          refine S.valg (dj := 126) hA (by kernel_rfl) rfl (R.pickT rfl rfl) rfl ?_; clear hA a; intro a hA
          refine S.valg (dj := 126) hA (by kernel_rfl) rfl (R.move rfl) rfl ?_; clear hA a; intro a hA
          refine S.no (dj := 136) hA (by kernel_rfl) rfl rfl rfl ?_; clear hA a; intro a hA
          refine S.no (dj := 136) hA (by kernel_rfl) rfl rfl rfl ?_; clear hA a; intro a hA
          refine S.valg (dj := 126) hA (by kernel_rfl) rfl (R.pickT rfl rfl) rfl ?_; clear hA a; intro a hA
          refine S.val hA (R.pickT rfl rfl) rfl ?_; clear hA a; intro a hA
          refine S.val hA (R.assign rfl) rfl ?_; clear hA a; intro a hA
          refine S.done ?_
          replace hA : St 179 [(0, _), (1, _), (6, _), (10, _), (11, _)] a := hA.sub ((.cons rfl (.cons rfl (.cons rfl (.cons rfl (.cons rfl .nil))))))
          refine Ends.ret1 Try.func10 Try.results10 hA rfl ?_
          exact ⟨rfl, hM.nilL.below⟩
        · exfalso; omega
      ·
        refine Ends.region ?_
        refine S.val hA (R.move rfl) rfl ?_; clear hA a; intro a hA
        refine S.val hA (R.geq rfl rfl) rfl ?_; clear hA a; intro a hA
        refine S.val hA (R.move rfl) rfl ?_; clear hA a; intro a hA
        refine hA.split (d := 99) rfl ?_ ?_
        · clear hA; intro hg15 hA
          refine S.valg (dj := 99) hA (by kernel_rfl) rfl (R.move rfl) rfl ?_; clear hA a; intro a hA
          refine S.valg (dj := 99) hA (by kernel_rfl) rfl (R.leq rfl rfl) rfl ?_; clear hA a; intro a hA
          refine S.val hA (R.pickT rfl rfl) rfl ?_; clear hA a; intro a hA
          refine S.val hA (R.move rfl) rfl ?_; clear hA a; intro a hA
          refine hA.split (d := 103) rfl ?_ ?_
          · clear hA; intro hg16 hA
            refine S.valg (dj := 103) hA (by kernel_rfl) rfl (R.move rfl) rfl ?_; clear hA a; intro a hA
            refine S.valg (dj := 103) hA (by kernel_rfl) rfl (R.geq rfl rfl) rfl ?_; clear hA a; intro a hA
            refine S.val hA (R.pickT rfl rfl) rfl ?_; clear hA a; intro a hA
            refine S.val hA (R.move rfl) rfl ?_; clear hA a; intro a hA
            refine hA.split (d := 107) rfl ?_ ?_
            · clear hA; intro hg17 hA
              refine S.valg (dj := 107) hA (by kernel_rfl) rfl (R.move rfl) rfl ?_; clear hA a; intro a hA
              refine S.valg (dj := 107) hA (by kernel_rfl) rfl (R.leq rfl rfl) rfl ?_; clear hA a; intro a hA
              refine S.val hA (R.pickT rfl rfl) rfl ?_; clear hA a; intro a hA
              refine S.val hA (R.move rfl) rfl ?_; clear hA a; intro a hA
              refine hA.split (d := 111) rfl ?_ ?_
              · clear hA; intro hg18 hA
                refine S.valg (dj := 111) hA (by kernel_rfl) rfl (R.move rfl) rfl ?_; clear hA a; intro a hA
                refine S.valg (dj := 111) hA (by kernel_rfl) rfl (R.move rfl) rfl ?_; clear hA a; intro a hA
                refine S.valg (dj := 111) hA (by kernel_rfl) rfl (R.addI rfl rfl (r := 2 + sz) rfl (by omega)) rfl ?_; clear hA a; intro a hA
                refine S.valg (dj := 111) hA (by kernel_rfl) rfl (R.addI rfl rfl (r := (2 + sz) + 1) rfl (by omega)) rfl ?_; clear hA a; intro a hA
                refine S.valg (dj := 111) hA (by kernel_rfl) rfl (R.geq rfl rfl) rfl ?_; clear hA a; intro a hA
                refine S.val hA (R.pickT rfl rfl) rfl ?_; clear hA a; intro a hA
                refine S.val hA (R.assign rfl) rfl ?_; clear hA a; intro a hA
                refine S.done ?_
                replace hA : St 179 [(0, _), (1, _), (6, _), (10, _), (11, _), (15, _)] a := hA.sub ((.cons rfl (.cons rfl (.cons rfl (.cons rfl (.cons rfl (.cons rfl .nil)))))))
                exact hJ _ _ ⟨hA.sub (.cons rfl (.cons rfl (.cons rfl (.cons rfl (.cons rfl (.cons (by first | rfl | exact congrArg (fun b => some (Value.bool b)) (by first | (simp; done) | simp [hg15, hg16, hg17, hg18])) .nil)))))), hM⟩
              · clear hA; intro hg18 hA
                refine S.no (dj := 111) hA (by kernel_rfl) rfl rfl rfl ?_; clear hA a; intro a hA
                refine S.no (dj := 111) hA (by kernel_rfl) rfl rfl rfl ?_; clear hA a; intro a hA
                refine S.no (dj := 111) hA (by kernel_rfl) rfl rfl rfl ?_; clear hA a; intro a hA
                refine S.no (dj := 111) hA (by kernel_rfl) rfl rfl rfl ?_; clear hA a; intro a hA
                refine S.no (dj := 111) hA (by kernel_rfl) rfl rfl rfl ?_; clear hA a; intro a hA
                refine S.val hA (R.pickF rfl rfl) rfl ?_; clear hA a; intro a hA
                refine S.val hA (R.assign rfl) rfl ?_; clear hA a; intro a hA
                refine S.done ?_
                replace hA : St 179 [(0, _), (1, _), (6, _), (10, _), (11, _), (15, _)] a := hA.sub ((.cons rfl (.cons rfl (.cons rfl (.cons rfl (.cons rfl (.cons rfl .nil)))))))
                exact hJ _ _ ⟨hA.sub (.cons rfl (.cons rfl (.cons rfl (.cons rfl (.cons rfl (.cons (by first | rfl | exact congrArg (fun b => some (Value.bool b)) (by first | (simp; done) | simp [hg15, hg16, hg17, hg18])) .nil)))))), hM⟩
            · clear hA; intro hg17 hA
              refine S.no (dj := 107) hA (by kernel_rfl) rfl rfl rfl ?_; clear hA a; intro a hA
              refine S.no (dj := 107) hA (by kernel_rfl) rfl rfl rfl ?_; clear hA a; intro a hA
              refine S.val hA (R.pickF rfl rfl) rfl ?_; clear hA a; intro a hA
              refine S.val hA (R.move rfl) rfl ?_; clear hA a; intro a hA
              refine S.no (dj := 111) hA (by kernel_rfl) rfl rfl rfl ?_; clear hA a; intro a hA
              refine S.no (dj := 111) hA (by kernel_rfl) rfl rfl rfl ?_; clear hA a; intro a hA
              refine S.no (dj := 111) hA (by kernel_rfl) rfl rfl rfl ?_; clear hA a; intro a hA
              refine S.no (dj := 111) hA (by kernel_rfl) rfl rfl rfl ?_; clear hA a; intro a hA
              refine S.no (dj := 111) hA (by kernel_rfl) rfl rfl rfl ?_; clear hA a; intro a hA
              refine S.val hA (R.pickF rfl rfl) rfl ?_; clear hA a; intro a hA
              refine S.val hA (R.assign rfl) rfl ?_; clear hA a; intro a hA
              refine S.done ?_
              replace hA : St 179 [(0, _), (1, _), (6, _), (10, _), (11, _), (15, _)] a := hA.sub ((.cons rfl (.cons rfl (.cons rfl (.cons rfl (.cons rfl (.cons rfl .nil)))))))
              exact hJ _ _ ⟨hA.sub (.cons rfl (.cons rfl (.cons rfl (.cons rfl (.cons rfl (.cons (by first | rfl | exact congrArg (fun b => some (Value.bool b)) (by first | (simp; done) | simp [hg15, hg16, hg17])) .nil)))))), hM⟩
          · clear hA; intro hg16 hA
            refine S.no (dj := 103) hA (by kernel_rfl) rfl rfl rfl ?_; clear hA a; intro a hA
            refine S.no (dj := 103) hA (by kernel_rfl) rfl rfl rfl ?_; clear hA a; intro a hA
            refine S.val hA (R.pickF rfl rfl) rfl ?_; clear hA a; intro a hA
            refine S.val hA (R.move rfl) rfl ?_; clear hA a; intro a hA
            refine S.no (dj := 107) hA (by kernel_rfl) rfl rfl rfl ?_; clear hA a; intro a hA
            refine S.no (dj := 107) hA (by kernel_rfl) rfl rfl rfl ?_; clear hA a; intro a hA
            refine S.val hA (R.pickF rfl rfl) rfl ?_; clear hA a; intro a hA
            refine S.val hA (R.move rfl) rfl ?_; clear hA a; intro a hA
            refine S.no (dj := 111) hA (by kernel_rfl) rfl rfl rfl ?_; clear hA a; intro a hA
            refine S.no (dj := 111) hA (by kernel_rfl) rfl rfl rfl ?_; clear hA a; intro a hA
            refine S.no (dj := 111) hA (by kernel_rfl) rfl rfl rfl ?_; clear hA a; intro a hA
            refine S.no (dj := 111) hA (by kernel_rfl) rfl rfl rfl ?_; clear hA a; intro a hA
            refine S.no (dj := 111) hA (by kernel_rfl) rfl rfl rfl ?_; clear hA a; intro a hA
            refine S.val hA (R.pickF rfl rfl) rfl ?_; clear hA a; intro a hA
            refine S.val hA (R.assign rfl) rfl ?_; clear hA a; intro a hA
            refine S.done ?_
            replace hA : St 179 [(0, _), (1, _), (6, _), (10, _), (11, _), (15, _)] a := hA.sub ((.cons rfl (.cons rfl (.cons rfl (.cons rfl (.cons rfl (.cons rfl .nil)))))))
            exact hJ _ _ ⟨hA.sub (.cons rfl (.cons rfl (.cons rfl (.cons rfl (.cons rfl (.cons (by first | rfl | exact congrArg (fun b => some (Value.bool b)) (by first | (simp; done) | simp [hg15, hg16])) .nil)))))), hM⟩
        · clear hA; intro hg15 hA
          refine S.no (dj := 99) hA (by kernel_rfl) rfl rfl rfl ?_; clear hA a; intro a hA
          refine S.no (dj := 99) hA (by kernel_rfl) rfl rfl rfl ?_; clear hA a; intro a hA
          refine S.val hA (R.pickF rfl rfl) rfl ?_; clear hA a; intro a hA
          refine S.val hA (R.move rfl) rfl ?_; clear hA a; intro a hA
          refine S.no (dj := 103) hA (by kernel_rfl) rfl rfl rfl ?_; clear hA a; intro a hA
          refine S.no (dj := 103) hA (by kernel_rfl) rfl rfl rfl ?_; clear hA a; intro a hA
          refine S.val hA (R.pickF rfl rfl) rfl ?_; clear hA a; intro a hA
          refine S.val hA (R.move rfl) rfl ?_; clear hA a; intro a hA
          refine S.no (dj := 107) hA (by kernel_rfl) rfl rfl rfl ?_; clear hA a; intro a hA
          refine S.no (dj := 107) hA (by kernel_rfl) rfl rfl rfl ?_; clear hA a; intro a hA
          refine S.val hA (R.pickF rfl rfl) rfl ?_; clear hA a; intro a hA
          refine S.val hA (R.move rfl) rfl ?_; clear hA a; intro a hA
          refine S.no (dj := 111) hA (by kernel_rfl) rfl rfl rfl ?_; clear hA a; intro a hA
          refine S.no (dj := 111) hA (by kernel_rfl) rfl rfl rfl ?_; clear hA a; intro a hA
          refine S.no (dj := 111) hA (by kernel_rfl) rfl rfl rfl ?_; clear hA a; intro a hA
          refine S.no (dj := 111) hA (by kernel_rfl) rfl rfl rfl ?_; clear hA a; intro a hA
          refine S.no (dj := 111) hA (by kernel_rfl) rfl rfl rfl ?_; clear hA a; intro a hA
          refine S.val hA (R.pickF rfl rfl) rfl ?_; clear hA a; intro a hA
          refine S.val hA (R.assign rfl) rfl ?_; clear hA a; intro a hA
          refine S.done ?_
          replace hA : St 179 [(0, _), (1, _), (6, _), (10, _), (11, _), (15, _)] a := hA.sub ((.cons rfl (.cons rfl (.cons rfl (.cons rfl (.cons rfl (.cons rfl .nil)))))))
          exact hJ _ _ ⟨hA.sub (.cons rfl (.cons rfl (.cons rfl (.cons rfl (.cons rfl (.cons (by first | rfl | exact congrArg (fun b => some (Value.bool b)) (by first | (simp; done) | simp [hg15])) .nil)))))), hM⟩
  ·
    by_cases hs19 : 1 ≤ sz ∧ sz ≤ 4096 ∧ 1 ≤ wk ∧ wk ≤ 16 ∧ 2 + sz + 1 ≤ (n1 : Int)
    ·
      refine Ends.region ?_
      refine S.val hA (R.move rfl) rfl ?_; clear hA a; intro a hA
      refine S.val hA (R.move rfl) rfl ?_; clear hA a; intro a hA
      refine S.val hA (R.move rfl) rfl ?_; clear hA a; intro a hA
      refine S.call hA (R.callF Try.func47 rfl rfl rfl) rfl (pnew_ok m4 c5 ((List.replicate ((n1 : Int)).toNat 0)) 0 ⟨0, 0, 0, 0, false⟩ hm4c5 2 sz wk (by first | omega | decide | (simp; done) | (simp; omega)) (by first | omega | decide | (simp; done) | (simp; omega)) (by first | omega | decide | (simp; done) | (simp; omega)) (by first | omega | decide | (simp; done) | (simp; omega)) (by first | omega | decide | (simp; done) | (simp; omega)) _ (hM.hereN 1)) ?_; clear hA a
      rintro e w42 ⟨p20, nb21, ob22, op23, rfl, hn⟩
      replace hM : Mem _ _ [pt p20 #[.pointer (some ⟨m4, 0, none⟩), .int .i64 2, .slice (some ⟨nb21, 0, none⟩) sz.toNat sz.toNat, .slice (some ⟨ob22, 0, none⟩) wk.toNat wk.toNat] 128, pt nb21 ((madeCells #[.slice none 0 0, .int .i64 0] (sz.toNat * 2))) 77, pt ob22 ((vals (nils wk.toNat))) 43, memO m4 c5 ((linkL ((List.replicate ((n1 : Int)).toNat 0)) 2 sz sz.toNat)) (0 + 1 + sz) op23] _ := hM.callL 1 hn; clear hn
      refine ⟨.tuple #[.pointer (some ⟨p20, 0, none⟩), .int .i64 0], rfl, fun a hA => ?_⟩
      refine S.val hA (R.move rfl) rfl ?_; clear hA a; intro a hA
      refine S.val hA (R.extract (v := .pointer (some ⟨p20, 0, none⟩)) rfl rfl) rfl ?_; clear hA a; intro a hA
      refine S.val hA (R.extract (v := .int .i64 0) rfl rfl) rfl ?_; clear hA a; intro a hA
      refine S.val hA (R.assign rfl) rfl ?_; clear hA a; intro a hA
      refine S.val hA (R.assign rfl) rfl ?_; clear hA a; intro a hA
      refine S.done ?_
      replace hA : St 179 [(0, _), (1, _), (6, _), (7, _), (9, _), (10, _), (11, _)] a := hA.sub ((.cons rfl (.cons rfl (.cons rfl (.cons rfl (.cons rfl (.cons rfl (.cons rfl .nil))))))))
      refine Ends.seq ?_
      refine Ends.region ?_
      refine S.call hA (R.callF Try.func47 rfl rfl rfl) rfl (pnew_nil 0 1 1 (by first | omega | decide | (simp; done) | (simp; omega)) _) ?_; clear hA a
      rintro e w43 ⟨rfl, rfl⟩
      refine ⟨.tuple #[.pointer none, .int .i64 1], rfl, fun a hA => ?_⟩
      refine S.val hA (R.move rfl) rfl ?_; clear hA a; intro a hA
      refine S.val hA (R.extract (v := .pointer none) rfl rfl) rfl ?_; clear hA a; intro a hA
      refine S.val hA (R.extract (v := .int .i64 1) rfl rfl) rfl ?_; clear hA a; intro a hA
      refine S.val hA (R.assign rfl) rfl ?_; clear hA a; intro a hA
      refine S.val hA (R.assign rfl) rfl ?_; clear hA a; intro a hA
      refine S.done ?_
      replace hA : St 179 [(0, _), (1, _), (6, _), (7, _), (9, _), (10, _), (11, _), (13, _)] a := hA.sub ((.cons rfl (.cons rfl (.cons rfl (.cons rfl (.cons rfl (.cons rfl (.cons rfl (.cons rfl .nil)))))))))
      refine Ends.seq ?_
      refine Ends.region ?_
      refine S.val hA (R.assign rfl) rfl ?_; clear hA a; intro a hA
      refine S.done ?_
      replace hA : St 179 [(0, _), (1, _), (6, _), (7, _), (9, _), (10, _), (11, _), (13, _), (14, _)] a := hA.sub ((.cons rfl (.cons rfl (.cons rfl (.cons rfl (.cons rfl (.cons rfl (.cons rfl (.cons rfl (.cons rfl .nil))))))))))
      refine Ends.seq ?_
      refine Ends.seq ?_
      refine Ends.region ?_
      refine S.call hA (R.callF Try.func43 rfl rfl rfl) rfl (ppools_any _) ?_; clear hA a
      rintro e w44 ⟨rfl, hb⟩
      replace hM := hM.callB hb; clear hb
      refine ⟨.bool true, rfl, fun a hA => ?_⟩
      refine S.val hA (R.not rfl) rfl ?_; clear hA a; intro a hA
      refine S.val hA (R.move rfl) rfl ?_; clear hA a; intro a hA
      refine S.valg (dj := 47) hA (by kernel_rfl) rfl (R.move rfl) rfl ?_; clear hA a; intro a hA
      refine S.valg (dj := 47) hA (by kernel_rfl) rfl (R.ff (R.neq rfl rfl) (by first | decide | simp | omega)) rfl ?_; clear hA a; intro a hA
      refine S.val hA (R.pickF rfl rfl) rfl ?_; clear hA a; intro a hA
      refine S.val hA (R.move rfl) rfl ?_; clear hA a; intro a hA
      refine S.valg (dj := 51) hA (by kernel_rfl) rfl (R.move rfl) rfl ?_; clear hA a; intro a hA
      refine S.valg (dj := 51) hA (by kernel_rfl) rfl (R.ff (R.neq rfl rfl) (by first | decide | simp | omega)) rfl ?_; clear hA a; intro a hA
      refine S.val hA (R.pickF rfl rfl) rfl ?_; clear hA a; intro a hA
      refine S.val hA (R.move rfl) rfl ?_; clear hA a; intro a hA
      refine S.callg (dj := 55) hA (by kernel_rfl) rfl (R.callF Try.func48 rfl rfl rfl) rfl (pnone_any _) ?_; clear hA a
      rintro e w45 ⟨rfl, rfl⟩
      refine ⟨.pointer none, rfl, fun a hA => ?_⟩
      refine S.callg (dj := 55) hA (by kernel_rfl) rfl (R.callF Try.func49 rfl rfl rfl) rfl (pslots_nil _) ?_; clear hA a
      rintro e w46 ⟨rfl, rfl⟩
      refine ⟨.int .i64 0, rfl, fun a hA => ?_⟩
      refine S.valg (dj := 55) hA (by kernel_rfl) rfl (R.ff (R.neq rfl rfl) (by first | decide | simp | omega)) rfl ?_; clear hA a; intro a hA
      refine S.val hA (R.pickF rfl rfl) rfl ?_; clear hA a; intro a hA
      refine S.val hA (R.move rfl) rfl ?_; clear hA a; intro a hA
      refine S.callg (dj := 60) hA (by kernel_rfl) rfl (R.callF Try.func48 rfl rfl rfl) rfl (pnone_any _) ?_; clear hA a
      rintro e w47 ⟨rfl, rfl⟩
      refine ⟨.pointer none, rfl, fun a hA => ?_⟩
      refine S.callg (dj := 60) hA (by kernel_rfl) rfl (R.callF Try.func50 rfl rfl rfl) rfl (ptake_nil 0 _) ?_; clear hA a
      rintro e w48 ⟨rfl, rfl⟩
      refine ⟨.pointer none, rfl, fun a hA => ?_⟩
      refine S.valg (dj := 60) hA (by kernel_rfl) rfl (R.neqNil Try.underlying83 rfl rfl) rfl ?_; clear hA a; intro a hA
      refine S.val hA (R.pickF rfl rfl) rfl ?_; clear hA a; intro a hA
      refine S.val hA (R.move rfl) rfl ?_; clear hA a; intro a hA
      refine S.callg (dj := 65) hA (by kernel_rfl) rfl (R.callF Try.func48 rfl rfl rfl) rfl (pnone_any _) ?_; clear hA a
      rintro e w49 ⟨rfl, rfl⟩
      refine ⟨.pointer none, rfl, fun a hA => ?_⟩
      refine S.callg (dj := 65) hA (by kernel_rfl) rfl (R.callF Try.func51 rfl rfl rfl) rfl (pgive_nil 0 0 _) ?_; clear hA a
      rintro e w50 ⟨rfl, rfl⟩
      refine ⟨.pointer none, rfl, fun a hA => ?_⟩
      refine S.valg (dj := 65) hA (by kernel_rfl) rfl (R.neqNil Try.underlying83 rfl rfl) rfl ?_; clear hA a; intro a hA
      refine S.val hA (R.pickF rfl rfl) rfl ?_; clear hA a; intro a hA
      refine S.val hA (R.move rfl) rfl ?_; clear hA a; intro a hA
      refine S.callg (dj := 70) hA (by kernel_rfl) rfl (R.callF Try.func48 rfl rfl rfl) rfl (pnone_any _) ?_; clear hA a
      rintro e w51 ⟨rfl, rfl⟩
      refine ⟨.pointer none, rfl, fun a hA => ?_⟩
      refine S.callg (dj := 70) hA (by kernel_rfl) rfl (R.callF Try.func52 rfl rfl rfl) rfl (pown_nil 0 _) ?_; clear hA a
      rintro e w52 ⟨rfl, rfl⟩
      refine ⟨.slice none 0 0, rfl, fun a hA => ?_⟩
      refine S.valg (dj := 70) hA (by kernel_rfl) rfl (R.lenS Try.underlying43 rfl rfl) rfl ?_; clear hA a; intro a hA
      refine S.valg (dj := 70) hA (by kernel_rfl) rfl (R.ff (R.neq rfl rfl) (by first | decide | simp | omega)) rfl ?_; clear hA a; intro a hA
      refine S.val hA (R.pickF rfl rfl) rfl ?_; clear hA a; intro a hA
      refine S.val hA (R.move rfl) rfl ?_; clear hA a; intro a hA
      refine S.callg (dj := 76) hA (by kernel_rfl) rfl (R.callF Try.func48 rfl rfl rfl) rfl (pnone_any _) ?_; clear hA a
      rintro e w53 ⟨rfl, rfl⟩
      refine ⟨.pointer none, rfl, fun a hA => ?_⟩
      refine S.callg (dj := 76) hA (by kernel_rfl) rfl (R.callF Try.func53 rfl rfl rfl) rfl (pshared_nil _) ?_; clear hA a
      rintro e w54 ⟨rfl, rfl⟩
      refine ⟨.slice none 0 0, rfl, fun a hA => ?_⟩
      refine S.valg (dj := 76) hA (by kernel_rfl) rfl (R.lenS Try.underlying43 rfl rfl) rfl ?_; clear hA a; intro a hA
      refine S.valg (dj := 76) hA (by kernel_rfl) rfl (R.ff (R.neq rfl rfl) (by first | decide | simp | omega)) rfl ?_; clear hA a; intro a hA
      refine S.val hA (R.pickF rfl rfl) rfl ?_; clear hA a; intro a hA
      refine S.val hA (R.move rfl) rfl ?_; clear hA a; intro a hA
      refine S.valg (dj := 82) hA (by kernel_rfl) rfl (R.move rfl) rfl ?_; clear hA a; intro a hA
      refine S.callg (dj := 82) hA (by kernel_rfl) rfl (R.callF Try.func54 rfl rfl rfl) rfl (pover_nil _) ?_; clear hA a
      rintro e w55 ⟨rfl, rfl⟩
      refine ⟨.bool true, rfl, fun a hA => ?_⟩
      refine S.valg (dj := 82) hA (by kernel_rfl) rfl (R.not rfl) rfl ?_; clear hA a; intro a hA
      refine S.val hA (R.pickF rfl rfl) rfl ?_; clear hA a; intro a hA
      refine S.val hA (R.move rfl) rfl ?_; clear hA a; intro a hA
      refine S.valg (dj := 87) hA (by kernel_rfl) rfl (R.move rfl) rfl ?_; clear hA a; intro a hA
      refine S.callg (dj := 87) hA (by kernel_rfl) rfl (R.callF Try.func55 rfl rfl rfl) rfl (pstep_nil _) ?_; clear hA a
      rintro e w56 ⟨rfl, rfl⟩
      refine ⟨.bool true, rfl, fun a hA => ?_⟩
      refine S.valg (dj := 87) hA (by kernel_rfl) rfl (R.not rfl) rfl ?_; clear hA a; intro a hA
      refine S.val hA (R.pickF rfl rfl) rfl ?_; clear hA a; intro a hA
      refine S.val hA (R.move rfl) rfl ?_; clear hA a; intro a hA
      refine S.valg (dj := 92) hA (by kernel_rfl) rfl (R.move rfl) rfl ?_; clear hA a; intro a hA
      refine S.callg (dj := 92) hA (by kernel_rfl) rfl (R.callF Try.func56 rfl rfl rfl) rfl (pslot_nil _) ?_; clear hA a
      rintro e w57 ⟨rfl, rfl⟩
      refine ⟨.int .i64 (-1), rfl, fun a hA => ?_⟩
      refine S.valg (dj := 92) hA (by kernel_rfl) rfl (R.ff (R.neq rfl rfl) (by first | decide | simp | omega)) rfl ?_; clear hA a; intro a hA
      refine S.val hA (R.pickF rfl rfl) rfl ?_; clear hA a; intro a hA
      refine S.done ?_
      replace hA : St 179 [(0, _), (1, _), (6, _), (7, _), (10, _), (11, _), (96, _)] a := hA.sub ((.cons rfl (.cons rfl (.cons rfl (.cons rfl (.cons rfl (.cons rfl (.cons rfl .nil))))))))
      refine Ends.condF hA rfl ?_
      refine Ends.skip ?_
      refine Ends.seq ?_
      refine Ends.region ?_
      refine S.val hA (R.move rfl) rfl ?_; clear hA a; intro a hA
      refine S.val hA (R.tt (R.geq rfl rfl) (by omega)) rfl ?_; clear hA a; intro a hA
      refine S.val hA (R.move rfl) rfl ?_; clear hA a; intro a hA
      refine S.valg (dj := 99) hA (by kernel_rfl) rfl (R.move rfl) rfl ?_; clear hA a; intro a hA
      refine S.valg (dj := 99) hA (by kernel_rfl) rfl (R.tt (R.leq rfl rfl) (by omega)) rfl ?_; clear hA a; intro a hA
      refine S.val hA (R.pickT rfl rfl) rfl ?_; clear hA a; intro a hA
      refine S.val hA (R.move rfl) rfl ?_; clear hA a; intro a hA
      refine S.valg (dj := 103) hA (by kernel_rfl) rfl (R.move rfl) rfl ?_; clear hA a; intro a hA
      refine S.valg (dj := 103) hA (by kernel_rfl) rfl (R.tt (R.geq rfl rfl) (by omega)) rfl ?_; clear hA a; intro a hA
      refine S.val hA (R.pickT rfl rfl) rfl ?_; clear hA a; intro a hA
      refine S.val hA (R.move rfl) rfl ?_; clear hA a; intro a hA
      refine S.valg (dj := 107) hA (by kernel_rfl) rfl (R.move rfl) rfl ?_; clear hA a; intro a hA
      refine S.valg (dj := 107) hA (by kernel_rfl) rfl (R.tt (R.leq rfl rfl) (by omega)) rfl ?_; clear hA a; intro a hA
      refine S.val hA (R.pickT rfl rfl) rfl ?_; clear hA a; intro a hA
      refine S.val hA (R.move rfl) rfl ?_; clear hA a; intro a hA
      refine S.valg (dj := 111) hA (by kernel_rfl) rfl (R.move rfl) rfl ?_; clear hA a; intro a hA
      refine S.valg (dj := 111) hA (by kernel_rfl) rfl (R.move rfl) rfl ?_; clear hA a; intro a hA
      refine S.valg (dj := 111) hA (by kernel_rfl) rfl (R.addI rfl rfl (r := 2 + sz) rfl (by omega)) rfl ?_; clear hA a; intro a hA
      refine S.valg (dj := 111) hA (by kernel_rfl) rfl (R.addI rfl rfl (r := (2 + sz) + 1) rfl (by omega)) rfl ?_; clear hA a; intro a hA
      refine S.valg (dj := 111) hA (by kernel_rfl) rfl (R.tt (R.geq rfl rfl) (by omega)) rfl ?_; clear hA a; intro a hA
      refine S.val hA (R.pickT rfl rfl) rfl ?_; clear hA a; intro a hA
      refine S.val hA (R.assign rfl) rfl ?_; clear hA a; intro a hA
      refine S.done ?_
      replace hA : St 179 [(0, _), (1, _), (6, _), (10, _), (11, _), (15, _)] a := hA.sub ((.cons rfl (.cons rfl (.cons rfl (.cons rfl (.cons rfl (.cons rfl .nil)))))))
      refine Ends.seq ?_
      refine Ends.seq ?_
      refine Ends.region ?_
      refine S.val hA (R.move rfl) rfl ?_; clear hA a; intro a hA
      refine S.val hA (R.not rfl) rfl ?_; clear hA a; intro a hA
      refine S.done ?_
      replace hA : St 179 [(0, _), (1, _), (6, _), (10, _), (11, _), (119, _)] a := hA.sub ((.cons rfl (.cons rfl (.cons rfl (.cons rfl (.cons rfl (.cons rfl .nil)))))))
      refine Ends.condF hA rfl ?_
      refine Ends.skip ?_
      refine Ends.seq ?_
      refine Ends.region ?_
      refine S.val hA (R.move rfl) rfl ?_; clear hA a; intro a hA
      refine S.val hA (R.tt (R.eql rfl rfl) (by first | decide | simp | omega)) rfl ?_; clear hA a; intro a hA
      refine S.val hA (R.move rfl) rfl ?_; clear hA a; intro a hA
      refine S.valg (dj := 143) hA (by kernel_rfl) rfl (R.move rfl) rfl ?_; clear hA a; intro a hA
      refine S.callg (dj := 143) hA (by kernel_rfl) rfl (R.callF Try.func49 rfl rfl rfl) rfl (pslots p20 m4 nb21 ob22 sz.toNat wk.toNat 2 _ (hM.block (k := 0) rfl)) ?_; clear hA a
      rintro e w58 ⟨rfl, rfl⟩
      refine ⟨.int .i64 ((sz.toNat : Int)), rfl, fun a hA => ?_⟩
      refine S.valg (dj := 143) hA (by kernel_rfl) rfl (R.move rfl) rfl ?_; clear hA a; intro a hA
      refine S.valg (dj := 143) hA (by kernel_rfl) rfl (R.tt (R.eql rfl rfl) (by omega)) rfl ?_; clear hA a; intro a hA
      refine S.val hA (R.pickT rfl rfl) rfl ?_; clear hA a; intro a hA
      refine S.val hA (R.move rfl) rfl ?_; clear hA a; intro a hA
      refine S.valg (dj := 149) hA (by kernel_rfl) rfl (R.move rfl) rfl ?_; clear hA a; intro a hA
      replace hM := hM.front (k := 3) rfl
      replace hM := hM.front (k := 1) rfl
      replace hM : Mem _ _ [pt p20 #[.pointer (some ⟨m4, 0, none⟩), .int .i64 2, .slice (some ⟨nb21, 0, none⟩) sz.toNat sz.toNat, .slice (some ⟨ob22, 0, none⟩) wk.toNat wk.toNat] 128, memO m4 c5 ((linkL ((List.replicate ((n1 : Int)).toNat 0)) 2 sz sz.toNat)) (0 + 1 + sz) op23, pt nb21 ((madeCells #[.slice none 0 0, .int .i64 0] (sz.toNat * 2))) 77, pt ob22 ((vals (nils wk.toNat))) 43] _ := hM
      refine S.callg (dj := 149) hA (by kernel_rfl) rfl (R.callF Try.func53 rfl rfl rfl) rfl (pshared_new p20 m4 c5 nb21 ob22 wk.toNat 2 sz ((List.replicate ((n1 : Int)).toNat 0)) (0 + 1 + sz) op23 hm4c5 (by first | omega | decide | (simp; done) | (simp; omega)) (by first | omega | decide | (simp; done) | (simp; omega)) (by first | omega | decide | (simp; done) | (simp; omega)) _ (hM.hereN 2)) ?_; clear hA a
      rintro e w59 ⟨a24, c25, rfl, hn⟩
      replace hM : Mem _ _ [pt p20 #[.pointer (some ⟨m4, 0, none⟩), .int .i64 2, .slice (some ⟨nb21, 0, none⟩) sz.toNat sz.toNat, .slice (some ⟨ob22, 0, none⟩) wk.toNat wk.toNat] 128, memO m4 c5 ((linkL ((List.replicate ((n1 : Int)).toNat 0)) 2 sz sz.toNat)) (0 + 1 + sz) op23, pt nb21 ((madeCells #[.slice none 0 0, .int .i64 0] (sz.toNat * 2))) 77, pt ob22 ((vals (nils wk.toNat))) 43] _ := hM.callL 2 hn; clear hn
      refine ⟨.slice a24 sz.toNat c25, rfl, fun a hA => ?_⟩
      refine S.valg (dj := 149) hA (by kernel_rfl) rfl (R.lenS Try.underlying43 rfl rfl) rfl ?_; clear hA a; intro a hA
      refine S.valg (dj := 149) hA (by kernel_rfl) rfl (R.move rfl) rfl ?_; clear hA a; intro a hA
      refine S.valg (dj := 149) hA (by kernel_rfl) rfl (R.tt (R.eql rfl rfl) (by omega)) rfl ?_; clear hA a; intro a hA
      refine S.val hA (R.pickT rfl rfl) rfl ?_; clear hA a; intro a hA
      refine S.val hA (R.move rfl) rfl ?_; clear hA a; intro a hA
      refine S.valg (dj := 156) hA (by kernel_rfl) rfl (R.move rfl) rfl ?_; clear hA a; intro a hA
      refine S.valg (dj := 156) hA (by kernel_rfl) rfl (R.move rfl) rfl ?_; clear hA a; intro a hA
      refine S.callg (dj := 156) hA (by kernel_rfl) rfl (R.callF Try.func50 rfl rfl rfl) rfl (ptake_high p20 m4 nb21 ob22 sz.toNat wk.toNat 2 wk (by first | omega | decide | (simp; done) | (simp; omega)) _ (hM.block (k := 0) rfl)) ?_; clear hA a
      rintro e w60 ⟨rfl, rfl⟩
      refine ⟨.pointer none, rfl, fun a hA => ?_⟩
      refine S.valg (dj := 156) hA (by kernel_rfl) rfl (R.eqlNil Try.underlying83 rfl rfl) rfl ?_; clear hA a; intro a hA
      refine S.val hA (R.pickT rfl rfl) rfl ?_; clear hA a; intro a hA
      refine S.val hA (R.move rfl) rfl ?_; clear hA a; intro a hA
      refine S.valg (dj := 162) hA (by kernel_rfl) rfl (R.move rfl) rfl ?_; clear hA a; intro a hA
      refine S.callg (dj := 162) hA (by kernel_rfl) rfl (R.callF Try.func50 rfl rfl rfl) rfl (ptake_low p20 m4 nb21 ob22 sz.toNat wk.toNat 2 (-1) (by first | omega | decide | (simp; done) | (simp; omega)) _ (hM.block (k := 0) rfl)) ?_; clear hA a
      rintro e w61 ⟨rfl, rfl⟩
      refine ⟨.pointer none, rfl, fun a hA => ?_⟩
      refine S.valg (dj := 162) hA (by kernel_rfl) rfl (R.eqlNil Try.underlying83 rfl rfl) rfl ?_; clear hA a; intro a hA
      refine S.val hA (R.pickT rfl rfl) rfl ?_; clear hA a; intro a hA
      refine S.val hA (R.move rfl) rfl ?_; clear hA a; intro a hA
      refine S.valg (dj := 167) hA (by kernel_rfl) rfl (R.move rfl) rfl ?_; clear hA a; intro a hA
      refine S.valg (dj := 167) hA (by kernel_rfl) rfl (R.move rfl) rfl ?_; clear hA a; intro a hA
      refine S.callg (dj := 167) hA (by kernel_rfl) rfl (R.callF Try.func51 rfl rfl rfl) rfl (pgive_slot p20 m4 nb21 ob22 sz.toNat wk.toNat 2 0 sz (by first | omega | decide | (simp; done) | (simp; omega)) _ (hM.block (k := 0) rfl)) ?_; clear hA a
      rintro e w62 ⟨rfl, rfl⟩
      refine ⟨.pointer none, rfl, fun a hA => ?_⟩
      refine S.valg (dj := 167) hA (by kernel_rfl) rfl (R.eqlNil Try.underlying83 rfl rfl) rfl ?_; clear hA a; intro a hA
      refine S.val hA (R.pickT rfl rfl) rfl ?_; clear hA a; intro a hA
      refine S.val hA (R.move rfl) rfl ?_; clear hA a; intro a hA
      refine S.valg (dj := 173) hA (by kernel_rfl) rfl (R.move rfl) rfl ?_; clear hA a; intro a hA
      refine S.valg (dj := 173) hA (by kernel_rfl) rfl (R.move rfl) rfl ?_; clear hA a; intro a hA
      refine S.callg (dj := 173) hA (by kernel_rfl) rfl (R.callF Try.func51 rfl rfl rfl) rfl (pgive_high p20 m4 nb21 ob22 sz.toNat wk.toNat 2 wk 0 (by first | omega | decide | (simp; done) | (simp; omega)) (by first | omega | decide | (simp; done) | (simp; omega)) _ (hM.block (k := 0) rfl)) ?_; clear hA a
      rintro e w63 ⟨rfl, rfl⟩
      refine ⟨.pointer none, rfl, fun a hA => ?_⟩
      refine S.valg (dj := 173) hA (by kernel_rfl) rfl (R.eqlNil Try.underlying83 rfl rfl) rfl ?_; clear hA a; intro a hA
      refine S.val hA (R.pickT rfl rfl) rfl ?_; clear hA a; intro a hA
      refine S.val hA (R.assign rfl) rfl ?_; clear hA a; intro a hA
      refine S.done ?_
      replace hA : St 179 [(6, _)] a := hA.sub ((.cons rfl .nil))
      refine Ends.ret1 Try.func10 Try.results10 hA rfl ?_
      exact ⟨rfl, hM.nilL.below⟩
    ·
      refine Ends.region ?_
      refine S.val hA (R.move rfl) rfl ?_; clear hA a; intro a hA
      refine S.val hA (R.move rfl) rfl ?_; clear hA a; intro a hA
      refine S.val hA (R.move rfl) rfl ?_; clear hA a; intro a hA
      refine S.call hA (R.callF Try.func47 rfl rfl rfl) rfl (pnew_badn m4 c5 ((List.replicate ((n1 : Int)).toNat 0)) 0 ⟨0, 0, 0, 0, false⟩ hm4c5 2 sz wk (by first | omega | decide | (simp; done) | (simp; omega)) hs6 _ (hM.hereN 1)) ?_; clear hA a
      rintro e w64 ⟨rfl, hn⟩
      replace hM : Mem _ _ [memO m4 c5 ((List.replicate ((n1 : Int)).toNat 0)) 0 ⟨0, 0, 0, 0, false⟩] _ := hM.callL 1 hn; clear hn
      refine ⟨.tuple #[.pointer none, .int .i64 1], rfl, fun a hA => ?_⟩
      refine S.val hA (R.move rfl) rfl ?_; clear hA a; intro a hA
      refine S.val hA (R.extract (v := .pointer none) rfl rfl) rfl ?_; clear hA a; intro a hA
      refine S.val hA (R.extract (v := .int .i64 1) rfl rfl) rfl ?_; clear hA a; intro a hA
      refine S.val hA (R.assign rfl) rfl ?_; clear hA a; intro a hA
      refine S.val hA (R.assign rfl) rfl ?_; clear hA a; intro a hA
      refine S.done ?_
      replace hA : St 179 [(0, _), (1, _), (6, _), (7, _), (9, _), (10, _), (11, _)] a := hA.sub ((.cons rfl (.cons rfl (.cons rfl (.cons rfl (.cons rfl (.cons rfl (.cons rfl .nil))))))))
      refine Ends.seq ?_
      refine Ends.region ?_
      refine S.call hA (R.callF Try.func47 rfl rfl rfl) rfl (pnew_nil 0 1 1 (by first | omega | decide | (simp; done) | (simp; omega)) _) ?_; clear hA a
      rintro e w65 ⟨rfl, rfl⟩
      refine ⟨.tuple #[.pointer none, .int .i64 1], rfl, fun a hA => ?_⟩
      refine S.val hA (R.move rfl) rfl ?_; clear hA a; intro a hA
      refine S.val hA (R.extract (v := .pointer none) rfl rfl) rfl ?_; clear hA a; intro a hA
      refine S.val hA (R.extract (v := .int .i64 1) rfl rfl) rfl ?_; clear hA a; intro a hA
      refine S.val hA (R.assign rfl) rfl ?_; clear hA a; intro a hA
      refine S.val hA (R.assign rfl) rfl ?_; clear hA a; intro a hA
      refine S.done ?_
      replace hA : St 179 [(0, _), (1, _), (6, _), (7, _), (9, _), (10, _), (11, _), (13, _)] a := hA.sub ((.cons rfl (.cons rfl (.cons rfl (.cons rfl (.cons rfl (.cons rfl (.cons rfl (.cons rfl .nil)))))))))
      refine Ends.seq ?_
      refine Ends.region ?_
      refine S.val hA (R.assign rfl) rfl ?_; clear hA a; intro a hA
      refine S.done ?_
      replace hA : St 179 [(0, _), (1, _), (6, _), (7, _), (9, _), (10, _), (11, _), (13, _), (14, _)] a := hA.sub ((.cons rfl (.cons rfl (.cons rfl (.cons rfl (.cons rfl (.cons rfl (.cons rfl (.cons rfl (.cons rfl .nil))))))))))
      refine Ends.seq ?_
      refine Ends.seq ?_
      refine Ends.region ?_
      refine S.call hA (R.callF Try.func43 rfl rfl rfl) rfl (ppools_any _) ?_; clear hA a
      rintro e w66 ⟨rfl, hb⟩
      replace hM := hM.callB hb; clear hb
      refine ⟨.bool true, rfl, fun a hA => ?_⟩
      refine S.val hA (R.not rfl) rfl ?_; clear hA a; intro a hA
      refine S.val hA (R.move rfl) rfl ?_; clear hA a; intro a hA
      refine S.valg (dj := 47) hA (by kernel_rfl) rfl (R.move rfl) rfl ?_; clear hA a; intro a hA
      refine S.valg (dj := 47) hA (by kernel_rfl) rfl (R.ff (R.neq rfl rfl) (by first | decide | simp | omega)) rfl ?_; clear hA a; intro a hA
      refine S.val hA (R.pickF rfl rfl) rfl ?_; clear hA a; intro a hA
      refine S.val hA (R.move rfl) rfl ?_; clear hA a; intro a hA
      refine S.valg (dj := 51) hA (by kernel_rfl) rfl (R.move rfl) rfl ?_; clear hA a; intro a hA
      refine S.valg (dj := 51) hA (by kernel_rfl) rfl (R.ff (R.neq rfl rfl) (by first | decide | simp | omega)) rfl ?_; clear hA a; intro a hA
      refine S.val hA (R.pickF rfl rfl) rfl ?_; clear hA a; intro a hA
      refine S.val hA (R.move rfl) rfl ?_; clear hA a; intro a hA
      refine S.callg (dj := 55) hA (by kernel_rfl) rfl (R.callF Try.func48 rfl rfl rfl) rfl (pnone_any _) ?_; clear hA a
      rintro e w67 ⟨rfl, rfl⟩
      refine ⟨.pointer none, rfl, fun a hA => ?_⟩
      refine S.callg (dj := 55) hA (by kernel_rfl) rfl (R.callF Try.func49 rfl rfl rfl) rfl (pslots_nil _) ?_; clear hA a
      rintro e w68 ⟨rfl, rfl⟩
      refine ⟨.int .i64 0, rfl, fun a hA => ?_⟩
      refine S.valg (dj := 55) hA (by kernel_rfl) rfl (R.ff (R.neq rfl rfl) (by first | decide | simp | omega)) rfl ?_; clear hA a; intro a hA
      refine S.val hA (R.pickF rfl rfl) rfl ?_; clear hA a; intro a hA
      refine S.val hA (R.move rfl) rfl ?_; clear hA a; intro a hA
      refine S.callg (dj := 60) hA (by kernel_rfl) rfl (R.callF Try.func48 rfl rfl rfl) rfl (pnone_any _) ?_; clear hA a
      rintro e w69 ⟨rfl, rfl⟩
      refine ⟨.pointer none, rfl, fun a hA => ?_⟩
      refine S.callg (dj := 60) hA (by kernel_rfl) rfl (R.callF Try.func50 rfl rfl rfl) rfl (ptake_nil 0 _) ?_; clear hA a
      rintro e w70 ⟨rfl, rfl⟩
      refine ⟨.pointer none, rfl, fun a hA => ?_⟩
      refine S.valg (dj := 60) hA (by kernel_rfl) rfl (R.neqNil Try.underlying83 rfl rfl) rfl ?_; clear hA a; intro a hA
      refine S.val hA (R.pickF rfl rfl) rfl ?_; clear hA a; intro a hA
      refine S.val hA (R.move rfl) rfl ?_; clear hA a; intro a hA
      refine S.callg (dj := 65) hA (by kernel_rfl) rfl (R.callF Try.func48 rfl rfl rfl) rfl (pnone_any _) ?_; clear hA a
      rintro e w71 ⟨rfl, rfl⟩
      refine ⟨.pointer none, rfl, fun a hA => ?_⟩
      refine S.callg (dj := 65) hA (by kernel_rfl) rfl (R.callF Try.func51 rfl rfl rfl) rfl (pgive_nil 0 0 _) ?_; clear hA a
      rintro e w72 ⟨rfl, rfl⟩
      refine ⟨.pointer none, rfl, fun a hA => ?_⟩
      refine S.valg (dj := 65) hA (by kernel_rfl) rfl (R.neqNil Try.underlying83 rfl rfl) rfl ?_; clear hA a; intro a hA
      refine S.val hA (R.pickF rfl rfl) rfl ?_; clear hA a; intro a hA
      refine S.val hA (R.move rfl) rfl ?_; clear hA a; intro a hA
      refine S.callg (dj := 70) hA (by kernel_rfl) rfl (R.callF Try.func48 rfl rfl rfl) rfl (pnone_any _) ?_; clear hA a
      rintro e w73 ⟨rfl, rfl⟩
      refine ⟨.pointer none, rfl, fun a hA => ?_⟩
      refine S.callg (dj := 70) hA (by kernel_rfl) rfl (R.callF Try.func52 rfl rfl rfl) rfl (pown_nil 0 _) ?_; clear hA a
      rintro e w74 ⟨rfl, rfl⟩
      refine ⟨.slice none 0 0, rfl, fun a hA => ?_⟩
      refine S.valg (dj := 70) hA (by kernel_rfl) rfl (R.lenS Try.underlying43 rfl rfl) rfl ?_; clear hA a; intro a hA
      refine S.valg (dj := 70) hA (by kernel_rfl) rfl (R.ff (R.neq rfl rfl) (by first | decide | simp | omega)) rfl ?_; clear hA a; intro a hA
      refine S.val hA (R.pickF rfl rfl) rfl ?_; clear hA a; intro a hA
      refine S.val hA (R.move rfl) rfl ?_; clear hA a; intro a hA
      refine S.callg (dj := 76) hA (by kernel_rfl) rfl (R.callF Try.func48 rfl rfl rfl) rfl (pnone_any _) ?_; clear hA a
      rintro e w75 ⟨rfl, rfl⟩
      refine ⟨.pointer none, rfl, fun a hA => ?_⟩
      refine S.callg (dj := 76) hA (by kernel_rfl) rfl (R.callF Try.func53 rfl rfl rfl) rfl (pshared_nil _) ?_; clear hA a
      rintro e w76 ⟨rfl, rfl⟩
      refine ⟨.slice none 0 0, rfl, fun a hA => ?_⟩
      refine S.valg (dj := 76) hA (by kernel_rfl) rfl (R.lenS Try.underlying43 rfl rfl) rfl ?_; clear hA a; intro a hA
      refine S.valg (dj := 76) hA (by kernel_rfl) rfl (R.ff (R.neq rfl rfl) (by first | decide | simp | omega)) rfl ?_; clear hA a; intro a hA
      refine S.val hA (R.pickF rfl rfl) rfl ?_; clear hA a; intro a hA
      refine S.val hA (R.move rfl) rfl ?_; clear hA a; intro a hA
      refine S.valg (dj := 82) hA (by kernel_rfl) rfl (R.move rfl) rfl ?_; clear hA a; intro a hA
      refine S.callg (dj := 82) hA (by kernel_rfl) rfl (R.callF Try.func54 rfl rfl rfl) rfl (pover_nil _) ?_; clear hA a
      rintro e w77 ⟨rfl, rfl⟩
      refine ⟨.bool true, rfl, fun a hA => ?_⟩
      refine S.valg (dj := 82) hA (by kernel_rfl) rfl (R.not rfl) rfl ?_; clear hA a; intro a hA
      refine S.val hA (R.pickF rfl rfl) rfl ?_; clear hA a; intro a hA
      refine S.val hA (R.move rfl) rfl ?_; clear hA a; intro a hA
      refine S.valg (dj := 87) hA (by kernel_rfl) rfl (R.move rfl) rfl ?_; clear hA a; intro a hA
      refine S.callg (dj := 87) hA (by kernel_rfl) rfl (R.callF Try.func55 rfl rfl rfl) rfl (pstep_nil _) ?_; clear hA a
      rintro e w78 ⟨rfl, rfl⟩
      refine ⟨.bool true, rfl, fun a hA => ?_⟩
      refine S.valg (dj := 87) hA (by kernel_rfl) rfl (R.not rfl) rfl ?_; clear hA a; intro a hA
      refine S.val hA (R.pickF rfl rfl) rfl ?_; clear hA a; intro a hA
      refine S.val hA (R.move rfl) rfl ?_; clear hA a; intro a hA
      refine S.valg (dj := 92) hA (by kernel_rfl) rfl (R.move rfl) rfl ?_; clear hA a; intro a hA
      refine S.callg (dj := 92) hA (by kernel_rfl) rfl (R.callF Try.func56 rfl rfl rfl) rfl (pslot_nil _) ?_; clear hA a
      rintro e w79 ⟨rfl, rfl⟩
      refine ⟨.int .i64 (-1), rfl, fun a hA => ?_⟩
      refine S.valg (dj := 92) hA (by kernel_rfl) rfl (R.ff (R.neq rfl rfl) (by first | decide | simp | omega)) rfl ?_; clear hA a; intro a hA
      refine S.val hA (R.pickF rfl rfl) rfl ?_; clear hA a; intro a hA
      refine S.done ?_
      replace hA : St 179 [(0, _), (1, _), (6, _), (7, _), (10, _), (11, _), (96, _)] a := hA.sub ((.cons rfl (.cons rfl (.cons rfl (.cons rfl (.cons rfl (.cons rfl (.cons rfl .nil))))))))
      refine Ends.condF hA rfl ?_
      refine Ends.skip ?_
      refine Ends.seq ?_
      refine Ends.cut (fun (a : Act) (wv : World) => St 179 [(0, .int .i64 sz), (1, .int .i64 wk), (6, .bool false), (10, .pointer none), (11, .int .i64 1), (15, .bool (decide (((((1 ≤ sz ∧ sz ≤ 4096) ∧ 1 ≤ wk) ∧ wk ≤ 16) ∧ ((2 + sz) + 1) ≤ ((n1 : Int))))))] a ∧ Mem w nof [memO m4 c5 ((List.replicate ((n1 : Int)).toNat 0)) 0 ⟨0, 0, 0, 0, false⟩] wv) ?_ (fun k2 hJ => ?_)
      · clear hA hM a; rintro a w80 ⟨hA, hM⟩
        refine Ends.seq ?_
        refine Ends.seq ?_
        refine Ends.region ?_
        refine S.val hA (R.move rfl) rfl ?_; clear hA a; intro a hA
        refine S.val hA (R.notD rfl) rfl ?_; clear hA a; intro a hA
        refine S.done ?_
        replace hA : St 179 [(0, _), (1, _), (6, _), (10, _), (11, _), (119, _)] a := hA.sub ((.cons rfl (.cons rfl (.cons rfl (.cons rfl (.cons rfl (.cons rfl .nil)))))))
        refine Ends.ite hA rfl (fun hc26 => ?_) (fun hc26 => ?_)
        ·
          refine Ends.seq ?_
          refine Ends.cut (fun (a : Act) (wv : World) => St 179 [(0, .int .i64 sz), (1, .int .i64 wk), (6, .bool (decide (((0 = (IntKind.i64.wrap (sz + 1)) ∨ sz < 1) ∨ 4096 < sz)))), (10, .pointer none), (11, .int .i64 1)] a ∧ Mem w nof [memO m4 c5 ((List.replicate ((n1 : Int)).toNat 0)) 0 ⟨0, 0, 0, 0, false⟩] wv) ?_ (fun k2 hJ => ?_)
          · clear hA hM a; rintro a w81 ⟨hA, hM⟩
            refine Ends.ret1 Try.func10 Try.results10 hA rfl ?_
            exact ⟨congrArg (fun b => Ending.returned (.bool b)) (decide_eq_true (by omega)), hM.nilL.below⟩
          ·
            refine Ends.region ?_
            refine S.val hA (R.move rfl) rfl ?_; clear hA a; intro a hA
            refine S.val hA (R.eqlNil Try.underlying72 rfl rfl) rfl ?_; clear hA a; intro a hA
            refine S.val hA (R.move rfl) rfl ?_; clear hA a; intro a hA
            refine S.valg (dj := 122) hA (by kernel_rfl) rfl (R.move rfl) rfl ?_; clear hA a; intro a hA
            refine S.valg (dj := 122) hA (by kernel_rfl) rfl (R.tt (R.eql rfl rfl) (by first | decide | simp | omega)) rfl ?_; clear hA a; intro a hA
            refine S.val hA (R.pickT rfl rfl) rfl ?_; clear hA a; intro a hA
            refine S.val hA (R.move rfl) rfl ?_; clear hA a; intro a hA
            refine S.valg (dj := 126) hA (by kernel_rfl) rfl (R.move rfl) rfl ?_; clear hA a; intro a hA
            refine S.callg (dj := 126) hA (by kernel_rfl) rfl (R.callF Try.func57 rfl rfl rfl) rfl (pcells_bad sz hs6 _) ?_; clear hA a
            rintro e w82 ⟨rfl, rfl⟩
            refine ⟨.int .i64 0, rfl, fun a hA => ?_⟩
            refine S.valg (dj := 126) hA (by kernel_rfl) rfl (R.move rfl) rfl ?_; clear hA a; intro a hA
            refine S.valg (dj := 126) hA (by kernel_rfl) rfl (R.add rfl rfl) rfl ?_; clear hA a; intro a hA
            refine S.valg (dj := 126) hA (by kernel_rfl) rfl (R.eql rfl rfl) rfl ?_; clear hA a; intro a hA
            refine S.valg (dj := 126) hA (by kernel_rfl) rfl (R.move rfl) rfl ?_; clear hA a; intro a hA
            refine hA.split (d := 132) rfl ?_ ?_
            · clear hA; intro hg27 hA
              refine S.no (dj := 132) hA (by kernel_rfl) rfl rfl rfl ?_; clear hA a; intro a hA
              refine S.no (dj := 132) hA (by kernel_rfl) rfl rfl rfl ?_; clear hA a; intro a hA
              refine S.valg (dj := 126) hA (by kernel_rfl) rfl (R.pickT rfl rfl) rfl ?_; clear hA a; intro a hA
              refine S.valg (dj := 126) hA (by kernel_rfl) rfl (R.move rfl) rfl ?_; clear hA a; intro a hA
              refine S.no (dj := 136) hA (by kernel_rfl) rfl rfl rfl ?_; clear hA a; intro a hA
              refine S.no (dj := 136) hA (by kernel_rfl) rfl rfl rfl ?_; clear hA a; intro a hA
              refine S.valg (dj := 126) hA (by kernel_rfl) rfl (R.pickT rfl rfl) rfl ?_; clear hA a; intro a hA
              refine S.val hA (R.pickT rfl rfl) rfl ?_; clear hA a; intro a hA
              refine S.val hA (R.assign rfl) rfl ?_; clear hA a; intro a hA
              refine S.done ?_
              replace hA : St 179 [(0, _), (1, _), (6, _), (10, _), (11, _)] a := hA.sub ((.cons rfl (.cons rfl (.cons rfl (.cons rfl (.cons rfl .nil))))))
              exact hJ _ _ ⟨hA.sub (.cons rfl (.cons rfl (.cons (by first | rfl | exact congrArg (fun b => some (Value.bool b)) (by first | (simp; done) | simp [hg27])) (.cons rfl (.cons rfl .nil))))), hM⟩
            · clear hA; intro hg27 hA
              refine S.valg (dj := 132) hA (by kernel_rfl) rfl (R.move rfl) rfl ?_; clear hA a; intro a hA
              refine S.valg (dj := 132) hA (by kernel_rfl) rfl (R.lss rfl rfl) rfl ?_; clear hA a; intro a hA
              refine S.valg (dj := 126) hA (by kernel_rfl) rfl (R.pickF rfl rfl) rfl ?_; clear hA a; intro a hA
              refine S.valg (dj := 126) hA (by kernel_rfl) rfl (R.move rfl) rfl ?_; clear hA a; intro a hA
              refine hA.split (d := 136) rfl ?_ ?_
              · clear hA; intro hg28 hA
                refine S.no (dj := 136) hA (by kernel_rfl) rfl rfl rfl ?_; clear hA a; intro a hA
                refine S.no (dj := 136) hA (by kernel_rfl) rfl rfl rfl ?_; clear hA a; intro a hA
                refine S.valg (dj := 126) hA (by kernel_rfl) rfl (R.pickT rfl rfl) rfl ?_; clear hA a; intro a hA
                refine S.val hA (R.pickT rfl rfl) rfl ?_; clear hA a; intro a hA
                refine S.val hA (R.assign rfl) rfl ?_; clear hA a; intro a hA
                refine S.done ?_
                replace hA : St 179 [(0, _), (1, _), (6, _), (10, _), (11, _)] a := hA.sub ((.cons rfl (.cons rfl (.cons rfl (.cons rfl (.cons rfl .nil))))))
                exact hJ _ _ ⟨hA.sub (.cons rfl (.cons rfl (.cons (by first | rfl | exact congrArg (fun b => some (Value.bool b)) (by first | (simp; done) | simp [hg27, hg28])) (.cons rfl (.cons rfl .nil))))), hM⟩
              · clear hA; intro hg28 hA
                refine S.valg (dj := 136) hA (by kernel_rfl) rfl (R.move rfl) rfl ?_; clear hA a; intro a hA
                refine S.valg (dj := 136) hA (by kernel_rfl) rfl (R.gtr rfl rfl) rfl ?_; clear hA a; intro a hA
                refine S.valg (dj := 126) hA (by kernel_rfl) rfl (R.pickF rfl rfl) rfl ?_; clear hA a; intro a hA
                refine S.val hA (R.pickT rfl rfl) rfl ?_; clear hA a; intro a hA
                refine S.val hA (R.assign rfl) rfl ?_; clear hA a; intro a hA
                refine S.done ?_
                replace hA : St 179 [(0, _), (1, _), (6, _), (10, _), (11, _)] a := hA.sub ((.cons rfl (.cons rfl (.cons rfl (.cons rfl (.cons rfl .nil))))))
                exact hJ _ _ ⟨hA.sub (.cons rfl (.cons rfl (.cons (by first | rfl | exact congrArg (fun b => some (Value.bool b)) (by first | (simp; done) | simp [hg27, hg28])) (.cons rfl (.cons rfl .nil))))), hM⟩
        · exfalso; omega
      ·
        refine Ends.region ?_
        refine S.val hA (R.move rfl) rfl ?_; clear hA a; intro a hA
        refine S.val hA (R.geq rfl rfl) rfl ?_; clear hA a; intro a hA
        refine S.val hA (R.move rfl) rfl ?_; clear hA a; intro a hA
        refine hA.split (d := 99) rfl ?_ ?_
        · clear hA; intro hg29 hA
          refine S.valg (dj := 99) hA (by kernel_rfl) rfl (R.move rfl) rfl ?_; clear hA a; intro a hA
          refine S.valg (dj := 99) hA (by kernel_rfl) rfl (R.leq rfl rfl) rfl ?_; clear hA a; intro a hA
          refine S.val hA (R.pickT rfl rfl) rfl ?_; clear hA a; intro a hA
          refine S.val hA (R.move rfl) rfl ?_; clear hA a; intro a hA
          refine hA.split (d := 103) rfl ?_ ?_
          · clear hA; intro hg30 hA
            refine S.valg (dj := 103) hA (by kernel_rfl) rfl (R.move rfl) rfl ?_; clear hA a; intro a hA
            refine S.valg (dj := 103) hA (by kernel_rfl) rfl (R.geq rfl rfl) rfl ?_; clear hA a; intro a hA
            refine S.val hA (R.pickT rfl rfl) rfl ?_; clear hA a; intro a hA
            refine S.val hA (R.move rfl) rfl ?_; clear hA a; intro a hA
            refine hA.split (d := 107) rfl ?_ ?_
            · clear hA; intro hg31 hA
              refine S.valg (dj := 107) hA (by kernel_rfl) rfl (R.move rfl) rfl ?_; clear hA a; intro a hA
              refine S.valg (dj := 107) hA (by kernel_rfl) rfl (R.leq rfl rfl) rfl ?_; clear hA a; intro a hA
              refine S.val hA (R.pickT rfl rfl) rfl ?_; clear hA a; intro a hA
              refine S.val hA (R.move rfl) rfl ?_; clear hA a; intro a hA
              refine hA.split (d := 111) rfl ?_ ?_
              · clear hA; intro hg32 hA
                refine S.valg (dj := 111) hA (by kernel_rfl) rfl (R.move rfl) rfl ?_; clear hA a; intro a hA
                refine S.valg (dj := 111) hA (by kernel_rfl) rfl (R.move rfl) rfl ?_; clear hA a; intro a hA
                refine S.valg (dj := 111) hA (by kernel_rfl) rfl (R.addI rfl rfl (r := 2 + sz) rfl (by omega)) rfl ?_; clear hA a; intro a hA
                refine S.valg (dj := 111) hA (by kernel_rfl) rfl (R.addI rfl rfl (r := (2 + sz) + 1) rfl (by omega)) rfl ?_; clear hA a; intro a hA
                refine S.valg (dj := 111) hA (by kernel_rfl) rfl (R.geq rfl rfl) rfl ?_; clear hA a; intro a hA
                refine S.val hA (R.pickT rfl rfl) rfl ?_; clear hA a; intro a hA
                refine S.val hA (R.assign rfl) rfl ?_; clear hA a; intro a hA
                refine S.done ?_
                replace hA : St 179 [(0, _), (1, _), (6, _), (10, _), (11, _), (15, _)] a := hA.sub ((.cons rfl (.cons rfl (.cons rfl (.cons rfl (.cons rfl (.cons rfl .nil)))))))
                exact hJ _ _ ⟨hA.sub (.cons rfl (.cons rfl (.cons rfl (.cons rfl (.cons rfl (.cons (by first | rfl | exact congrArg (fun b => some (Value.bool b)) (by first | (simp; done) | simp [hg29, hg30, hg31, hg32])) .nil)))))), hM⟩
              · clear hA; intro hg32 hA
                refine S.no (dj := 111) hA (by kernel_rfl) rfl rfl rfl ?_; clear hA a; intro a hA
                refine S.no (dj := 111) hA (by kernel_rfl) rfl rfl rfl ?_; clear hA a; intro a hA
                refine S.no (dj := 111) hA (by kernel_rfl) rfl rfl rfl ?_; clear hA a; intro a hA
                refine S.no (dj := 111) hA (by kernel_rfl) rfl rfl rfl ?_; clear hA a; intro a hA
                refine S.no (dj := 111) hA (by kernel_rfl) rfl rfl rfl ?_; clear hA a; intro a hA
                refine S.val hA (R.pickF rfl rfl) rfl ?_; clear hA a; intro a hA
                refine S.val hA (R.assign rfl) rfl ?_; clear hA a; intro a hA
                refine S.done ?_
                replace hA : St 179 [(0, _), (1, _), (6, _), (10, _), (11, _), (15, _)] a := hA.sub ((.cons rfl (.cons rfl (.cons rfl (.cons rfl (.cons rfl (.cons rfl .nil)))))))
                exact hJ _ _ ⟨hA.sub (.cons rfl (.cons rfl (.cons rfl (.cons rfl (.cons rfl (.cons (by first | rfl | exact congrArg (fun b => some (Value.bool b)) (by first | (simp; done) | simp [hg29, hg30, hg31, hg32])) .nil)))))), hM⟩
            · clear hA; intro hg31 hA
              refine S.no (dj := 107) hA (by kernel_rfl) rfl rfl rfl ?_; clear hA a; intro a hA
              refine S.no (dj := 107) hA (by kernel_rfl) rfl rfl rfl ?_; clear hA a; intro a hA
              refine S.val hA (R.pickF rfl rfl) rfl ?_; clear hA a; intro a hA
              refine S.val hA (R.move rfl) rfl ?_; clear hA a; intro a hA
              refine S.no (dj := 111) hA (by kernel_rfl) rfl rfl rfl ?_; clear hA a; intro a hA
              refine S.no (dj := 111) hA (by kernel_rfl) rfl rfl rfl ?_; clear hA a; intro a hA
              refine S.no (dj := 111) hA (by kernel_rfl) rfl rfl rfl ?_; clear hA a; intro a hA
              refine S.no (dj := 111) hA (by kernel_rfl) rfl rfl rfl ?_; clear hA a; intro a hA
              refine S.no (dj := 111) hA (by kernel_rfl) rfl rfl rfl ?_; clear hA a; intro a hA
              refine S.val hA (R.pickF rfl rfl) rfl ?_; clear hA a; intro a hA
              refine S.val hA (R.assign rfl) rfl ?_; clear hA a; intro a hA
              refine S.done ?_
              replace hA : St 179 [(0, _), (1, _), (6, _), (10, _), (11, _), (15, _)] a := hA.sub ((.cons rfl (.cons rfl (.cons rfl (.cons rfl (.cons rfl (.cons rfl .nil)))))))
              exact hJ _ _ ⟨hA.sub (.cons rfl (.cons rfl (.cons rfl (.cons rfl (.cons rfl (.cons (by first | rfl | exact congrArg (fun b => some (Value.bool b)) (by first | (simp; done) | simp [hg29, hg30, hg31])) .nil)))))), hM⟩
          · clear hA; intro hg30 hA
            refine S.no (dj := 103) hA (by kernel_rfl) rfl rfl rfl ?_; clear hA a; intro a hA
            refine S.no (dj := 103) hA (by kernel_rfl) rfl rfl rfl ?_; clear hA a; intro a hA
            refine S.val hA (R.pickF rfl rfl) rfl ?_; clear hA a; intro a hA
            refine S.val hA (R.move rfl) rfl ?_; clear hA a; intro a hA
            refine S.no (dj := 107) hA (by kernel_rfl) rfl rfl rfl ?_; clear hA a; intro a hA
            refine S.no (dj := 107) hA (by kernel_rfl) rfl rfl rfl ?_; clear hA a; intro a hA
            refine S.val hA (R.pickF rfl rfl) rfl ?_; clear hA a; intro a hA
            refine S.val hA (R.move rfl) rfl ?_; clear hA a; intro a hA
            refine S.no (dj := 111) hA (by kernel_rfl) rfl rfl rfl ?_; clear hA a; intro a hA
            refine S.no (dj := 111) hA (by kernel_rfl) rfl rfl rfl ?_; clear hA a; intro a hA
            refine S.no (dj := 111) hA (by kernel_rfl) rfl rfl rfl ?_; clear hA a; intro a hA
            refine S.no (dj := 111) hA (by kernel_rfl) rfl rfl rfl ?_; clear hA a; intro a hA
            refine S.no (dj := 111) hA (by kernel_rfl) rfl rfl rfl ?_; clear hA a; intro a hA
            refine S.val hA (R.pickF rfl rfl) rfl ?_; clear hA a; intro a hA
            refine S.val hA (R.assign rfl) rfl ?_; clear hA a; intro a hA
            refine S.done ?_
            replace hA : St 179 [(0, _), (1, _), (6, _), (10, _), (11, _), (15, _)] a := hA.sub ((.cons rfl (.cons rfl (.cons rfl (.cons rfl (.cons rfl (.cons rfl .nil)))))))
            exact hJ _ _ ⟨hA.sub (.cons rfl (.cons rfl (.cons rfl (.cons rfl (.cons rfl (.cons (by first | rfl | exact congrArg (fun b => some (Value.bool b)) (by first | (simp; done) | simp [hg29, hg30])) .nil)))))), hM⟩
        · clear hA; intro hg29 hA
          refine S.no (dj := 99) hA (by kernel_rfl) rfl rfl rfl ?_; clear hA a; intro a hA
          refine S.no (dj := 99) hA (by kernel_rfl) rfl rfl rfl ?_; clear hA a; intro a hA
          refine S.val hA (R.pickF rfl rfl) rfl ?_; clear hA a; intro a hA
          refine S.val hA (R.move rfl) rfl ?_; clear hA a; intro a hA
          refine S.no (dj := 103) hA (by kernel_rfl) rfl rfl rfl ?_; clear hA a; intro a hA
          refine S.no (dj := 103) hA (by kernel_rfl) rfl rfl rfl ?_; clear hA a; intro a hA
          refine S.val hA (R.pickF rfl rfl) rfl ?_; clear hA a; intro a hA
          refine S.val hA (R.move rfl) rfl ?_; clear hA a; intro a hA
          refine S.no (dj := 107) hA (by kernel_rfl) rfl rfl rfl ?_; clear hA a; intro a hA
          refine S.no (dj := 107) hA (by kernel_rfl) rfl rfl rfl ?_; clear hA a; intro a hA
          refine S.val hA (R.pickF rfl rfl) rfl ?_; clear hA a; intro a hA
          refine S.val hA (R.move rfl) rfl ?_; clear hA a; intro a hA
          refine S.no (dj := 111) hA (by kernel_rfl) rfl rfl rfl ?_; clear hA a; intro a hA
          refine S.no (dj := 111) hA (by kernel_rfl) rfl rfl rfl ?_; clear hA a; intro a hA
          refine S.no (dj := 111) hA (by kernel_rfl) rfl rfl rfl ?_; clear hA a; intro a hA
          refine S.no (dj := 111) hA (by kernel_rfl) rfl rfl rfl ?_; clear hA a; intro a hA
          refine S.no (dj := 111) hA (by kernel_rfl) rfl rfl rfl ?_; clear hA a; intro a hA
          refine S.val hA (R.pickF rfl rfl) rfl ?_; clear hA a; intro a hA
          refine S.val hA (R.assign rfl) rfl ?_; clear hA a; intro a hA
          refine S.done ?_
          replace hA : St 179 [(0, _), (1, _), (6, _), (10, _), (11, _), (15, _)] a := hA.sub ((.cons rfl (.cons rfl (.cons rfl (.cons rfl (.cons rfl (.cons rfl .nil)))))))
          exact hJ _ _ ⟨hA.sub (.cons rfl (.cons rfl (.cons rfl (.cons rfl (.cons rfl (.cons (by first | rfl | exact congrArg (fun b => some (Value.bool b)) (by first | (simp; done) | simp [hg29])) .nil)))))), hM⟩
theorem poolNews_any (slots wk rm : Int) (hi : (Lit.int .i64 slots).wf = true) (_hk : (Lit.int .i64 wk).wf = true) (_hc : (Lit.int .i64 rm).wf = true) (w : World) : Calls Try.prog 10 #[.int .i64 slots, .int .i64 wk, .int .i64 rm] w fun e w' => e = .returned (.bool true) ∧ Below w.heap.size w w' := by
  have h64 : -9223372036854775808 ≤ slots ∧ slots ≤ 9223372036854775807 := bd_i64 hi
  by_cases h : 50 < slots ∧ slots ≤ 4096
  · exact poolNews_big slots wk rm _ rfl h h64 w
  · exact poolNews_small slots wk rm h h64 w
end Go.Proofs.Ytjjbognomeplbaa
