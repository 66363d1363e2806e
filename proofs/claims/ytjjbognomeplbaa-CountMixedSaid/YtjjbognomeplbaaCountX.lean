/-
  More; the law CountMixed: however the steps of several workers come.
-/
import Derived.Test.YtjjbognomeplbaaCountA
import Derived.Test.YtjjbognomeplbaaEng6
namespace Go.Proofs.Ytjjbognomeplbaa
open Go.RowKit

set_option maxRecDepth 100000 in
set_option maxHeartbeats 400000 in
theorem cnt_More (q m c : Nat) (bs : Int) (l : List Int) (s : Int) (o : CellOp) (hbs : 0 ≤ bs ∧ bs + 1 < l.length) (hl : l.length ≤ 1000000) (hs : 0 ≤ s ∧ s < 9223372036854775807) (hmc : m ≠ c) (n : Int) (hr : -9223372036854775808 ≤ l.getD bs.toNat 0 ∧ l.getD bs.toNat 0 ≤ 9223372036854775807) (hn : -9223372036854775808 ≤ n ∧ n ≤ 9223372036854775807) (hv : -9223372036854775808 ≤ l.getD bs.toNat 0 + n ∧ l.getD bs.toNat 0 + n ≤ 9223372036854775807) (w : World) (hM : Mem w (feet [pt q #[.pointer (some ⟨m, 0, none⟩), .int .i64 bs] 108, memO m c l s o]) [pt q #[.pointer (some ⟨m, 0, none⟩), .int .i64 bs] 108, memO m c l s o] w) :
    Calls Try.prog 23 #[.pointer (some ⟨q, 0, none⟩), .int .i64 n] w fun e w' => e = .returned (.tuple #[]) ∧ Mem w (feet [pt q #[.pointer (some ⟨m, 0, none⟩), .int .i64 bs] 108, memO m c l s o]) [pt q #[.pointer (some ⟨m, 0, none⟩), .int .i64 bs] 108, memO m c ((l.set bs.toNat (l.getD bs.toNat 0 + n))) (s + 1) ⟨4, bs, l.getD bs.toNat 0, l.getD bs.toNat 0 + n, true⟩] w' := by
  have hM0 : True := trivial  -- have hM
  refine Calls.of_ends (vs := [.pointer (some ⟨q, 0, none⟩), .int .i64 n]) Try.func23 rfl Try.ntmps23 rfl ?_
  intro a hA
  replace hA : St 14 [(0, _), (1, _)] a := hA
  refine Ends.seq ?_
  refine Ends.region ?_
  refine S.val hA (R.move rfl) rfl ?_; clear hA a; intro a hA
  refine S.val hA (R.neqNil Try.underlying23 rfl rfl) rfl ?_; clear hA a; intro a hA
  refine S.done ?_
  replace hA : St 14 [(0, _), (1, _), (5, _)] a := hA.sub ((.cons rfl (.cons rfl (.cons rfl .nil))))
  refine Ends.condT hA rfl ?_
  refine Ends.drawn (Mem w (feet [pt q #[.pointer (some ⟨m, 0, none⟩), .int .i64 bs] 108, memO m c l s o]) [pt q #[.pointer (some ⟨m, 0, none⟩), .int .i64 bs] 108]) [(0, true), (1, true), (2, true), (3, true), (4, true), (6, true), (5, false), (7, false)] 8 mixed (by kernel_rfl) (by kernel_rfl) (by kernel_rfl) (hM.drop 1).drew ?_
  replace hM := hM.drew
  refine D.valF hA rfl (fun _ => R.move rfl) rfl ?_; clear hA a; intro a hA
  refine D.valF hA rfl (fun _ => R.nilCheck rfl) rfl ?_; clear hA a; intro a hA
  refine D.valF hA rfl (fun _ => R.fieldAddr (q := 0) fi108_0 rfl rfl rfl) rfl ?_; clear hA a; intro a hA
  refine D.val hA rfl (by kernel_rfl) (fun _ hM => R.load sz24 rfl (hM.cell (k := 0) rfl rfl)) rfl ?_; clear hA a; intro a hA
  refine D.valF hA rfl (fun _ => R.move rfl) rfl ?_; clear hA a; intro a hA
  refine D.valF hA rfl (fun _ => R.move rfl) rfl ?_; clear hA a; intro a hA
  refine D.call hA rfl (R.callF Try.func65 rfl rfl rfl) rfl (cnt_open q m bs (by omega) _ (hM.block (k := 0) rfl)) ?_; clear hA a
  rintro e w1 ⟨rfl, rfl⟩
  refine ⟨.int .i64 bs, rfl, (hM.drop 1), fun a hA => ?_⟩
  refine D.call hA rfl (R.callF Try.func68 rfl rfl rfl) rfl (bump_ok m c l s o hmc bs n (by omega) (by omega) hs hr hn hv _ (hM.mem (k := 1) rfl)) ?_; clear hA a
  rintro e w2 ⟨rfl, hn⟩
  replace hM : Mem _ _ [memO m c ((l.set bs.toNat (l.getD bs.toNat 0 + n))) (s + 1) ⟨4, bs, l.getD bs.toNat 0, l.getD bs.toNat 0 + n, true⟩, pt q #[.pointer (some ⟨m, 0, none⟩), .int .i64 bs] 108] _ := hM.callW (k := 1) rfl hn (fun _ h => h); clear hn
  refine ⟨.tuple #[.int .i64 (l.getD bs.toNat 0), .int .i64 0], rfl, (hM.drop 0), fun a hA => ?_⟩
  refine D.done ?_
  replace hA : St 14 [] a := hA.sub (.nil)
  refine Ends.end0 Try.func23 Try.results23 hA ?_
  replace hM := hM.front (k := 1) rfl
  replace hM : Mem _ _ [pt q #[.pointer (some ⟨m, 0, none⟩), .int .i64 bs] 108, memO m c ((l.set bs.toNat (l.getD bs.toNat 0 + n))) (s + 1) ⟨4, bs, l.getD bs.toNat 0, l.getD bs.toNat 0 + n, true⟩] _ := hM
  exact ⟨rfl, hM⟩
set_option maxRecDepth 100000 in
set_option maxHeartbeats 400000 in
theorem countMixed_w (op_ wk_ : Int) (ad : Option Addr) (n cap : Nat) (l : List Int) (hln : n = l.length) (w : World) (hsl : IntSl w (.slice ad n cap) l) :
    Calls Try.prog 5 #[.int .i64 op_, .int .i64 wk_, .slice ad n cap] w fun e w' => e = .returned (.bool true) ∧ Below w.heap.size w w' := by
  have hM := Mem.start w
  refine Calls.of_ends (vs := [.int .i64 op_, .int .i64 wk_, .slice ad n cap]) Try.func5 rfl Try.ntmps5 rfl ?_
  intro a hA
  replace hA : St 161 [(0, _), (1, _), (2, _)] a := hA
  refine Ends.seq ?_
  refine Ends.region ?_
  refine S.val hA (R.assign rfl) rfl ?_; clear hA a; intro a hA
  refine S.done ?_
  replace hA : St 161 [(0, _), (1, _), (2, _), (6, _)] a := hA.sub ((.cons rfl (.cons rfl (.cons rfl (.cons rfl .nil)))))
  refine Ends.seq ?_
  refine Ends.region ?_
  refine S.val hA (R.move rfl) rfl ?_; clear hA a; intro a hA
  refine S.val hA (R.conv Try.underlying22 Try.underlying3 rfl) rfl ?_; clear hA a; intro a hA
  refine S.val hA (R.remI rfl rfl rfl ⟨u64_nn _, by decide⟩) rfl ?_; clear hA a; intro a hA
  obtain ⟨n1, hn2, en3⟩ := umod_ex wk_ 5 (by decide)
  refine S.val hA (R.to (v := .int .i64 (n1 : Int)) (R.conv Try.underlying3 Try.underlying22 rfl) (congrArg (Value.int .i64) en3)) rfl ?_; clear hA a; intro a hA
  refine S.val hA (R.addI rfl rfl (r := (1 + (n1 : Int))) (by omega) (by omega)) rfl ?_; clear hA a; intro a hA
  refine S.val hA (R.assign rfl) rfl ?_; clear hA a; intro a hA
  refine S.done ?_
  replace hA : St 161 [(0, _), (1, _), (2, _), (6, _)] a := hA.sub ((.cons rfl (.cons rfl (.cons rfl (.cons rfl .nil)))))
  refine Ends.seq ?_
  refine Ends.region ?_
  refine S.val hA (R.move rfl) rfl ?_; clear hA a; intro a hA
  refine S.val hA (R.conv Try.underlying22 Try.underlying3 rfl) rfl ?_; clear hA a; intro a hA
  refine S.val hA (R.remI rfl rfl rfl ⟨u64_nn _, by decide⟩) rfl ?_; clear hA a; intro a hA
  obtain ⟨n4, hn5, en6⟩ := umod_ex op_ 100 (by decide)
  refine S.val hA (R.to (v := .int .i64 (n4 : Int)) (R.conv Try.underlying3 Try.underlying22 rfl) (congrArg (Value.int .i64) en6)) rfl ?_; clear hA a; intro a hA
  refine S.val hA (R.move rfl) rfl ?_; clear hA a; intro a hA
  refine S.val hA (R.build (cells := #[.int .i64 ((n4 : Int)), .int .i64 ((1 + (n1 : Int)))]) rfl (by kernel_rfl)) rfl ?_; clear hA a; intro a hA
  refine S.alloc hA hM info45 rfl rfl ?_; clear hA hM a; intro b7 w1 hb8 hM a hA
  replace hM : Mem _ _ [pt b7 #[.int .i64 0, .int .i64 0] 45] _ := hM
  refine S.storeA (k := 0) hA hM sz45 rfl rfl rfl rfl rfl rfl ?_; clear hM
  intro w2 hM
  replace hM : Mem _ _ [pt b7 #[.int .i64 ((n4 : Int)), .int .i64 ((1 + (n1 : Int)))] 45] _ := hM
  refine S.done ?_
  replace hA : St 161 [(1, _), (2, _), (6, _), (7, _)] a := hA.sub ((.cons rfl (.cons rfl (.cons rfl (.cons rfl .nil)))))
  refine Ends.seq ?_
  refine Ends.region ?_
  refine S.val hA (R.fieldAddr (q := 0) fi45_0 rfl rfl rfl) rfl ?_; clear hA a; intro a hA
  refine S.val hA (R.load sz3 rfl (hM.cell (k := 0) rfl rfl)) rfl ?_; clear hA a; intro a hA
  refine S.val hA (R.move rfl) rfl ?_; clear hA a; intro a hA
  refine S.call hA (R.callF Try.func13 rfl rfl rfl) rfl (cfresh_any ((n4 : Int)) ((1 + (n1 : Int))) (by first | omega | simp | (simp; omega)) (by first | omega | simp | (simp; omega)) _) ?_; clear hA a
  rintro e w3 ⟨q9, m10, c11, rfl, hm10c11, hn⟩
  replace hM : Mem _ _ [pt q9 #[.pointer (some ⟨m10, 0, none⟩), .int .i64 1] 108, memO m10 c11 [0, (n4 : Int), (1 + (n1 : Int)), 0] 2 ⟨2, 2, 0, (1 + (n1 : Int)), true⟩, pt b7 #[.int .i64 ((n4 : Int)), .int .i64 ((1 + (n1 : Int)))] 45] _ := hM.call hn; clear hn
  refine ⟨.tuple #[.pointer (some ⟨q9, 0, none⟩), .pointer (some ⟨m10, 0, none⟩), .bool true], rfl, fun a hA => ?_⟩
  refine S.val hA (R.move rfl) rfl ?_; clear hA a; intro a hA
  refine S.val hA (R.extract (v := .pointer (some ⟨q9, 0, none⟩)) rfl rfl) rfl ?_; clear hA a; intro a hA
  refine S.val hA (R.extract (v := .pointer (some ⟨m10, 0, none⟩)) rfl rfl) rfl ?_; clear hA a; intro a hA
  refine S.val hA (R.extract (v := .bool true) rfl rfl) rfl ?_; clear hA a; intro a hA
  refine S.val hA (R.assign rfl) rfl ?_; clear hA a; intro a hA
  refine S.val hA (R.assign rfl) rfl ?_; clear hA a; intro a hA
  refine S.val hA (R.assign rfl) rfl ?_; clear hA a; intro a hA
  refine S.done ?_
  replace hA : St 161 [(1, _), (2, _), (6, _), (7, _), (8, _), (9, _), (10, _)] a := hA.sub ((.cons rfl (.cons rfl (.cons rfl (.cons rfl (.cons rfl (.cons rfl (.cons rfl .nil))))))))
  refine Ends.seq ?_
  refine Ends.seq ?_
  refine Ends.region ?_
  refine S.call hA (R.callF Try.func14 rfl rfl rfl) rfl (ccounts_any _) ?_; clear hA a
  rintro e w4 ⟨rfl, hb⟩
  replace hM := hM.callB hb; clear hb
  refine ⟨.bool true, rfl, fun a hA => ?_⟩
  refine S.val hA (R.not rfl) rfl ?_; clear hA a; intro a hA
  refine S.val hA (R.move rfl) rfl ?_; clear hA a; intro a hA
  refine S.valg (dj := 39) hA (by kernel_rfl) rfl (R.move rfl) rfl ?_; clear hA a; intro a hA
  refine S.valg (dj := 39) hA (by kernel_rfl) rfl (R.not rfl) rfl ?_; clear hA a; intro a hA
  refine S.val hA (R.pickF rfl rfl) rfl ?_; clear hA a; intro a hA
  refine S.done ?_
  replace hA : St 161 [(1, _), (2, _), (6, _), (7, _), (8, _), (9, _), (42, _)] a := hA.sub ((.cons rfl (.cons rfl (.cons rfl (.cons rfl (.cons rfl (.cons rfl (.cons rfl .nil))))))))
  refine Ends.condF hA rfl ?_
  refine Ends.skip ?_
  refine Ends.seq ?_
  refine Ends.region ?_
  refine S.alloc hA hM info46 rfl rfl ?_; clear hA hM a; intro b12 w5 hb13 hM a hA
  replace hM : Mem _ _ [pt b12 #[.pointer none, .pointer none, .pointer none, .pointer none, .pointer none] 46, pt q9 #[.pointer (some ⟨m10, 0, none⟩), .int .i64 1] 108, memO m10 c11 [0, (n4 : Int), (1 + (n1 : Int)), 0] 2 ⟨2, 2, 0, (1 + (n1 : Int)), true⟩, pt b7 #[.int .i64 ((n4 : Int)), .int .i64 ((1 + (n1 : Int)))] 45] _ := hM
  refine S.done ?_
  replace hA : St 161 [(1, _), (2, _), (6, _), (7, _), (8, _), (9, _), (11, _)] a := hA.sub ((.cons rfl (.cons rfl (.cons rfl (.cons rfl (.cons rfl (.cons rfl (.cons rfl .nil))))))))
  refine Ends.seq ?_
  refine Ends.seq ?_
  refine Ends.region ?_
  refine S.val hA (R.assign rfl) rfl ?_; clear hA a; intro a hA
  refine S.done ?_
  replace hA : St 161 [(1, _), (2, _), (6, _), (7, _), (8, _), (9, _), (11, _), (12, _)] a := hA.sub ((.cons rfl (.cons rfl (.cons rfl (.cons rfl (.cons rfl (.cons rfl (.cons rfl (.cons rfl .nil)))))))))
  refine Ends.block ?_
  replace hM := hM.front (k := 3) rfl
  replace hM := hM.front (k := 3) rfl
  replace hM := hM.front (k := 3) rfl
  replace hM : Mem _ _ [pt q9 #[.pointer (some ⟨m10, 0, none⟩), .int .i64 1] 108, memO m10 c11 [0, (n4 : Int), (1 + (n1 : Int)), 0] 2 ⟨2, 2, 0, (1 + (n1 : Int)), true⟩, pt b7 #[.int .i64 ((n4 : Int)), .int .i64 ((1 + (n1 : Int)))] 45, pt b12 #[.pointer none, .pointer none, .pointer none, .pointer none, .pointer none] 46] _ := hM
  replace hM := (hM.firstN 4).emps 5
  replace hM : Mem _ _ [bundle (List.replicate 5 emp), pt q9 #[.pointer (some ⟨m10, 0, none⟩), .int .i64 1] 108, memO m10 c11 [0, (n4 : Int), (1 + (n1 : Int)), 0] 2 ⟨2, 2, 0, (1 + (n1 : Int)), true⟩, pt b7 #[.int .i64 ((n4 : Int)), .int .i64 ((1 + (n1 : Int)))] 45, pt b12 #[.pointer none, .pointer none, .pointer none, .pointer none, .pointer none] 46] _ := hM
  refine Ends.loop (σ := Nat × Int × Int × List AcS × Int × CellOp) (fun (k, x, y, xs, s, op) (a : Act) (wv : World) => St 161 [(1, .int .i64 ((1 + (n1 : Int)))), (2, .slice ad n cap), (7, .pointer (some ⟨b7, 0, none⟩)), (8, .pointer (some ⟨q9, 0, none⟩)), (9, .pointer (some ⟨m10, 0, none⟩)), (11, .pointer (some ⟨b12, 0, none⟩)), (12, .int .i64 ((k : Int)))] a ∧ Mem w nof [bundle (xs.map (actC q9)), pt q9 #[.pointer (some ⟨m10, 0, none⟩), .int .i64 1] 108, memO m10 c11 [0, x, y, 0] s op, pt b7 #[.int .i64 x, .int .i64 y] 45, pt b12 ((vals (xs.map actV))) 46] wv ∧ (k ≤ 100) ∧ (-2 * k ≤ x ∧ x ≤ 100 + 4 * k) ∧ (1 ≤ y ∧ y ≤ 5) ∧ (xs.length = 5) ∧ (∀ x ∈ xs, AcOK x) ∧ (2 ≤ s ∧ s ≤ 2 + k)) (fun (k, x, y, xs, s, op) => 100 - k) ((0, (n4 : Int), (1 + (n1 : Int)), List.replicate 5 none, 2, ⟨2, 2, 0, (1 + (n1 : Int)), true⟩)) ⟨hA.sub ((.cons rfl (.cons rfl (.cons rfl (.cons rfl (.cons rfl (.cons rfl (.cons rfl .nil)))))))), hM, (by omega), (by omega), (by omega), rfl, (fun x hx => by rw [List.eq_of_mem_replicate hx]; trivial), (by omega)⟩ ?_
  clear hA hM a
  rintro ⟨k, x, y, xs, s, op⟩ a w6 ⟨hA, hM, hk, hx, hy, hxlen, hxok, hs⟩ hNext
  refine Ends.seq ?_
  refine Ends.seq ?_
  refine Ends.cut (fun (a : Act) (wv : World) => St 161 [(1, .int .i64 ((1 + (n1 : Int)))), (2, .slice ad n cap), (7, .pointer (some ⟨b7, 0, none⟩)), (8, .pointer (some ⟨q9, 0, none⟩)), (9, .pointer (some ⟨m10, 0, none⟩)), (11, .pointer (some ⟨b12, 0, none⟩)), (12, .int .i64 ((k : Int))), (50, .bool (decide ((((k : Int)) < ((n : Int)) ∧ ((k : Int)) < 100))))] a ∧ Mem w nof [bundle (xs.map (actC q9)), pt q9 #[.pointer (some ⟨m10, 0, none⟩), .int .i64 1] 108, memO m10 c11 [0, x, y, 0] s op, pt b7 #[.int .i64 x, .int .i64 y] 45, pt b12 ((vals (xs.map actV))) 46] wv) ?_ (fun k2 hJ => ?_)
  · clear hA hM a; rintro a w7 ⟨hA, hM⟩
    refine Ends.ite hA rfl (fun hc14 => ?_) (fun hc14 => ?_)
    ·
      refine Ends.skip ?_
      refine Ends.seq ?_
      refine Ends.block ?_
      refine Ends.seq ?_
      obtain ⟨g, off, hg, hcell⟩ := hsl.at (i := k) (by omega)
      subst hg
      refine Ends.region ?_
      refine S.val hA (R.move rfl) rfl ?_; clear hA a; intro a hA
      refine S.val hA (R.move rfl) rfl ?_; clear hA a; intro a hA
      refine S.val hA (R.indexAddr (q := off + k) sl43 rfl rfl (by omega) (by omega)) rfl ?_; clear hA a; intro a hA
      refine S.val hA (R.load sz3 rfl (hM.cell0 hcell (fun h => h))) rfl ?_; clear hA a; intro a hA
      refine S.val hA (R.conv Try.underlying22 Try.underlying3 rfl) rfl ?_; clear hA a; intro a hA
      refine S.val hA (R.remI rfl rfl rfl ⟨u64_nn _, by decide⟩) rfl ?_; clear hA a; intro a hA
      obtain ⟨n15, hn16, en17⟩ := umod_ex (l.getD k 0) 8 (by decide)
      refine S.val hA (R.to (v := .int .i64 (n15 : Int)) (R.conv Try.underlying3 Try.underlying22 rfl) (congrArg (Value.int .i64) en17)) rfl ?_; clear hA a; intro a hA
      refine S.val hA (R.assign rfl) rfl ?_; clear hA a; intro a hA
      refine S.done ?_
      replace hA : St 161 [(1, _), (2, _), (7, _), (8, _), (9, _), (11, _), (12, _), (13, _), (50, _), (53, _), (54, _), (55, _), (56, _), (57, _), (58, _), (59, _)] a := hA.sub ((.cons rfl (.cons rfl (.cons rfl (.cons rfl (.cons rfl (.cons rfl (.cons rfl (.cons rfl (.cons rfl (.cons rfl (.cons rfl (.cons rfl (.cons rfl (.cons rfl (.cons rfl (.cons rfl .nil)))))))))))))))))
      refine Ends.seq ?_
      refine Ends.region ?_
      refine S.val hA (R.move rfl) rfl ?_; clear hA a; intro a hA
      refine S.call hA (R.callF Try.func27 rfl rfl rfl) rfl (steps_ok m10 c11 [0, x, y, 0] s op hm10c11 _ (hM.mem (k := 2) rfl)) ?_; clear hA a
      rintro e w8 ⟨rfl, rfl⟩
      refine ⟨.int .i64 s, rfl, fun a hA => ?_⟩
      refine S.val hA (R.assign rfl) rfl ?_; clear hA a; intro a hA
      refine S.done ?_
      replace hA : St 161 [(1, _), (2, _), (7, _), (8, _), (9, _), (11, _), (12, _), (13, _), (14, _), (50, _), (53, _), (54, _), (55, _), (56, _), (57, _), (58, _), (59, _), (60, _), (61, _)] a := hA.sub ((.cons rfl (.cons rfl (.cons rfl (.cons rfl (.cons rfl (.cons rfl (.cons rfl (.cons rfl (.cons rfl (.cons rfl (.cons rfl (.cons rfl (.cons rfl (.cons rfl (.cons rfl (.cons rfl (.cons rfl (.cons rfl (.cons rfl .nil))))))))))))))))))))
      refine Ends.seq ?_
      refine Ends.block ?_
      refine Ends.seq ?_
      refine Ends.region ?_
      refine S.val hA (R.move rfl) rfl ?_; clear hA a; intro a hA
      refine S.val hA (R.eql rfl rfl) rfl ?_; clear hA a; intro a hA
      refine S.val hA (R.assign rfl) rfl ?_; clear hA a; intro a hA
      refine S.done ?_
      replace hA : St 161 [(1, _), (2, _), (7, _), (8, _), (9, _), (11, _), (12, _), (13, _), (14, _), (50, _), (53, _), (54, _), (55, _), (56, _), (57, _), (58, _), (59, _), (60, _), (61, _), (62, _), (63, _), (64, _)] a := hA.sub ((.cons rfl (.cons rfl (.cons rfl (.cons rfl (.cons rfl (.cons rfl (.cons rfl (.cons rfl (.cons rfl (.cons rfl (.cons rfl (.cons rfl (.cons rfl (.cons rfl (.cons rfl (.cons rfl (.cons rfl (.cons rfl (.cons rfl (.cons rfl (.cons rfl (.cons rfl .nil)))))))))))))))))))))))
      refine Ends.ite hA rfl (fun hc18 => ?_) (fun hc18 => ?_)
      ·
        refine Ends.seq ?_
        refine Ends.region ?_
        refine S.val hA (R.move rfl) rfl ?_; clear hA a; intro a hA
        refine S.val hA (R.remI rfl rfl rfl (by omega)) rfl ?_; clear hA a; intro a hA
        refine S.val hA (R.subI rfl rfl (r := (((k : Int)) % 7) - 2) rfl (by omega)) rfl ?_; clear hA a; intro a hA
        refine S.val hA (R.assign rfl) rfl ?_; clear hA a; intro a hA
        refine S.done ?_
        replace hA : St 161 [(1, _), (2, _), (7, _), (8, _), (9, _), (11, _), (12, _), (13, _), (14, _), (15, _), (50, _), (53, _), (54, _), (55, _), (56, _), (57, _), (58, _), (59, _), (60, _), (61, _), (62, _), (63, _), (64, _), (65, _), (66, _), (67, _)] a := hA.sub ((.cons rfl (.cons rfl (.cons rfl (.cons rfl (.cons rfl (.cons rfl (.cons rfl (.cons rfl (.cons rfl (.cons rfl (.cons rfl (.cons rfl (.cons rfl (.cons rfl (.cons rfl (.cons rfl (.cons rfl (.cons rfl (.cons rfl (.cons rfl (.cons rfl (.cons rfl (.cons rfl (.cons rfl (.cons rfl (.cons rfl .nil)))))))))))))))))))))))))))
        refine Ends.seq ?_
        refine Ends.region ?_
        refine S.val hA (R.move rfl) rfl ?_; clear hA a; intro a hA
        refine S.val hA (R.move rfl) rfl ?_; clear hA a; intro a hA
        replace hM := hM.front (k := 2) rfl
        replace hM := hM.front (k := 2) rfl
        replace hM : Mem _ _ [pt q9 #[.pointer (some ⟨m10, 0, none⟩), .int .i64 1] 108, memO m10 c11 [0, x, y, 0] s op, bundle (xs.map (actC q9)), pt b7 #[.int .i64 x, .int .i64 y] 45, pt b12 ((vals (xs.map actV))) 46] _ := hM
        refine S.call hA (R.callF Try.func23 rfl rfl rfl) rfl (cnt_More q9 m10 c11 1 [0, x, y, 0] s op (by first | omega | simp | (simp; omega)) (by first | omega | simp | (simp; omega)) (by first | omega | simp | (simp; omega)) hm10c11 ((((k : Int)) % 7) - 2) (by show -9223372036854775808 ≤ x ∧ x ≤ 9223372036854775807; omega) (by show -9223372036854775808 ≤ (((k : Int)) % 7) - 2 ∧ (((k : Int)) % 7) - 2 ≤ 9223372036854775807; omega) (by show -9223372036854775808 ≤ x + ((((k : Int)) % 7) - 2) ∧ x + ((((k : Int)) % 7) - 2) ≤ 9223372036854775807; omega) _ (hM.hereN 2)) ?_; clear hA a
        rintro e w9 ⟨rfl, hn⟩
        replace hM : Mem _ _ [pt q9 #[.pointer (some ⟨m10, 0, none⟩), .int .i64 1] 108, memO m10 c11 [0, x + ((((k : Int)) % 7) - 2), y, 0] (s + 1) ⟨4, 1, x, x + ((((k : Int)) % 7) - 2), true⟩, bundle (xs.map (actC q9)), pt b7 #[.int .i64 x, .int .i64 y] 45, pt b12 ((vals (xs.map actV))) 46] _ := hM.callL 2 hn; clear hn
        refine ⟨.tuple #[], rfl, fun a hA => ?_⟩
        refine S.done ?_
        replace hA : St 161 [(1, _), (2, _), (7, _), (8, _), (9, _), (11, _), (12, _), (13, _), (14, _), (15, _), (50, _), (53, _), (54, _), (55, _), (56, _), (57, _), (58, _), (59, _), (60, _), (61, _), (62, _), (63, _), (64, _), (65, _), (66, _), (67, _), (68, _), (69, _)] a := hA.sub ((.cons rfl (.cons rfl (.cons rfl (.cons rfl (.cons rfl (.cons rfl (.cons rfl (.cons rfl (.cons rfl (.cons rfl (.cons rfl (.cons rfl (.cons rfl (.cons rfl (.cons rfl (.cons rfl (.cons rfl (.cons rfl (.cons rfl (.cons rfl (.cons rfl (.cons rfl (.cons rfl (.cons rfl (.cons rfl (.cons rfl (.cons rfl (.cons rfl .nil)))))))))))))))))))))))))))))
        refine Ends.region ?_
        refine S.val hA (R.fieldAddr (q := 0) fi45_0 rfl rfl rfl) rfl ?_; clear hA a; intro a hA
        refine S.val hA (R.load sz3 rfl (hM.cell (k := 3) rfl rfl)) rfl ?_; clear hA a; intro a hA
        refine S.val hA (R.move rfl) rfl ?_; clear hA a; intro a hA
        refine S.val hA (R.addI rfl rfl (r := x + ((((k : Int)) % 7) - 2)) rfl (by omega)) rfl ?_; clear hA a; intro a hA
        refine S.val hA (R.fieldAddr (q := 0) fi45_0 rfl rfl rfl) rfl ?_; clear hA a; intro a hA
        refine S.store (k := 3) hA hM sz3 rfl rfl rfl rfl rfl ?_; clear hM
        intro w10 hM
        replace hM : Mem _ _ [pt q9 #[.pointer (some ⟨m10, 0, none⟩), .int .i64 1] 108, memO m10 c11 [0, x + ((((k : Int)) % 7) - 2), y, 0] (s + 1) ⟨4, 1, x, x + ((((k : Int)) % 7) - 2), true⟩, bundle (xs.map (actC q9)), pt b7 #[.int .i64 (x + ((((k : Int)) % 7) - 2)), .int .i64 y] 45, pt b12 ((vals (xs.map actV))) 46] _ := hM
        refine S.done ?_
        replace hA : St 161 [(1, _), (2, _), (7, _), (8, _), (9, _), (11, _), (12, _), (13, _), (14, _), (15, _), (50, _), (53, _), (54, _), (55, _), (56, _), (57, _), (58, _), (59, _), (60, _), (61, _), (62, _), (63, _), (64, _), (65, _), (66, _), (67, _), (68, _), (69, _), (71, _), (72, _), (73, _), (74, _), (75, _)] a := hA.sub ((.cons rfl (.cons rfl (.cons rfl (.cons rfl (.cons rfl (.cons rfl (.cons rfl (.cons rfl (.cons rfl (.cons rfl (.cons rfl (.cons rfl (.cons rfl (.cons rfl (.cons rfl (.cons rfl (.cons rfl (.cons rfl (.cons rfl (.cons rfl (.cons rfl (.cons rfl (.cons rfl (.cons rfl (.cons rfl (.cons rfl (.cons rfl (.cons rfl (.cons rfl (.cons rfl (.cons rfl (.cons rfl (.cons rfl .nil))))))))))))))))))))))))))))))))))
        refine Ends.inBlock ?_
        refine Ends.seq ?_
        refine Ends.seq ?_
        refine Ends.region ?_
        refine S.val hA (R.move rfl) rfl ?_; clear hA a; intro a hA
        refine S.val hA (R.tt (R.geq rfl rfl) (by omega)) rfl ?_; clear hA a; intro a hA
        refine S.val hA (R.move rfl) rfl ?_; clear hA a; intro a hA
        refine S.valg (dj := 135) hA (by kernel_rfl) rfl (R.move rfl) rfl ?_; clear hA a; intro a hA
        refine S.callg (dj := 135) hA (by kernel_rfl) rfl (R.callF Try.func27 rfl rfl rfl) rfl (steps_ok m10 c11 [0, x + ((((k : Int)) % 7) - 2), y, 0] (s + 1) ⟨4, 1, x, x + ((((k : Int)) % 7) - 2), true⟩ hm10c11 _ (hM.mem (k := 1) rfl)) ?_; clear hA a
        rintro e w11 ⟨rfl, rfl⟩
        refine ⟨.int .i64 (s + 1), rfl, fun a hA => ?_⟩
        refine S.valg (dj := 135) hA (by kernel_rfl) rfl (R.move rfl) rfl ?_; clear hA a; intro a hA
        refine S.valg (dj := 135) hA (by kernel_rfl) rfl (R.addI rfl rfl (r := s + 1) rfl (by omega)) rfl ?_; clear hA a; intro a hA
        refine S.valg (dj := 135) hA (by kernel_rfl) rfl (R.ff (R.neq rfl rfl) (by omega)) rfl ?_; clear hA a; intro a hA
        refine S.val hA (R.pickT rfl rfl) rfl ?_; clear hA a; intro a hA
        refine S.done ?_
        replace hA : St 161 [(1, _), (2, _), (7, _), (8, _), (9, _), (11, _), (12, _), (13, _), (14, _), (15, _), (50, _), (53, _), (54, _), (55, _), (56, _), (57, _), (58, _), (59, _), (60, _), (61, _), (62, _), (63, _), (64, _), (65, _), (66, _), (67, _), (68, _), (69, _), (71, _), (72, _), (73, _), (74, _), (75, _), (133, _), (134, _), (135, _), (136, _), (137, _), (138, _), (139, _), (140, _), (141, _)] a := hA.sub ((.cons rfl (.cons rfl (.cons rfl (.cons rfl (.cons rfl (.cons rfl (.cons rfl (.cons rfl (.cons rfl (.cons rfl (.cons rfl (.cons rfl (.cons rfl (.cons rfl (.cons rfl (.cons rfl (.cons rfl (.cons rfl (.cons rfl (.cons rfl (.cons rfl (.cons rfl (.cons rfl (.cons rfl (.cons rfl (.cons rfl (.cons rfl (.cons rfl (.cons rfl (.cons rfl (.cons rfl (.cons rfl (.cons rfl (.cons rfl (.cons rfl (.cons rfl (.cons rfl (.cons rfl (.cons rfl (.cons rfl (.cons rfl (.cons rfl .nil)))))))))))))))))))))))))))))))))))))))))))
        refine Ends.condF hA rfl ?_
        refine Ends.skip ?_
        refine Ends.seq ?_
        refine Ends.region ?_
        refine S.val hA (R.move rfl) rfl ?_; clear hA a; intro a hA
        refine S.call hA (R.callF Try.func19 rfl rfl rfl) rfl (cnt_Now q9 m10 c11 1 [0, x + ((((k : Int)) % 7) - 2), y, 0] (s + 1) ⟨4, 1, x, x + ((((k : Int)) % 7) - 2), true⟩ (by first | omega | simp | (simp; omega)) (by first | omega | simp | (simp; omega)) (by first | omega | simp | (simp; omega)) hm10c11 _ (hM.hereN 2)) ?_; clear hA a
        rintro e w12 ⟨rfl, hn⟩
        replace hM : Mem _ _ [pt q9 #[.pointer (some ⟨m10, 0, none⟩), .int .i64 1] 108, memO m10 c11 [0, x + ((((k : Int)) % 7) - 2), y, 0] (s + 1) ⟨4, 1, x, x + ((((k : Int)) % 7) - 2), true⟩, bundle (xs.map (actC q9)), pt b7 #[.int .i64 (x + ((((k : Int)) % 7) - 2)), .int .i64 y] 45, pt b12 ((vals (xs.map actV))) 46] _ := hM.callL 2 hn; clear hn
        refine ⟨.tuple #[.int .i64 (x + ((((k : Int)) % 7) - 2)), .int .i64 y], rfl, fun a hA => ?_⟩
        refine S.val hA (R.move rfl) rfl ?_; clear hA a; intro a hA
        refine S.val hA (R.extract (v := .int .i64 (x + ((((k : Int)) % 7) - 2))) rfl rfl) rfl ?_; clear hA a; intro a hA
        refine S.val hA (R.extract (v := .int .i64 y) rfl rfl) rfl ?_; clear hA a; intro a hA
        refine S.val hA (R.assign rfl) rfl ?_; clear hA a; intro a hA
        refine S.val hA (R.assign rfl) rfl ?_; clear hA a; intro a hA
        refine S.done ?_
        replace hA : St 161 [(1, _), (2, _), (7, _), (8, _), (9, _), (11, _), (12, _), (13, _), (14, _), (15, _), (16, _), (17, _), (50, _), (53, _), (54, _), (55, _), (56, _), (57, _), (58, _), (59, _), (60, _), (61, _), (62, _), (63, _), (64, _), (65, _), (66, _), (67, _), (68, _), (69, _), (71, _), (72, _), (73, _), (74, _), (75, _), (133, _), (134, _), (135, _), (136, _), (137, _), (138, _), (139, _), (140, _), (141, _), (142, _), (143, _), (144, _), (145, _), (146, _)] a := hA.sub ((.cons rfl (.cons rfl (.cons rfl (.cons rfl (.cons rfl (.cons rfl (.cons rfl (.cons rfl (.cons rfl (.cons rfl (.cons rfl (.cons rfl (.cons rfl (.cons rfl (.cons rfl (.cons rfl (.cons rfl (.cons rfl (.cons rfl (.cons rfl (.cons rfl (.cons rfl (.cons rfl (.cons rfl (.cons rfl (.cons rfl (.cons rfl (.cons rfl (.cons rfl (.cons rfl (.cons rfl (.cons rfl (.cons rfl (.cons rfl (.cons rfl (.cons rfl (.cons rfl (.cons rfl (.cons rfl (.cons rfl (.cons rfl (.cons rfl (.cons rfl (.cons rfl (.cons rfl (.cons rfl (.cons rfl (.cons rfl (.cons rfl .nil))))))))))))))))))))))))))))))))))))))))))))))))))
        refine Ends.seq ?_
        refine Ends.region ?_
        refine S.val hA (R.move rfl) rfl ?_; clear hA a; intro a hA
        refine S.val hA (R.fieldAddr (q := 0) fi45_0 rfl rfl rfl) rfl ?_; clear hA a; intro a hA
        refine S.val hA (R.load sz3 rfl (hM.cell (k := 3) rfl rfl)) rfl ?_; clear hA a; intro a hA
        refine S.val hA (R.ff (R.neq rfl rfl) (by omega)) rfl ?_; clear hA a; intro a hA
        refine S.val hA (R.move rfl) rfl ?_; clear hA a; intro a hA
        refine S.valg (dj := 151) hA (by kernel_rfl) rfl (R.move rfl) rfl ?_; clear hA a; intro a hA
        refine S.valg (dj := 151) hA (by kernel_rfl) rfl (R.fieldAddr (q := 1) fi45_1 rfl rfl rfl) rfl ?_; clear hA a; intro a hA
        refine S.valg (dj := 151) hA (by kernel_rfl) rfl (R.load sz3 rfl (hM.cell (k := 3) rfl rfl)) rfl ?_; clear hA a; intro a hA
        refine S.valg (dj := 151) hA (by kernel_rfl) rfl (R.ff (R.neq rfl rfl) (by omega)) rfl ?_; clear hA a; intro a hA
        refine S.val hA (R.pickF rfl rfl) rfl ?_; clear hA a; intro a hA
        refine S.val hA (R.move rfl) rfl ?_; clear hA a; intro a hA
        refine S.valg (dj := 157) hA (by kernel_rfl) rfl (R.move rfl) rfl ?_; clear hA a; intro a hA
        refine S.valg (dj := 157) hA (by kernel_rfl) rfl (R.ff (R.lss rfl rfl) (by omega)) rfl ?_; clear hA a; intro a hA
        refine S.val hA (R.pickF rfl rfl) rfl ?_; clear hA a; intro a hA
        refine S.done ?_
        replace hA : St 161 [(1, _), (2, _), (7, _), (8, _), (9, _), (11, _), (12, _), (13, _), (14, _), (15, _), (16, _), (17, _), (50, _), (53, _), (54, _), (55, _), (56, _), (57, _), (58, _), (59, _), (60, _), (61, _), (62, _), (63, _), (64, _), (65, _), (66, _), (67, _), (68, _), (69, _), (71, _), (72, _), (73, _), (74, _), (75, _), (133, _), (134, _), (135, _), (136, _), (137, _), (138, _), (139, _), (140, _), (141, _), (142, _), (143, _), (144, _), (145, _), (146, _), (147, _), (148, _), (149, _), (150, _), (151, _), (152, _), (153, _), (154, _), (155, _), (156, _), (157, _), (158, _), (159, _), (160, _)] a := hA.sub ((.cons rfl (.cons rfl (.cons rfl (.cons rfl (.cons rfl (.cons rfl (.cons rfl (.cons rfl (.cons rfl (.cons rfl (.cons rfl (.cons rfl (.cons rfl (.cons rfl (.cons rfl (.cons rfl (.cons rfl (.cons rfl (.cons rfl (.cons rfl (.cons rfl (.cons rfl (.cons rfl (.cons rfl (.cons rfl (.cons rfl (.cons rfl (.cons rfl (.cons rfl (.cons rfl (.cons rfl (.cons rfl (.cons rfl (.cons rfl (.cons rfl (.cons rfl (.cons rfl (.cons rfl (.cons rfl (.cons rfl (.cons rfl (.cons rfl (.cons rfl (.cons rfl (.cons rfl (.cons rfl (.cons rfl (.cons rfl (.cons rfl (.cons rfl (.cons rfl (.cons rfl (.cons rfl (.cons rfl (.cons rfl (.cons rfl (.cons rfl (.cons rfl (.cons rfl (.cons rfl (.cons rfl (.cons rfl (.cons rfl .nil))))))))))))))))))))))))))))))))))))))))))))))))))))))))))))))))
        refine Ends.condF hA rfl ?_
        refine Ends.skip ?_
        refine Ends.inBlock ?_
        refine Ends.region ?_
        refine S.val hA (R.move rfl) rfl ?_; clear hA a; intro a hA
        refine S.val hA (R.addI rfl rfl (r := ((k : Int)) + 1) rfl (by omega)) rfl ?_; clear hA a; intro a hA
        refine S.val hA (R.assign rfl) rfl ?_; clear hA a; intro a hA
        refine S.done ?_
        replace hA : St 161 [(1, _), (2, _), (7, _), (8, _), (9, _), (11, _), (12, _), (13, _), (14, _), (15, _), (16, _), (17, _), (50, _), (51, _), (52, _), (53, _), (54, _), (55, _), (56, _), (57, _), (58, _), (59, _), (60, _), (61, _), (62, _), (63, _), (64, _), (65, _), (66, _), (67, _), (68, _), (69, _), (71, _), (72, _), (73, _), (74, _), (75, _), (133, _), (134, _), (135, _), (136, _), (137, _), (138, _), (139, _), (140, _), (141, _), (142, _), (143, _), (144, _), (145, _), (146, _), (147, _), (148, _), (149, _), (150, _), (151, _), (152, _), (153, _), (154, _), (155, _), (156, _), (157, _), (158, _), (159, _), (160, _)] a := hA.sub ((.cons rfl (.cons rfl (.cons rfl (.cons rfl (.cons rfl (.cons rfl (.cons rfl (.cons rfl (.cons rfl (.cons rfl (.cons rfl (.cons rfl (.cons rfl (.cons rfl (.cons rfl (.cons rfl (.cons rfl (.cons rfl (.cons rfl (.cons rfl (.cons rfl (.cons rfl (.cons rfl (.cons rfl (.cons rfl (.cons rfl (.cons rfl (.cons rfl (.cons rfl (.cons rfl (.cons rfl (.cons rfl (.cons rfl (.cons rfl (.cons rfl (.cons rfl (.cons rfl (.cons rfl (.cons rfl (.cons rfl (.cons rfl (.cons rfl (.cons rfl (.cons rfl (.cons rfl (.cons rfl (.cons rfl (.cons rfl (.cons rfl (.cons rfl (.cons rfl (.cons rfl (.cons rfl (.cons rfl (.cons rfl (.cons rfl (.cons rfl (.cons rfl (.cons rfl (.cons rfl (.cons rfl (.cons rfl (.cons rfl (.cons rfl (.cons rfl .nil))))))))))))))))))))))))))))))))))))))))))))))))))))))))))))))))))
        replace hM := hM.front (k := 4) rfl
        replace hM := hM.front (k := 4) rfl
        replace hM := hM.front (k := 3) rfl
        replace hM := hM.front (k := 3) rfl
        replace hM := hM.front (k := 4) rfl
        replace hM : Mem _ _ [bundle (xs.map (actC q9)), pt q9 #[.pointer (some ⟨m10, 0, none⟩), .int .i64 1] 108, memO m10 c11 [0, x + ((((k : Int)) % 7) - 2), y, 0] (s + 1) ⟨4, 1, x, x + ((((k : Int)) % 7) - 2), true⟩, pt b7 #[.int .i64 (x + ((((k : Int)) % 7) - 2)), .int .i64 y] 45, pt b12 ((vals (xs.map actV))) 46] _ := hM
        replace hM : Mem _ _ [bundle (xs.map (actC q9)), pt q9 #[.pointer (some ⟨m10, 0, none⟩), .int .i64 1] 108, memO m10 c11 [0, x + ((((k : Int)) % 7) - 2), y, 0] (s + 1) ⟨4, 1, x, x + ((((k : Int)) % 7) - 2), true⟩, pt b7 #[.int .i64 (x + ((((k : Int)) % 7) - 2)), .int .i64 y] 45, pt b12 ((vals (xs.map actV))) 46] _ := hM.firstN 5
        exact hNext ((k + 1, x + ((((k : Int)) % 7) - 2), y, xs, s + 1, ⟨4, 1, x, x + ((((k : Int)) % 7) - 2), true⟩)) _ _ ((by show 100 - (k + 1) < 100 - k; omega)) ⟨hA.sub ((.cons rfl (.cons rfl (.cons rfl (.cons rfl (.cons rfl (.cons rfl (.cons rfl .nil)))))))), hM, (by omega), (by omega), (by omega), hxlen, hxok, (by omega)⟩
      ·
        refine Ends.seq ?_
        refine Ends.region ?_
        refine S.val hA (R.move rfl) rfl ?_; clear hA a; intro a hA
        refine S.val hA (R.eql rfl rfl) rfl ?_; clear hA a; intro a hA
        refine S.val hA (R.assign rfl) rfl ?_; clear hA a; intro a hA
        refine S.done ?_
        replace hA : St 161 [(1, _), (2, _), (7, _), (8, _), (9, _), (11, _), (12, _), (13, _), (14, _), (50, _), (53, _), (54, _), (55, _), (56, _), (57, _), (58, _), (59, _), (60, _), (61, _), (62, _), (63, _), (64, _), (76, _), (77, _), (78, _)] a := hA.sub ((.cons rfl (.cons rfl (.cons rfl (.cons rfl (.cons rfl (.cons rfl (.cons rfl (.cons rfl (.cons rfl (.cons rfl (.cons rfl (.cons rfl (.cons rfl (.cons rfl (.cons rfl (.cons rfl (.cons rfl (.cons rfl (.cons rfl (.cons rfl (.cons rfl (.cons rfl (.cons rfl (.cons rfl (.cons rfl .nil))))))))))))))))))))))))))
        refine Ends.ite hA rfl (fun hc19 => ?_) (fun hc19 => ?_)
        ·
          refine Ends.seq ?_
          replace hM := hM.front (k := 2) rfl
          replace hM := hM.front (k := 2) rfl
          replace hM : Mem _ _ [pt q9 #[.pointer (some ⟨m10, 0, none⟩), .int .i64 1] 108, memO m10 c11 [0, x, y, 0] s op, bundle (xs.map (actC q9)), pt b7 #[.int .i64 x, .int .i64 y] 45, pt b12 ((vals (xs.map actV))) 46] _ := hM
          refine Ends.drawn (Mem w nof [pt q9 #[.pointer (some ⟨m10, 0, none⟩), .int .i64 1] 108, pt b7 #[.int .i64 x, .int .i64 y] 45, pt b12 ((vals (xs.map actV))) 46]) [(0, true), (2, true), (3, true), (1, false), (4, true)] 5 mixed (by kernel_rfl) (by kernel_rfl) (by kernel_rfl) ((hM.drop 2).drop 1).drew ?_
          replace hM := hM.drew
          refine D.valF hA rfl (fun _ => R.move rfl) rfl ?_; clear hA a; intro a hA
          refine D.valF hA rfl (fun _ => R.fieldAddr (q := 0) fi45_0 rfl rfl rfl) rfl ?_; clear hA a; intro a hA
          refine D.val hA rfl (by kernel_rfl) (fun _ hM => R.load sz3 rfl (hM.cell (k := 1) rfl rfl)) rfl ?_; clear hA a; intro a hA
          refine D.call hA rfl (R.callF Try.func24 rfl rfl rfl) rfl (cnt_Open q9 m10 c11 1 [0, x, y, 0] s op (by first | omega | simp | (simp; omega)) (by first | omega | simp | (simp; omega)) (by first | omega | simp | (simp; omega)) hm10c11 _ (hM.hereN 2)) ?_; clear hA a
          rintro e w13 ⟨rfl, hn⟩
          replace hM : Mem _ _ [pt q9 #[.pointer (some ⟨m10, 0, none⟩), .int .i64 1] 108, memO m10 c11 [0, x, y, 0] (s + 1) ⟨1, 1, x, x, true⟩, bundle (xs.map (actC q9)), pt b7 #[.int .i64 x, .int .i64 y] 45, pt b12 ((vals (xs.map actV))) 46] _ := hM.callL 2 hn; clear hn
          refine ⟨.int .i64 x, rfl, ((hM.drop 2).drop 1), fun a hA => ?_⟩
          refine D.valF hA rfl (fun _ => R.ff (R.neq rfl rfl) (by first | decide | simp | omega)) rfl ?_; clear hA a; intro a hA
          refine D.done ?_
          replace hA : St 161 [(1, _), (2, _), (7, _), (8, _), (9, _), (11, _), (12, _), (13, _), (14, _), (50, _), (53, _), (54, _), (55, _), (56, _), (57, _), (58, _), (59, _), (60, _), (61, _), (62, _), (63, _), (64, _), (76, _), (77, _), (78, _), (79, _), (80, _), (81, _), (82, _), (83, _)] a := hA.sub ((.cons rfl (.cons rfl (.cons rfl (.cons rfl (.cons rfl (.cons rfl (.cons rfl (.cons rfl (.cons rfl (.cons rfl (.cons rfl (.cons rfl (.cons rfl (.cons rfl (.cons rfl (.cons rfl (.cons rfl (.cons rfl (.cons rfl (.cons rfl (.cons rfl (.cons rfl (.cons rfl (.cons rfl (.cons rfl (.cons rfl (.cons rfl (.cons rfl (.cons rfl (.cons rfl .nil)))))))))))))))))))))))))))))))
          refine Ends.condF hA rfl ?_
          refine Ends.skip ?_
          refine Ends.inBlock ?_
          refine Ends.seq ?_
          refine Ends.seq ?_
          refine Ends.region ?_
          refine S.val hA (R.move rfl) rfl ?_; clear hA a; intro a hA
          refine S.val hA (R.tt (R.geq rfl rfl) (by omega)) rfl ?_; clear hA a; intro a hA
          refine S.val hA (R.move rfl) rfl ?_; clear hA a; intro a hA
          refine S.valg (dj := 135) hA (by kernel_rfl) rfl (R.move rfl) rfl ?_; clear hA a; intro a hA
          refine S.callg (dj := 135) hA (by kernel_rfl) rfl (R.callF Try.func27 rfl rfl rfl) rfl (steps_ok m10 c11 [0, x, y, 0] (s + 1) ⟨1, 1, x, x, true⟩ hm10c11 _ (hM.mem (k := 1) rfl)) ?_; clear hA a
          rintro e w14 ⟨rfl, rfl⟩
          refine ⟨.int .i64 (s + 1), rfl, fun a hA => ?_⟩
          refine S.valg (dj := 135) hA (by kernel_rfl) rfl (R.move rfl) rfl ?_; clear hA a; intro a hA
          refine S.valg (dj := 135) hA (by kernel_rfl) rfl (R.addI rfl rfl (r := s + 1) rfl (by omega)) rfl ?_; clear hA a; intro a hA
          refine S.valg (dj := 135) hA (by kernel_rfl) rfl (R.ff (R.neq rfl rfl) (by omega)) rfl ?_; clear hA a; intro a hA
          refine S.val hA (R.pickT rfl rfl) rfl ?_; clear hA a; intro a hA
          refine S.done ?_
          replace hA : St 161 [(1, _), (2, _), (7, _), (8, _), (9, _), (11, _), (12, _), (13, _), (14, _), (50, _), (53, _), (54, _), (55, _), (56, _), (57, _), (58, _), (59, _), (60, _), (61, _), (62, _), (63, _), (64, _), (76, _), (77, _), (78, _), (79, _), (80, _), (81, _), (82, _), (83, _), (133, _), (134, _), (135, _), (136, _), (137, _), (138, _), (139, _), (140, _), (141, _)] a := hA.sub ((.cons rfl (.cons rfl (.cons rfl (.cons rfl (.cons rfl (.cons rfl (.cons rfl (.cons rfl (.cons rfl (.cons rfl (.cons rfl (.cons rfl (.cons rfl (.cons rfl (.cons rfl (.cons rfl (.cons rfl (.cons rfl (.cons rfl (.cons rfl (.cons rfl (.cons rfl (.cons rfl (.cons rfl (.cons rfl (.cons rfl (.cons rfl (.cons rfl (.cons rfl (.cons rfl (.cons rfl (.cons rfl (.cons rfl (.cons rfl (.cons rfl (.cons rfl (.cons rfl (.cons rfl (.cons rfl .nil))))))))))))))))))))))))))))))))))))))))
          refine Ends.condF hA rfl ?_
          refine Ends.skip ?_
          refine Ends.seq ?_
          refine Ends.region ?_
          refine S.val hA (R.move rfl) rfl ?_; clear hA a; intro a hA
          refine S.call hA (R.callF Try.func19 rfl rfl rfl) rfl (cnt_Now q9 m10 c11 1 [0, x, y, 0] (s + 1) ⟨1, 1, x, x, true⟩ (by first | omega | simp | (simp; omega)) (by first | omega | simp | (simp; omega)) (by first | omega | simp | (simp; omega)) hm10c11 _ (hM.hereN 2)) ?_; clear hA a
          rintro e w15 ⟨rfl, hn⟩
          replace hM : Mem _ _ [pt q9 #[.pointer (some ⟨m10, 0, none⟩), .int .i64 1] 108, memO m10 c11 [0, x, y, 0] (s + 1) ⟨1, 1, x, x, true⟩, bundle (xs.map (actC q9)), pt b7 #[.int .i64 x, .int .i64 y] 45, pt b12 ((vals (xs.map actV))) 46] _ := hM.callL 2 hn; clear hn
          refine ⟨.tuple #[.int .i64 x, .int .i64 y], rfl, fun a hA => ?_⟩
          refine S.val hA (R.move rfl) rfl ?_; clear hA a; intro a hA
          refine S.val hA (R.extract (v := .int .i64 x) rfl rfl) rfl ?_; clear hA a; intro a hA
          refine S.val hA (R.extract (v := .int .i64 y) rfl rfl) rfl ?_; clear hA a; intro a hA
          refine S.val hA (R.assign rfl) rfl ?_; clear hA a; intro a hA
          refine S.val hA (R.assign rfl) rfl ?_; clear hA a; intro a hA
          refine S.done ?_
          replace hA : St 161 [(1, _), (2, _), (7, _), (8, _), (9, _), (11, _), (12, _), (13, _), (14, _), (16, _), (17, _), (50, _), (53, _), (54, _), (55, _), (56, _), (57, _), (58, _), (59, _), (60, _), (61, _), (62, _), (63, _), (64, _), (76, _), (77, _), (78, _), (79, _), (80, _), (81, _), (82, _), (83, _), (133, _), (134, _), (135, _), (136, _), (137, _), (138, _), (139, _), (140, _), (141, _), (142, _), (143, _), (144, _), (145, _), (146, _)] a := hA.sub ((.cons rfl (.cons rfl (.cons rfl (.cons rfl (.cons rfl (.cons rfl (.cons rfl (.cons rfl (.cons rfl (.cons rfl (.cons rfl (.cons rfl (.cons rfl (.cons rfl (.cons rfl (.cons rfl (.cons rfl (.cons rfl (.cons rfl (.cons rfl (.cons rfl (.cons rfl (.cons rfl (.cons rfl (.cons rfl (.cons rfl (.cons rfl (.cons rfl (.cons rfl (.cons rfl (.cons rfl (.cons rfl (.cons rfl (.cons rfl (.cons rfl (.cons rfl (.cons rfl (.cons rfl (.cons rfl (.cons rfl (.cons rfl (.cons rfl (.cons rfl (.cons rfl (.cons rfl (.cons rfl .nil)))))))))))))))))))))))))))))))))))))))))))))))
          refine Ends.seq ?_
          refine Ends.region ?_
          refine S.val hA (R.move rfl) rfl ?_; clear hA a; intro a hA
          refine S.val hA (R.fieldAddr (q := 0) fi45_0 rfl rfl rfl) rfl ?_; clear hA a; intro a hA
          refine S.val hA (R.load sz3 rfl (hM.cell (k := 3) rfl rfl)) rfl ?_; clear hA a; intro a hA
          refine S.val hA (R.ff (R.neq rfl rfl) (by omega)) rfl ?_; clear hA a; intro a hA
          refine S.val hA (R.move rfl) rfl ?_; clear hA a; intro a hA
          refine S.valg (dj := 151) hA (by kernel_rfl) rfl (R.move rfl) rfl ?_; clear hA a; intro a hA
          refine S.valg (dj := 151) hA (by kernel_rfl) rfl (R.fieldAddr (q := 1) fi45_1 rfl rfl rfl) rfl ?_; clear hA a; intro a hA
          refine S.valg (dj := 151) hA (by kernel_rfl) rfl (R.load sz3 rfl (hM.cell (k := 3) rfl rfl)) rfl ?_; clear hA a; intro a hA
          refine S.valg (dj := 151) hA (by kernel_rfl) rfl (R.ff (R.neq rfl rfl) (by omega)) rfl ?_; clear hA a; intro a hA
          refine S.val hA (R.pickF rfl rfl) rfl ?_; clear hA a; intro a hA
          refine S.val hA (R.move rfl) rfl ?_; clear hA a; intro a hA
          refine S.valg (dj := 157) hA (by kernel_rfl) rfl (R.move rfl) rfl ?_; clear hA a; intro a hA
          refine S.valg (dj := 157) hA (by kernel_rfl) rfl (R.ff (R.lss rfl rfl) (by omega)) rfl ?_; clear hA a; intro a hA
          refine S.val hA (R.pickF rfl rfl) rfl ?_; clear hA a; intro a hA
          refine S.done ?_
          replace hA : St 161 [(1, _), (2, _), (7, _), (8, _), (9, _), (11, _), (12, _), (13, _), (14, _), (16, _), (17, _), (50, _), (53, _), (54, _), (55, _), (56, _), (57, _), (58, _), (59, _), (60, _), (61, _), (62, _), (63, _), (64, _), (76, _), (77, _), (78, _), (79, _), (80, _), (81, _), (82, _), (83, _), (133, _), (134, _), (135, _), (136, _), (137, _), (138, _), (139, _), (140, _), (141, _), (142, _), (143, _), (144, _), (145, _), (146, _), (147, _), (148, _), (149, _), (150, _), (151, _), (152, _), (153, _), (154, _), (155, _), (156, _), (157, _), (158, _), (159, _), (160, _)] a := hA.sub ((.cons rfl (.cons rfl (.cons rfl (.cons rfl (.cons rfl (.cons rfl (.cons rfl (.cons rfl (.cons rfl (.cons rfl (.cons rfl (.cons rfl (.cons rfl (.cons rfl (.cons rfl (.cons rfl (.cons rfl (.cons rfl (.cons rfl (.cons rfl (.cons rfl (.cons rfl (.cons rfl (.cons rfl (.cons rfl (.cons rfl (.cons rfl (.cons rfl (.cons rfl (.cons rfl (.cons rfl (.cons rfl (.cons rfl (.cons rfl (.cons rfl (.cons rfl (.cons rfl (.cons rfl (.cons rfl (.cons rfl (.cons rfl (.cons rfl (.cons rfl (.cons rfl (.cons rfl (.cons rfl (.cons rfl (.cons rfl (.cons rfl (.cons rfl (.cons rfl (.cons rfl (.cons rfl (.cons rfl (.cons rfl (.cons rfl (.cons rfl (.cons rfl (.cons rfl (.cons rfl .nil)))))))))))))))))))))))))))))))))))))))))))))))))))))))))))))
          refine Ends.condF hA rfl ?_
          refine Ends.skip ?_
          refine Ends.inBlock ?_
          refine Ends.region ?_
          refine S.val hA (R.move rfl) rfl ?_; clear hA a; intro a hA
          refine S.val hA (R.addI rfl rfl (r := ((k : Int)) + 1) rfl (by omega)) rfl ?_; clear hA a; intro a hA
          refine S.val hA (R.assign rfl) rfl ?_; clear hA a; intro a hA
          refine S.done ?_
          replace hA : St 161 [(1, _), (2, _), (7, _), (8, _), (9, _), (11, _), (12, _), (13, _), (14, _), (16, _), (17, _), (50, _), (51, _), (52, _), (53, _), (54, _), (55, _), (56, _), (57, _), (58, _), (59, _), (60, _), (61, _), (62, _), (63, _), (64, _), (76, _), (77, _), (78, _), (79, _), (80, _), (81, _), (82, _), (83, _), (133, _), (134, _), (135, _), (136, _), (137, _), (138, _), (139, _), (140, _), (141, _), (142, _), (143, _), (144, _), (145, _), (146, _), (147, _), (148, _), (149, _), (150, _), (151, _), (152, _), (153, _), (154, _), (155, _), (156, _), (157, _), (158, _), (159, _), (160, _)] a := hA.sub ((.cons rfl (.cons rfl (.cons rfl (.cons rfl (.cons rfl (.cons rfl (.cons rfl (.cons rfl (.cons rfl (.cons rfl (.cons rfl (.cons rfl (.cons rfl (.cons rfl (.cons rfl (.cons rfl (.cons rfl (.cons rfl (.cons rfl (.cons rfl (.cons rfl (.cons rfl (.cons rfl (.cons rfl (.cons rfl (.cons rfl (.cons rfl (.cons rfl (.cons rfl (.cons rfl (.cons rfl (.cons rfl (.cons rfl (.cons rfl (.cons rfl (.cons rfl (.cons rfl (.cons rfl (.cons rfl (.cons rfl (.cons rfl (.cons rfl (.cons rfl (.cons rfl (.cons rfl (.cons rfl (.cons rfl (.cons rfl (.cons rfl (.cons rfl (.cons rfl (.cons rfl (.cons rfl (.cons rfl (.cons rfl (.cons rfl (.cons rfl (.cons rfl (.cons rfl (.cons rfl (.cons rfl (.cons rfl .nil)))))))))))))))))))))))))))))))))))))))))))))))))))))))))))))))
          replace hM := hM.front (k := 4) rfl
          replace hM := hM.front (k := 4) rfl
          replace hM := hM.front (k := 3) rfl
          replace hM := hM.front (k := 3) rfl
          replace hM := hM.front (k := 4) rfl
          replace hM : Mem _ _ [bundle (xs.map (actC q9)), pt q9 #[.pointer (some ⟨m10, 0, none⟩), .int .i64 1] 108, memO m10 c11 [0, x, y, 0] (s + 1) ⟨1, 1, x, x, true⟩, pt b7 #[.int .i64 x, .int .i64 y] 45, pt b12 ((vals (xs.map actV))) 46] _ := hM
          replace hM : Mem _ _ [bundle (xs.map (actC q9)), pt q9 #[.pointer (some ⟨m10, 0, none⟩), .int .i64 1] 108, memO m10 c11 [0, x, y, 0] (s + 1) ⟨1, 1, x, x, true⟩, pt b7 #[.int .i64 x, .int .i64 y] 45, pt b12 ((vals (xs.map actV))) 46] _ := hM.firstN 5
          exact hNext ((k + 1, x, y, xs, s + 1, ⟨1, 1, x, x, true⟩)) _ _ ((by show 100 - (k + 1) < 100 - k; omega)) ⟨hA.sub ((.cons rfl (.cons rfl (.cons rfl (.cons rfl (.cons rfl (.cons rfl (.cons rfl .nil)))))))), hM, (by omega), (by omega), (by omega), hxlen, hxok, (by omega)⟩
        ·
          refine Ends.seq ?_
          refine Ends.region ?_
          refine S.val hA (R.move rfl) rfl ?_; clear hA a; intro a hA
          refine S.val hA (R.eql rfl rfl) rfl ?_; clear hA a; intro a hA
          refine S.val hA (R.assign rfl) rfl ?_; clear hA a; intro a hA
          refine S.done ?_
          replace hA : St 161 [(1, _), (2, _), (7, _), (8, _), (9, _), (11, _), (12, _), (13, _), (14, _), (50, _), (53, _), (54, _), (55, _), (56, _), (57, _), (58, _), (59, _), (60, _), (61, _), (62, _), (63, _), (64, _), (76, _), (77, _), (78, _), (84, _), (85, _), (86, _)] a := hA.sub ((.cons rfl (.cons rfl (.cons rfl (.cons rfl (.cons rfl (.cons rfl (.cons rfl (.cons rfl (.cons rfl (.cons rfl (.cons rfl (.cons rfl (.cons rfl (.cons rfl (.cons rfl (.cons rfl (.cons rfl (.cons rfl (.cons rfl (.cons rfl (.cons rfl (.cons rfl (.cons rfl (.cons rfl (.cons rfl (.cons rfl (.cons rfl (.cons rfl .nil)))))))))))))))))))))))))))))
          refine Ends.ite hA rfl (fun hc20 => ?_) (fun hc20 => ?_)
          ·
            refine Ends.seq ?_
            replace hM := hM.front (k := 2) rfl
            replace hM := hM.front (k := 2) rfl
            replace hM : Mem _ _ [pt q9 #[.pointer (some ⟨m10, 0, none⟩), .int .i64 1] 108, memO m10 c11 [0, x, y, 0] s op, bundle (xs.map (actC q9)), pt b7 #[.int .i64 x, .int .i64 y] 45, pt b12 ((vals (xs.map actV))) 46] _ := hM
            refine Ends.drawn (Mem w nof [pt q9 #[.pointer (some ⟨m10, 0, none⟩), .int .i64 1] 108, pt b7 #[.int .i64 x, .int .i64 y] 45, pt b12 ((vals (xs.map actV))) 46]) [(0, true), (2, true), (3, true), (1, false), (4, true)] 5 mixed (by kernel_rfl) (by kernel_rfl) (by kernel_rfl) ((hM.drop 2).drop 1).drew ?_
            replace hM := hM.drew
            refine D.valF hA rfl (fun _ => R.move rfl) rfl ?_; clear hA a; intro a hA
            refine D.valF hA rfl (fun _ => R.fieldAddr (q := 1) fi45_1 rfl rfl rfl) rfl ?_; clear hA a; intro a hA
            refine D.val hA rfl (by kernel_rfl) (fun _ hM => R.load sz3 rfl (hM.cell (k := 1) rfl rfl)) rfl ?_; clear hA a; intro a hA
            refine D.call hA rfl (R.callF Try.func25 rfl rfl rfl) rfl (cnt_Working q9 m10 c11 1 [0, x, y, 0] s op (by first | omega | simp | (simp; omega)) (by first | omega | simp | (simp; omega)) (by first | omega | simp | (simp; omega)) hm10c11 _ (hM.hereN 2)) ?_; clear hA a
            rintro e w16 ⟨rfl, hn⟩
            replace hM : Mem _ _ [pt q9 #[.pointer (some ⟨m10, 0, none⟩), .int .i64 1] 108, memO m10 c11 [0, x, y, 0] (s + 1) ⟨1, 2, y, y, true⟩, bundle (xs.map (actC q9)), pt b7 #[.int .i64 x, .int .i64 y] 45, pt b12 ((vals (xs.map actV))) 46] _ := hM.callL 2 hn; clear hn
            refine ⟨.int .i64 y, rfl, ((hM.drop 2).drop 1), fun a hA => ?_⟩
            refine D.valF hA rfl (fun _ => R.ff (R.neq rfl rfl) (by first | decide | simp | omega)) rfl ?_; clear hA a; intro a hA
            refine D.done ?_
            replace hA : St 161 [(1, _), (2, _), (7, _), (8, _), (9, _), (11, _), (12, _), (13, _), (14, _), (50, _), (53, _), (54, _), (55, _), (56, _), (57, _), (58, _), (59, _), (60, _), (61, _), (62, _), (63, _), (64, _), (76, _), (77, _), (78, _), (84, _), (85, _), (86, _), (87, _), (88, _), (89, _), (90, _), (91, _)] a := hA.sub ((.cons rfl (.cons rfl (.cons rfl (.cons rfl (.cons rfl (.cons rfl (.cons rfl (.cons rfl (.cons rfl (.cons rfl (.cons rfl (.cons rfl (.cons rfl (.cons rfl (.cons rfl (.cons rfl (.cons rfl (.cons rfl (.cons rfl (.cons rfl (.cons rfl (.cons rfl (.cons rfl (.cons rfl (.cons rfl (.cons rfl (.cons rfl (.cons rfl (.cons rfl (.cons rfl (.cons rfl (.cons rfl (.cons rfl .nil))))))))))))))))))))))))))))))))))
            refine Ends.condF hA rfl ?_
            refine Ends.skip ?_
            refine Ends.inBlock ?_
            refine Ends.seq ?_
            refine Ends.seq ?_
            refine Ends.region ?_
            refine S.val hA (R.move rfl) rfl ?_; clear hA a; intro a hA
            refine S.val hA (R.tt (R.geq rfl rfl) (by omega)) rfl ?_; clear hA a; intro a hA
            refine S.val hA (R.move rfl) rfl ?_; clear hA a; intro a hA
            refine S.valg (dj := 135) hA (by kernel_rfl) rfl (R.move rfl) rfl ?_; clear hA a; intro a hA
            refine S.callg (dj := 135) hA (by kernel_rfl) rfl (R.callF Try.func27 rfl rfl rfl) rfl (steps_ok m10 c11 [0, x, y, 0] (s + 1) ⟨1, 2, y, y, true⟩ hm10c11 _ (hM.mem (k := 1) rfl)) ?_; clear hA a
            rintro e w17 ⟨rfl, rfl⟩
            refine ⟨.int .i64 (s + 1), rfl, fun a hA => ?_⟩
            refine S.valg (dj := 135) hA (by kernel_rfl) rfl (R.move rfl) rfl ?_; clear hA a; intro a hA
            refine S.valg (dj := 135) hA (by kernel_rfl) rfl (R.addI rfl rfl (r := s + 1) rfl (by omega)) rfl ?_; clear hA a; intro a hA
            refine S.valg (dj := 135) hA (by kernel_rfl) rfl (R.ff (R.neq rfl rfl) (by omega)) rfl ?_; clear hA a; intro a hA
            refine S.val hA (R.pickT rfl rfl) rfl ?_; clear hA a; intro a hA
            refine S.done ?_
            replace hA : St 161 [(1, _), (2, _), (7, _), (8, _), (9, _), (11, _), (12, _), (13, _), (14, _), (50, _), (53, _), (54, _), (55, _), (56, _), (57, _), (58, _), (59, _), (60, _), (61, _), (62, _), (63, _), (64, _), (76, _), (77, _), (78, _), (84, _), (85, _), (86, _), (87, _), (88, _), (89, _), (90, _), (91, _), (133, _), (134, _), (135, _), (136, _), (137, _), (138, _), (139, _), (140, _), (141, _)] a := hA.sub ((.cons rfl (.cons rfl (.cons rfl (.cons rfl (.cons rfl (.cons rfl (.cons rfl (.cons rfl (.cons rfl (.cons rfl (.cons rfl (.cons rfl (.cons rfl (.cons rfl (.cons rfl (.cons rfl (.cons rfl (.cons rfl (.cons rfl (.cons rfl (.cons rfl (.cons rfl (.cons rfl (.cons rfl (.cons rfl (.cons rfl (.cons rfl (.cons rfl (.cons rfl (.cons rfl (.cons rfl (.cons rfl (.cons rfl (.cons rfl (.cons rfl (.cons rfl (.cons rfl (.cons rfl (.cons rfl (.cons rfl (.cons rfl (.cons rfl .nil)))))))))))))))))))))))))))))))))))))))))))
            refine Ends.condF hA rfl ?_
            refine Ends.skip ?_
            refine Ends.seq ?_
            refine Ends.region ?_
            refine S.val hA (R.move rfl) rfl ?_; clear hA a; intro a hA
            refine S.call hA (R.callF Try.func19 rfl rfl rfl) rfl (cnt_Now q9 m10 c11 1 [0, x, y, 0] (s + 1) ⟨1, 2, y, y, true⟩ (by first | omega | simp | (simp; omega)) (by first | omega | simp | (simp; omega)) (by first | omega | simp | (simp; omega)) hm10c11 _ (hM.hereN 2)) ?_; clear hA a
            rintro e w18 ⟨rfl, hn⟩
            replace hM : Mem _ _ [pt q9 #[.pointer (some ⟨m10, 0, none⟩), .int .i64 1] 108, memO m10 c11 [0, x, y, 0] (s + 1) ⟨1, 2, y, y, true⟩, bundle (xs.map (actC q9)), pt b7 #[.int .i64 x, .int .i64 y] 45, pt b12 ((vals (xs.map actV))) 46] _ := hM.callL 2 hn; clear hn
            refine ⟨.tuple #[.int .i64 x, .int .i64 y], rfl, fun a hA => ?_⟩
            refine S.val hA (R.move rfl) rfl ?_; clear hA a; intro a hA
            refine S.val hA (R.extract (v := .int .i64 x) rfl rfl) rfl ?_; clear hA a; intro a hA
            refine S.val hA (R.extract (v := .int .i64 y) rfl rfl) rfl ?_; clear hA a; intro a hA
            refine S.val hA (R.assign rfl) rfl ?_; clear hA a; intro a hA
            refine S.val hA (R.assign rfl) rfl ?_; clear hA a; intro a hA
            refine S.done ?_
            replace hA : St 161 [(1, _), (2, _), (7, _), (8, _), (9, _), (11, _), (12, _), (13, _), (14, _), (16, _), (17, _), (50, _), (53, _), (54, _), (55, _), (56, _), (57, _), (58, _), (59, _), (60, _), (61, _), (62, _), (63, _), (64, _), (76, _), (77, _), (78, _), (84, _), (85, _), (86, _), (87, _), (88, _), (89, _), (90, _), (91, _), (133, _), (134, _), (135, _), (136, _), (137, _), (138, _), (139, _), (140, _), (141, _), (142, _), (143, _), (144, _), (145, _), (146, _)] a := hA.sub ((.cons rfl (.cons rfl (.cons rfl (.cons rfl (.cons rfl (.cons rfl (.cons rfl (.cons rfl (.cons rfl (.cons rfl (.cons rfl (.cons rfl (.cons rfl (.cons rfl (.cons rfl (.cons rfl (.cons rfl (.cons rfl (.cons rfl (.cons rfl (.cons rfl (.cons rfl (.cons rfl (.cons rfl (.cons rfl (.cons rfl (.cons rfl (.cons rfl (.cons rfl (.cons rfl (.cons rfl (.cons rfl (.cons rfl (.cons rfl (.cons rfl (.cons rfl (.cons rfl (.cons rfl (.cons rfl (.cons rfl (.cons rfl (.cons rfl (.cons rfl (.cons rfl (.cons rfl (.cons rfl (.cons rfl (.cons rfl (.cons rfl .nil))))))))))))))))))))))))))))))))))))))))))))))))))
            refine Ends.seq ?_
            refine Ends.region ?_
            refine S.val hA (R.move rfl) rfl ?_; clear hA a; intro a hA
            refine S.val hA (R.fieldAddr (q := 0) fi45_0 rfl rfl rfl) rfl ?_; clear hA a; intro a hA
            refine S.val hA (R.load sz3 rfl (hM.cell (k := 3) rfl rfl)) rfl ?_; clear hA a; intro a hA
            refine S.val hA (R.ff (R.neq rfl rfl) (by omega)) rfl ?_; clear hA a; intro a hA
            refine S.val hA (R.move rfl) rfl ?_; clear hA a; intro a hA
            refine S.valg (dj := 151) hA (by kernel_rfl) rfl (R.move rfl) rfl ?_; clear hA a; intro a hA
            refine S.valg (dj := 151) hA (by kernel_rfl) rfl (R.fieldAddr (q := 1) fi45_1 rfl rfl rfl) rfl ?_; clear hA a; intro a hA
            refine S.valg (dj := 151) hA (by kernel_rfl) rfl (R.load sz3 rfl (hM.cell (k := 3) rfl rfl)) rfl ?_; clear hA a; intro a hA
            refine S.valg (dj := 151) hA (by kernel_rfl) rfl (R.ff (R.neq rfl rfl) (by omega)) rfl ?_; clear hA a; intro a hA
            refine S.val hA (R.pickF rfl rfl) rfl ?_; clear hA a; intro a hA
            refine S.val hA (R.move rfl) rfl ?_; clear hA a; intro a hA
            refine S.valg (dj := 157) hA (by kernel_rfl) rfl (R.move rfl) rfl ?_; clear hA a; intro a hA
            refine S.valg (dj := 157) hA (by kernel_rfl) rfl (R.ff (R.lss rfl rfl) (by omega)) rfl ?_; clear hA a; intro a hA
            refine S.val hA (R.pickF rfl rfl) rfl ?_; clear hA a; intro a hA
            refine S.done ?_
            replace hA : St 161 [(1, _), (2, _), (7, _), (8, _), (9, _), (11, _), (12, _), (13, _), (14, _), (16, _), (17, _), (50, _), (53, _), (54, _), (55, _), (56, _), (57, _), (58, _), (59, _), (60, _), (61, _), (62, _), (63, _), (64, _), (76, _), (77, _), (78, _), (84, _), (85, _), (86, _), (87, _), (88, _), (89, _), (90, _), (91, _), (133, _), (134, _), (135, _), (136, _), (137, _), (138, _), (139, _), (140, _), (141, _), (142, _), (143, _), (144, _), (145, _), (146, _), (147, _), (148, _), (149, _), (150, _), (151, _), (152, _), (153, _), (154, _), (155, _), (156, _), (157, _), (158, _), (159, _), (160, _)] a := hA.sub ((.cons rfl (.cons rfl (.cons rfl (.cons rfl (.cons rfl (.cons rfl (.cons rfl (.cons rfl (.cons rfl (.cons rfl (.cons rfl (.cons rfl (.cons rfl (.cons rfl (.cons rfl (.cons rfl (.cons rfl (.cons rfl (.cons rfl (.cons rfl (.cons rfl (.cons rfl (.cons rfl (.cons rfl (.cons rfl (.cons rfl (.cons rfl (.cons rfl (.cons rfl (.cons rfl (.cons rfl (.cons rfl (.cons rfl (.cons rfl (.cons rfl (.cons rfl (.cons rfl (.cons rfl (.cons rfl (.cons rfl (.cons rfl (.cons rfl (.cons rfl (.cons rfl (.cons rfl (.cons rfl (.cons rfl (.cons rfl (.cons rfl (.cons rfl (.cons rfl (.cons rfl (.cons rfl (.cons rfl (.cons rfl (.cons rfl (.cons rfl (.cons rfl (.cons rfl (.cons rfl (.cons rfl (.cons rfl (.cons rfl .nil))))))))))))))))))))))))))))))))))))))))))))))))))))))))))))))))
            refine Ends.condF hA rfl ?_
            refine Ends.skip ?_
            refine Ends.inBlock ?_
            refine Ends.region ?_
            refine S.val hA (R.move rfl) rfl ?_; clear hA a; intro a hA
            refine S.val hA (R.addI rfl rfl (r := ((k : Int)) + 1) rfl (by omega)) rfl ?_; clear hA a; intro a hA
            refine S.val hA (R.assign rfl) rfl ?_; clear hA a; intro a hA
            refine S.done ?_
            replace hA : St 161 [(1, _), (2, _), (7, _), (8, _), (9, _), (11, _), (12, _), (13, _), (14, _), (16, _), (17, _), (50, _), (51, _), (52, _), (53, _), (54, _), (55, _), (56, _), (57, _), (58, _), (59, _), (60, _), (61, _), (62, _), (63, _), (64, _), (76, _), (77, _), (78, _), (84, _), (85, _), (86, _), (87, _), (88, _), (89, _), (90, _), (91, _), (133, _), (134, _), (135, _), (136, _), (137, _), (138, _), (139, _), (140, _), (141, _), (142, _), (143, _), (144, _), (145, _), (146, _), (147, _), (148, _), (149, _), (150, _), (151, _), (152, _), (153, _), (154, _), (155, _), (156, _), (157, _), (158, _), (159, _), (160, _)] a := hA.sub ((.cons rfl (.cons rfl (.cons rfl (.cons rfl (.cons rfl (.cons rfl (.cons rfl (.cons rfl (.cons rfl (.cons rfl (.cons rfl (.cons rfl (.cons rfl (.cons rfl (.cons rfl (.cons rfl (.cons rfl (.cons rfl (.cons rfl (.cons rfl (.cons rfl (.cons rfl (.cons rfl (.cons rfl (.cons rfl (.cons rfl (.cons rfl (.cons rfl (.cons rfl (.cons rfl (.cons rfl (.cons rfl (.cons rfl (.cons rfl (.cons rfl (.cons rfl (.cons rfl (.cons rfl (.cons rfl (.cons rfl (.cons rfl (.cons rfl (.cons rfl (.cons rfl (.cons rfl (.cons rfl (.cons rfl (.cons rfl (.cons rfl (.cons rfl (.cons rfl (.cons rfl (.cons rfl (.cons rfl (.cons rfl (.cons rfl (.cons rfl (.cons rfl (.cons rfl (.cons rfl (.cons rfl (.cons rfl (.cons rfl (.cons rfl (.cons rfl .nil))))))))))))))))))))))))))))))))))))))))))))))))))))))))))))))))))
            replace hM := hM.front (k := 4) rfl
            replace hM := hM.front (k := 4) rfl
            replace hM := hM.front (k := 3) rfl
            replace hM := hM.front (k := 3) rfl
            replace hM := hM.front (k := 4) rfl
            replace hM : Mem _ _ [bundle (xs.map (actC q9)), pt q9 #[.pointer (some ⟨m10, 0, none⟩), .int .i64 1] 108, memO m10 c11 [0, x, y, 0] (s + 1) ⟨1, 2, y, y, true⟩, pt b7 #[.int .i64 x, .int .i64 y] 45, pt b12 ((vals (xs.map actV))) 46] _ := hM
            replace hM : Mem _ _ [bundle (xs.map (actC q9)), pt q9 #[.pointer (some ⟨m10, 0, none⟩), .int .i64 1] 108, memO m10 c11 [0, x, y, 0] (s + 1) ⟨1, 2, y, y, true⟩, pt b7 #[.int .i64 x, .int .i64 y] 45, pt b12 ((vals (xs.map actV))) 46] _ := hM.firstN 5
            exact hNext ((k + 1, x, y, xs, s + 1, ⟨1, 2, y, y, true⟩)) _ _ ((by show 100 - (k + 1) < 100 - k; omega)) ⟨hA.sub ((.cons rfl (.cons rfl (.cons rfl (.cons rfl (.cons rfl (.cons rfl (.cons rfl .nil)))))))), hM, (by omega), (by omega), (by omega), hxlen, hxok, (by omega)⟩
          ·
            refine Ends.seq ?_
            by_cases hs21 : (n15 : Int) < (1 + (n1 : Int))
            ·
              by_cases hs22 : xs[n15]? = some none
              ·
                have hxj := hs22
                replace hM : Mem _ _ [bundle ((xs.eraseIdx n15).map (actC q9)), pt q9 #[.pointer (some ⟨m10, 0, none⟩), .int .i64 1] 108, memO m10 c11 [0, x, y, 0] s op, pt b7 #[.int .i64 x, .int .i64 y] 45, pt b12 ((vals (xs.map actV))) 46] _ := (hM.openB hxj).drop 0
                refine Ends.region ?_
                refine S.val hA (R.move rfl) rfl ?_; clear hA a; intro a hA
                refine S.val hA (R.move rfl) rfl ?_; clear hA a; intro a hA
                refine S.val hA (R.tt (R.lss rfl rfl) (by omega)) rfl ?_; clear hA a; intro a hA
                refine S.val hA (R.move rfl) rfl ?_; clear hA a; intro a hA
                refine S.valg (dj := 96) hA (by kernel_rfl) rfl (R.move rfl) rfl ?_; clear hA a; intro a hA
                refine S.valg (dj := 96) hA (by kernel_rfl) rfl (R.indexAddrA (q := n15) ar46 rfl rfl (by omega) (by omega)) rfl ?_; clear hA a; intro a hA
                refine S.valg (dj := 96) hA (by kernel_rfl) rfl (R.load sz28 rfl (hM.cell (k := 4) rfl (vals_at _ _ _ (actV_at hxj)))) rfl ?_; clear hA a; intro a hA
                refine S.valg (dj := 96) hA (by kernel_rfl) rfl (R.eqlNil Try.underlying28 rfl rfl) rfl ?_; clear hA a; intro a hA
                refine S.val hA (R.pickT rfl rfl) rfl ?_; clear hA a; intro a hA
                refine S.val hA (R.assign rfl) rfl ?_; clear hA a; intro a hA
                refine S.done ?_
                replace hA : St 161 [(1, _), (2, _), (7, _), (8, _), (9, _), (11, _), (12, _), (13, _), (14, _), (50, _), (53, _), (54, _), (55, _), (56, _), (57, _), (58, _), (59, _), (60, _), (61, _), (62, _), (63, _), (64, _), (76, _), (77, _), (78, _), (84, _), (85, _), (86, _), (92, _), (93, _), (94, _), (95, _), (96, _), (97, _), (98, _), (99, _), (100, _), (101, _)] a := hA.sub ((.cons rfl (.cons rfl (.cons rfl (.cons rfl (.cons rfl (.cons rfl (.cons rfl (.cons rfl (.cons rfl (.cons rfl (.cons rfl (.cons rfl (.cons rfl (.cons rfl (.cons rfl (.cons rfl (.cons rfl (.cons rfl (.cons rfl (.cons rfl (.cons rfl (.cons rfl (.cons rfl (.cons rfl (.cons rfl (.cons rfl (.cons rfl (.cons rfl (.cons rfl (.cons rfl (.cons rfl (.cons rfl (.cons rfl (.cons rfl (.cons rfl (.cons rfl (.cons rfl (.cons rfl .nil)))))))))))))))))))))))))))))))))))))))
                refine Ends.condT hA rfl ?_
                refine Ends.seq ?_
                refine Ends.region ?_
                refine S.val hA (R.move rfl) rfl ?_; clear hA a; intro a hA
                refine S.val hA (R.move rfl) rfl ?_; clear hA a; intro a hA
                refine S.call hA (R.callF Try.func15 rfl rfl rfl) rfl (leave_ok q9 _) ?_; clear hA a
                rintro e w19 ⟨p23, rfl, hn⟩
                replace hM : Mem _ _ [pt p23 #[.pointer (some ⟨q9, 0, none⟩), .bool false, .int .i64 0, .bool false, .bool false] 105, bundle ((xs.eraseIdx n15).map (actC q9)), pt q9 #[.pointer (some ⟨m10, 0, none⟩), .int .i64 1] 108, memO m10 c11 [0, x, y, 0] s op, pt b7 #[.int .i64 x, .int .i64 y] 45, pt b12 ((vals (xs.map actV))) 46] _ := hM.call hn; clear hn
                refine ⟨.pointer (some ⟨p23, 0, none⟩), rfl, fun a hA => ?_⟩
                refine S.val hA (R.indexAddrA (q := n15) ar46 rfl rfl (by omega) (by omega)) rfl ?_; clear hA a; intro a hA
                refine S.store (k := 5) hA hM sz28 rfl rfl rfl rfl (vals_get _ _ (by rw [List.length_map]; omega)) ?_; clear hM
                intro w20 hM
                rw [vals_set] at hM
                replace hM : Mem _ _ [pt p23 #[.pointer (some ⟨q9, 0, none⟩), .bool false, .int .i64 0, .bool false, .bool false] 105, bundle ((xs.eraseIdx n15).map (actC q9)), pt q9 #[.pointer (some ⟨m10, 0, none⟩), .int .i64 1] 108, memO m10 c11 [0, x, y, 0] s op, pt b7 #[.int .i64 x, .int .i64 y] 45, pt b12 ((vals (((xs.map actV)).set n15 (.pointer (some ⟨p23, 0, none⟩))))) 46] _ := hM
                refine S.done ?_
                replace hA : St 161 [(1, _), (2, _), (7, _), (8, _), (9, _), (11, _), (12, _), (13, _), (14, _), (50, _), (53, _), (54, _), (55, _), (56, _), (57, _), (58, _), (59, _), (60, _), (61, _), (62, _), (63, _), (64, _), (76, _), (77, _), (78, _), (84, _), (85, _), (86, _), (92, _), (93, _), (94, _), (95, _), (96, _), (97, _), (98, _), (99, _), (100, _), (101, _), (102, _), (103, _), (104, _), (105, _)] a := hA.sub ((.cons rfl (.cons rfl (.cons rfl (.cons rfl (.cons rfl (.cons rfl (.cons rfl (.cons rfl (.cons rfl (.cons rfl (.cons rfl (.cons rfl (.cons rfl (.cons rfl (.cons rfl (.cons rfl (.cons rfl (.cons rfl (.cons rfl (.cons rfl (.cons rfl (.cons rfl (.cons rfl (.cons rfl (.cons rfl (.cons rfl (.cons rfl (.cons rfl (.cons rfl (.cons rfl (.cons rfl (.cons rfl (.cons rfl (.cons rfl (.cons rfl (.cons rfl (.cons rfl (.cons rfl (.cons rfl (.cons rfl (.cons rfl (.cons rfl .nil)))))))))))))))))))))))))))))))))))))))))))
                refine Ends.exit rfl ?_
                replace hA : St 161 [(1, _), (2, _), (7, _), (8, _), (9, _), (11, _), (12, _), (13, _), (14, _), (50, _), (53, _), (54, _), (55, _), (56, _), (57, _), (58, _), (59, _), (60, _), (61, _), (62, _), (63, _), (64, _), (76, _), (77, _), (78, _), (84, _), (85, _), (86, _), (92, _), (93, _), (94, _), (95, _), (96, _), (97, _), (98, _), (99, _), (100, _), (101, _), (102, _), (103, _), (104, _), (105, _)] a := hA.sub ((.cons rfl (.cons rfl (.cons rfl (.cons rfl (.cons rfl (.cons rfl (.cons rfl (.cons rfl (.cons rfl (.cons rfl (.cons rfl (.cons rfl (.cons rfl (.cons rfl (.cons rfl (.cons rfl (.cons rfl (.cons rfl (.cons rfl (.cons rfl (.cons rfl (.cons rfl (.cons rfl (.cons rfl (.cons rfl (.cons rfl (.cons rfl (.cons rfl (.cons rfl (.cons rfl (.cons rfl (.cons rfl (.cons rfl (.cons rfl (.cons rfl (.cons rfl (.cons rfl (.cons rfl (.cons rfl (.cons rfl (.cons rfl (.cons rfl .nil)))))))))))))))))))))))))))))))))))))))))))
                refine Ends.region ?_
                refine S.val hA (R.move rfl) rfl ?_; clear hA a; intro a hA
                refine S.val hA (R.addI rfl rfl (r := ((k : Int)) + 1) rfl (by omega)) rfl ?_; clear hA a; intro a hA
                refine S.val hA (R.assign rfl) rfl ?_; clear hA a; intro a hA
                refine S.done ?_
                replace hA : St 161 [(1, _), (2, _), (7, _), (8, _), (9, _), (11, _), (12, _), (13, _), (14, _), (50, _), (51, _), (52, _), (53, _), (54, _), (55, _), (56, _), (57, _), (58, _), (59, _), (60, _), (61, _), (62, _), (63, _), (64, _), (76, _), (77, _), (78, _), (84, _), (85, _), (86, _), (92, _), (93, _), (94, _), (95, _), (96, _), (97, _), (98, _), (99, _), (100, _), (101, _), (102, _), (103, _), (104, _), (105, _)] a := hA.sub ((.cons rfl (.cons rfl (.cons rfl (.cons rfl (.cons rfl (.cons rfl (.cons rfl (.cons rfl (.cons rfl (.cons rfl (.cons rfl (.cons rfl (.cons rfl (.cons rfl (.cons rfl (.cons rfl (.cons rfl (.cons rfl (.cons rfl (.cons rfl (.cons rfl (.cons rfl (.cons rfl (.cons rfl (.cons rfl (.cons rfl (.cons rfl (.cons rfl (.cons rfl (.cons rfl (.cons rfl (.cons rfl (.cons rfl (.cons rfl (.cons rfl (.cons rfl (.cons rfl (.cons rfl (.cons rfl (.cons rfl (.cons rfl (.cons rfl (.cons rfl (.cons rfl .nil)))))))))))))))))))))))))))))))))))))))))))))
                replace hM := hM.closeB (f := actC q9) (y := (some (p23, false, 0, false, false) : AcS)) hxj
                rw [← actV_new xs n15 p23 (false, 0, false, false)] at hM
                replace hM : Mem _ _ [bundle ((xs.set n15 (some (p23, false, 0, false, false) : AcS)).map (actC q9)), pt q9 #[.pointer (some ⟨m10, 0, none⟩), .int .i64 1] 108, memO m10 c11 [0, x, y, 0] s op, pt b7 #[.int .i64 x, .int .i64 y] 45, pt b12 ((vals ((xs.set n15 (some (p23, false, 0, false, false) : AcS)).map actV))) 46] _ := hM
                replace hM : Mem _ _ [bundle ((xs.set n15 (some (p23, false, 0, false, false) : AcS)).map (actC q9)), pt q9 #[.pointer (some ⟨m10, 0, none⟩), .int .i64 1] 108, memO m10 c11 [0, x, y, 0] s op, pt b7 #[.int .i64 x, .int .i64 y] 45, pt b12 ((vals ((xs.set n15 (some (p23, false, 0, false, false) : AcS)).map actV))) 46] _ := hM.firstN 5
                exact hNext ((k + 1, x, y, (xs.set n15 (some (p23, false, 0, false, false) : AcS)), s, op)) _ _ ((by show 100 - (k + 1) < 100 - k; omega)) ⟨hA.sub ((.cons rfl (.cons rfl (.cons rfl (.cons rfl (.cons rfl (.cons rfl (.cons rfl .nil)))))))), hM, (by omega), (by omega), (by omega), (by rw [List.length_set]; exact hxlen), (acOK_set hxok _ (show AcOK (some (p23, false, 0, false, false) : AcS) from ⟨by first | simp | (simp; done), by first | (simp; done) | (intros; omega), by omega, by omega⟩)), (by omega)⟩
              ·
                obtain ⟨bj, rd, hd, ov, lf, hxj⟩ := ac_some (by omega) hs22
                obtain ⟨hk1, hk2, hk3⟩ := hxok _ (List.mem_of_getElem? hxj)
                replace hM : Mem _ _ [pt bj #[.pointer (some ⟨q9, 0, none⟩), .bool rd, .int .i64 hd, .bool ov, .bool lf] 105, bundle ((xs.eraseIdx n15).map (actC q9)), pt q9 #[.pointer (some ⟨m10, 0, none⟩), .int .i64 1] 108, memO m10 c11 [0, x, y, 0] s op, pt b7 #[.int .i64 x, .int .i64 y] 45, pt b12 ((vals (xs.map actV))) 46] _ := hM.openB hxj
                by_cases hs24 : ov = true
                ·
                  subst hs24
                  refine Ends.region ?_
                  refine S.val hA (R.move rfl) rfl ?_; clear hA a; intro a hA
                  refine S.val hA (R.move rfl) rfl ?_; clear hA a; intro a hA
                  refine S.val hA (R.tt (R.lss rfl rfl) (by omega)) rfl ?_; clear hA a; intro a hA
                  refine S.val hA (R.move rfl) rfl ?_; clear hA a; intro a hA
                  refine S.valg (dj := 96) hA (by kernel_rfl) rfl (R.move rfl) rfl ?_; clear hA a; intro a hA
                  refine S.valg (dj := 96) hA (by kernel_rfl) rfl (R.indexAddrA (q := n15) ar46 rfl rfl (by omega) (by omega)) rfl ?_; clear hA a; intro a hA
                  refine S.valg (dj := 96) hA (by kernel_rfl) rfl (R.load sz28 rfl (hM.cell (k := 5) rfl (vals_at _ _ _ (actV_at hxj)))) rfl ?_; clear hA a; intro a hA
                  refine S.valg (dj := 96) hA (by kernel_rfl) rfl (R.eqlNil Try.underlying28 rfl rfl) rfl ?_; clear hA a; intro a hA
                  refine S.val hA (R.pickT rfl rfl) rfl ?_; clear hA a; intro a hA
                  refine S.val hA (R.assign rfl) rfl ?_; clear hA a; intro a hA
                  refine S.done ?_
                  replace hA : St 161 [(1, _), (2, _), (7, _), (8, _), (9, _), (11, _), (12, _), (13, _), (14, _), (50, _), (53, _), (54, _), (55, _), (56, _), (57, _), (58, _), (59, _), (60, _), (61, _), (62, _), (63, _), (64, _), (76, _), (77, _), (78, _), (84, _), (85, _), (86, _), (92, _), (93, _), (94, _), (95, _), (96, _), (97, _), (98, _), (99, _), (100, _), (101, _)] a := hA.sub ((.cons rfl (.cons rfl (.cons rfl (.cons rfl (.cons rfl (.cons rfl (.cons rfl (.cons rfl (.cons rfl (.cons rfl (.cons rfl (.cons rfl (.cons rfl (.cons rfl (.cons rfl (.cons rfl (.cons rfl (.cons rfl (.cons rfl (.cons rfl (.cons rfl (.cons rfl (.cons rfl (.cons rfl (.cons rfl (.cons rfl (.cons rfl (.cons rfl (.cons rfl (.cons rfl (.cons rfl (.cons rfl (.cons rfl (.cons rfl (.cons rfl (.cons rfl (.cons rfl (.cons rfl .nil)))))))))))))))))))))))))))))))))))))))
                  refine Ends.condF hA rfl ?_
                  refine Ends.seq ?_
                  refine Ends.region ?_
                  refine S.val hA (R.move rfl) rfl ?_; clear hA a; intro a hA
                  refine S.val hA (R.move rfl) rfl ?_; clear hA a; intro a hA
                  refine S.val hA (R.tt (R.lss rfl rfl) (by omega)) rfl ?_; clear hA a; intro a hA
                  refine S.val hA (R.assign rfl) rfl ?_; clear hA a; intro a hA
                  refine S.done ?_
                  replace hA : St 161 [(1, _), (2, _), (7, _), (8, _), (9, _), (11, _), (12, _), (13, _), (14, _), (50, _), (53, _), (54, _), (55, _), (56, _), (57, _), (58, _), (59, _), (60, _), (61, _), (62, _), (63, _), (64, _), (76, _), (77, _), (78, _), (84, _), (85, _), (86, _), (92, _), (93, _), (94, _), (95, _), (96, _), (97, _), (98, _), (99, _), (100, _), (101, _), (106, _), (107, _), (108, _), (109, _)] a := hA.sub ((.cons rfl (.cons rfl (.cons rfl (.cons rfl (.cons rfl (.cons rfl (.cons rfl (.cons rfl (.cons rfl (.cons rfl (.cons rfl (.cons rfl (.cons rfl (.cons rfl (.cons rfl (.cons rfl (.cons rfl (.cons rfl (.cons rfl (.cons rfl (.cons rfl (.cons rfl (.cons rfl (.cons rfl (.cons rfl (.cons rfl (.cons rfl (.cons rfl (.cons rfl (.cons rfl (.cons rfl (.cons rfl (.cons rfl (.cons rfl (.cons rfl (.cons rfl (.cons rfl (.cons rfl (.cons rfl (.cons rfl (.cons rfl (.cons rfl .nil)))))))))))))))))))))))))))))))))))))))))))
                  refine Ends.condT hA rfl ?_
                  refine Ends.seq ?_
                  refine Ends.seq ?_
                  refine Ends.region ?_
                  refine S.val hA (R.move rfl) rfl ?_; clear hA a; intro a hA
                  refine S.val hA (R.indexAddrA (q := n15) ar46 rfl rfl (by omega) (by omega)) rfl ?_; clear hA a; intro a hA
                  refine S.val hA (R.load sz28 rfl (hM.cell (k := 5) rfl (vals_at _ _ _ (actV_at hxj)))) rfl ?_; clear hA a; intro a hA
                  refine S.call hA (R.callF Try.func16 rfl rfl rfl) rfl (cact_over bj q9 hd rd true lf _ (hM.block (k := 0) rfl)) ?_; clear hA a
                  rintro e w21 ⟨rfl, rfl⟩
                  refine ⟨.bool true, rfl, fun a hA => ?_⟩
                  refine S.done ?_
                  replace hA : St 161 [(1, _), (2, _), (7, _), (8, _), (9, _), (11, _), (12, _), (13, _), (14, _), (50, _), (53, _), (54, _), (55, _), (56, _), (57, _), (58, _), (59, _), (60, _), (61, _), (62, _), (63, _), (64, _), (76, _), (77, _), (78, _), (84, _), (85, _), (86, _), (92, _), (93, _), (94, _), (95, _), (96, _), (97, _), (98, _), (99, _), (100, _), (101, _), (106, _), (107, _), (108, _), (109, _), (110, _), (111, _), (112, _), (113, _)] a := hA.sub ((.cons rfl (.cons rfl (.cons rfl (.cons rfl (.cons rfl (.cons rfl (.cons rfl (.cons rfl (.cons rfl (.cons rfl (.cons rfl (.cons rfl (.cons rfl (.cons rfl (.cons rfl (.cons rfl (.cons rfl (.cons rfl (.cons rfl (.cons rfl (.cons rfl (.cons rfl (.cons rfl (.cons rfl (.cons rfl (.cons rfl (.cons rfl (.cons rfl (.cons rfl (.cons rfl (.cons rfl (.cons rfl (.cons rfl (.cons rfl (.cons rfl (.cons rfl (.cons rfl (.cons rfl (.cons rfl (.cons rfl (.cons rfl (.cons rfl (.cons rfl (.cons rfl (.cons rfl (.cons rfl .nil)))))))))))))))))))))))))))))))))))))))))))))))
                  refine Ends.condT hA rfl ?_
                  refine Ends.exit rfl ?_
                  replace hA : St 161 [(1, _), (2, _), (7, _), (8, _), (9, _), (11, _), (12, _), (13, _), (14, _), (50, _), (53, _), (54, _), (55, _), (56, _), (57, _), (58, _), (59, _), (60, _), (61, _), (62, _), (63, _), (64, _), (76, _), (77, _), (78, _), (84, _), (85, _), (86, _), (92, _), (93, _), (94, _), (95, _), (96, _), (97, _), (98, _), (99, _), (100, _), (101, _), (106, _), (107, _), (108, _), (109, _), (110, _), (111, _), (112, _), (113, _)] a := hA.sub ((.cons rfl (.cons rfl (.cons rfl (.cons rfl (.cons rfl (.cons rfl (.cons rfl (.cons rfl (.cons rfl (.cons rfl (.cons rfl (.cons rfl (.cons rfl (.cons rfl (.cons rfl (.cons rfl (.cons rfl (.cons rfl (.cons rfl (.cons rfl (.cons rfl (.cons rfl (.cons rfl (.cons rfl (.cons rfl (.cons rfl (.cons rfl (.cons rfl (.cons rfl (.cons rfl (.cons rfl (.cons rfl (.cons rfl (.cons rfl (.cons rfl (.cons rfl (.cons rfl (.cons rfl (.cons rfl (.cons rfl (.cons rfl (.cons rfl (.cons rfl (.cons rfl (.cons rfl (.cons rfl .nil)))))))))))))))))))))))))))))))))))))))))))))))
                  refine Ends.region ?_
                  refine S.val hA (R.move rfl) rfl ?_; clear hA a; intro a hA
                  refine S.val hA (R.addI rfl rfl (r := ((k : Int)) + 1) rfl (by omega)) rfl ?_; clear hA a; intro a hA
                  refine S.val hA (R.assign rfl) rfl ?_; clear hA a; intro a hA
                  refine S.done ?_
                  replace hA : St 161 [(1, _), (2, _), (7, _), (8, _), (9, _), (11, _), (12, _), (13, _), (14, _), (50, _), (51, _), (52, _), (53, _), (54, _), (55, _), (56, _), (57, _), (58, _), (59, _), (60, _), (61, _), (62, _), (63, _), (64, _), (76, _), (77, _), (78, _), (84, _), (85, _), (86, _), (92, _), (93, _), (94, _), (95, _), (96, _), (97, _), (98, _), (99, _), (100, _), (101, _), (106, _), (107, _), (108, _), (109, _), (110, _), (111, _), (112, _), (113, _)] a := hA.sub ((.cons rfl (.cons rfl (.cons rfl (.cons rfl (.cons rfl (.cons rfl (.cons rfl (.cons rfl (.cons rfl (.cons rfl (.cons rfl (.cons rfl (.cons rfl (.cons rfl (.cons rfl (.cons rfl (.cons rfl (.cons rfl (.cons rfl (.cons rfl (.cons rfl (.cons rfl (.cons rfl (.cons rfl (.cons rfl (.cons rfl (.cons rfl (.cons rfl (.cons rfl (.cons rfl (.cons rfl (.cons rfl (.cons rfl (.cons rfl (.cons rfl (.cons rfl (.cons rfl (.cons rfl (.cons rfl (.cons rfl (.cons rfl (.cons rfl (.cons rfl (.cons rfl (.cons rfl (.cons rfl (.cons rfl (.cons rfl .nil)))))))))))))))))))))))))))))))))))))))))))))))))
                  replace hM := hM.closeB (f := actC q9) (y := (some (bj, rd, hd, true, lf) : AcS)) hxj
                  rw [← actV_set (s' := (rd, hd, true, lf)) hxj] at hM
                  replace hM : Mem _ _ [bundle ((xs.set n15 (some (bj, rd, hd, true, lf) : AcS)).map (actC q9)), pt q9 #[.pointer (some ⟨m10, 0, none⟩), .int .i64 1] 108, memO m10 c11 [0, x, y, 0] s op, pt b7 #[.int .i64 x, .int .i64 y] 45, pt b12 ((vals ((xs.set n15 (some (bj, rd, hd, true, lf) : AcS)).map actV))) 46] _ := hM
                  replace hM : Mem _ _ [bundle ((xs.set n15 (some (bj, rd, hd, true, lf) : AcS)).map (actC q9)), pt q9 #[.pointer (some ⟨m10, 0, none⟩), .int .i64 1] 108, memO m10 c11 [0, x, y, 0] s op, pt b7 #[.int .i64 x, .int .i64 y] 45, pt b12 ((vals ((xs.set n15 (some (bj, rd, hd, true, lf) : AcS)).map actV))) 46] _ := hM.firstN 5
                  exact hNext ((k + 1, x, y, (xs.set n15 (some (bj, rd, hd, true, lf) : AcS)), s, op)) _ _ ((by show 100 - (k + 1) < 100 - k; omega)) ⟨hA.sub ((.cons rfl (.cons rfl (.cons rfl (.cons rfl (.cons rfl (.cons rfl (.cons rfl .nil)))))))), hM, (by omega), (by omega), (by omega), (by rw [List.length_set]; exact hxlen), (acOK_set hxok _ (show AcOK (some (bj, rd, hd, true, lf) : AcS) from ⟨by first | simp | (simp; done), by first | (simp; done) | (intros; omega), by omega, by omega⟩)), (by omega)⟩
                ·
                  obtain rfl : ov = false := by simpa using hs24
                  obtain rfl : lf = false := hk1 rfl
                  by_cases hs25 : rd = true
                  ·
                    subst hs25
                    have hk4 := hk2 rfl rfl
                    by_cases hs26 : y = hd
                    ·
                      refine Ends.region ?_
                      refine S.val hA (R.move rfl) rfl ?_; clear hA a; intro a hA
                      refine S.val hA (R.move rfl) rfl ?_; clear hA a; intro a hA
                      refine S.val hA (R.tt (R.lss rfl rfl) (by omega)) rfl ?_; clear hA a; intro a hA
                      refine S.val hA (R.move rfl) rfl ?_; clear hA a; intro a hA
                      refine S.valg (dj := 96) hA (by kernel_rfl) rfl (R.move rfl) rfl ?_; clear hA a; intro a hA
                      refine S.valg (dj := 96) hA (by kernel_rfl) rfl (R.indexAddrA (q := n15) ar46 rfl rfl (by omega) (by omega)) rfl ?_; clear hA a; intro a hA
                      refine S.valg (dj := 96) hA (by kernel_rfl) rfl (R.load sz28 rfl (hM.cell (k := 5) rfl (vals_at _ _ _ (actV_at hxj)))) rfl ?_; clear hA a; intro a hA
                      refine S.valg (dj := 96) hA (by kernel_rfl) rfl (R.eqlNil Try.underlying28 rfl rfl) rfl ?_; clear hA a; intro a hA
                      refine S.val hA (R.pickT rfl rfl) rfl ?_; clear hA a; intro a hA
                      refine S.val hA (R.assign rfl) rfl ?_; clear hA a; intro a hA
                      refine S.done ?_
                      replace hA : St 161 [(1, _), (2, _), (7, _), (8, _), (9, _), (11, _), (12, _), (13, _), (14, _), (50, _), (53, _), (54, _), (55, _), (56, _), (57, _), (58, _), (59, _), (60, _), (61, _), (62, _), (63, _), (64, _), (76, _), (77, _), (78, _), (84, _), (85, _), (86, _), (92, _), (93, _), (94, _), (95, _), (96, _), (97, _), (98, _), (99, _), (100, _), (101, _)] a := hA.sub ((.cons rfl (.cons rfl (.cons rfl (.cons rfl (.cons rfl (.cons rfl (.cons rfl (.cons rfl (.cons rfl (.cons rfl (.cons rfl (.cons rfl (.cons rfl (.cons rfl (.cons rfl (.cons rfl (.cons rfl (.cons rfl (.cons rfl (.cons rfl (.cons rfl (.cons rfl (.cons rfl (.cons rfl (.cons rfl (.cons rfl (.cons rfl (.cons rfl (.cons rfl (.cons rfl (.cons rfl (.cons rfl (.cons rfl (.cons rfl (.cons rfl (.cons rfl (.cons rfl (.cons rfl .nil)))))))))))))))))))))))))))))))))))))))
                      refine Ends.condF hA rfl ?_
                      refine Ends.seq ?_
                      refine Ends.region ?_
                      refine S.val hA (R.move rfl) rfl ?_; clear hA a; intro a hA
                      refine S.val hA (R.move rfl) rfl ?_; clear hA a; intro a hA
                      refine S.val hA (R.tt (R.lss rfl rfl) (by omega)) rfl ?_; clear hA a; intro a hA
                      refine S.val hA (R.assign rfl) rfl ?_; clear hA a; intro a hA
                      refine S.done ?_
                      replace hA : St 161 [(1, _), (2, _), (7, _), (8, _), (9, _), (11, _), (12, _), (13, _), (14, _), (50, _), (53, _), (54, _), (55, _), (56, _), (57, _), (58, _), (59, _), (60, _), (61, _), (62, _), (63, _), (64, _), (76, _), (77, _), (78, _), (84, _), (85, _), (86, _), (92, _), (93, _), (94, _), (95, _), (96, _), (97, _), (98, _), (99, _), (100, _), (101, _), (106, _), (107, _), (108, _), (109, _)] a := hA.sub ((.cons rfl (.cons rfl (.cons rfl (.cons rfl (.cons rfl (.cons rfl (.cons rfl (.cons rfl (.cons rfl (.cons rfl (.cons rfl (.cons rfl (.cons rfl (.cons rfl (.cons rfl (.cons rfl (.cons rfl (.cons rfl (.cons rfl (.cons rfl (.cons rfl (.cons rfl (.cons rfl (.cons rfl (.cons rfl (.cons rfl (.cons rfl (.cons rfl (.cons rfl (.cons rfl (.cons rfl (.cons rfl (.cons rfl (.cons rfl (.cons rfl (.cons rfl (.cons rfl (.cons rfl (.cons rfl (.cons rfl (.cons rfl (.cons rfl .nil)))))))))))))))))))))))))))))))))))))))))))
                      refine Ends.condT hA rfl ?_
                      refine Ends.seq ?_
                      refine Ends.seq ?_
                      refine Ends.region ?_
                      refine S.val hA (R.move rfl) rfl ?_; clear hA a; intro a hA
                      refine S.val hA (R.indexAddrA (q := n15) ar46 rfl rfl (by omega) (by omega)) rfl ?_; clear hA a; intro a hA
                      refine S.val hA (R.load sz28 rfl (hM.cell (k := 5) rfl (vals_at _ _ _ (actV_at hxj)))) rfl ?_; clear hA a; intro a hA
                      refine S.call hA (R.callF Try.func16 rfl rfl rfl) rfl (cact_over bj q9 hd true false false _ (hM.block (k := 0) rfl)) ?_; clear hA a
                      rintro e w22 ⟨rfl, rfl⟩
                      refine ⟨.bool false, rfl, fun a hA => ?_⟩
                      refine S.done ?_
                      replace hA : St 161 [(1, _), (2, _), (7, _), (8, _), (9, _), (11, _), (12, _), (13, _), (14, _), (50, _), (53, _), (54, _), (55, _), (56, _), (57, _), (58, _), (59, _), (60, _), (61, _), (62, _), (63, _), (64, _), (76, _), (77, _), (78, _), (84, _), (85, _), (86, _), (92, _), (93, _), (94, _), (95, _), (96, _), (97, _), (98, _), (99, _), (100, _), (101, _), (106, _), (107, _), (108, _), (109, _), (110, _), (111, _), (112, _), (113, _)] a := hA.sub ((.cons rfl (.cons rfl (.cons rfl (.cons rfl (.cons rfl (.cons rfl (.cons rfl (.cons rfl (.cons rfl (.cons rfl (.cons rfl (.cons rfl (.cons rfl (.cons rfl (.cons rfl (.cons rfl (.cons rfl (.cons rfl (.cons rfl (.cons rfl (.cons rfl (.cons rfl (.cons rfl (.cons rfl (.cons rfl (.cons rfl (.cons rfl (.cons rfl (.cons rfl (.cons rfl (.cons rfl (.cons rfl (.cons rfl (.cons rfl (.cons rfl (.cons rfl (.cons rfl (.cons rfl (.cons rfl (.cons rfl (.cons rfl (.cons rfl (.cons rfl (.cons rfl (.cons rfl (.cons rfl .nil)))))))))))))))))))))))))))))))))))))))))))))))
                      refine Ends.condF hA rfl ?_
                      refine Ends.skip ?_
                      refine Ends.seq ?_
                      refine Ends.seq ?_
                      refine Ends.region ?_
                      refine S.val hA (R.move rfl) rfl ?_; clear hA a; intro a hA
                      refine S.val hA (R.indexAddrA (q := n15) ar46 rfl rfl (by omega) (by omega)) rfl ?_; clear hA a; intro a hA
                      refine S.val hA (R.load sz28 rfl (hM.cell (k := 5) rfl (vals_at _ _ _ (actV_at hxj)))) rfl ?_; clear hA a; intro a hA
                      replace hM := hM.front (k := 3) rfl
                      replace hM := hM.front (k := 3) rfl
                      replace hM := hM.front (k := 2) rfl
                      replace hM : Mem _ _ [pt bj #[.pointer (some ⟨q9, 0, none⟩), .bool true, .int .i64 hd, .bool false, .bool false] 105, pt q9 #[.pointer (some ⟨m10, 0, none⟩), .int .i64 1] 108, memO m10 c11 [0, x, y, 0] s op, bundle ((xs.eraseIdx n15).map (actC q9)), pt b7 #[.int .i64 x, .int .i64 y] 45, pt b12 ((vals (xs.map actV))) 46] _ := hM
                      refine S.call hA (R.callF Try.func17 rfl rfl rfl) rfl (cstep_hit q9 m10 c11 1 [0, x, y, 0] s op (by first | omega | simp | (simp; omega)) (by first | omega | simp | (simp; omega)) (by first | omega | simp | (simp; omega)) hm10c11 bj hd false (by show y = hd; first | rfl | omega) (by first | omega | simp | (simp; omega)) _ (hM.hereN 3)) ?_; clear hA a
                      rintro e w23 ⟨rfl, hn⟩
                      replace hM : Mem _ _ [pt bj #[.pointer (some ⟨q9, 0, none⟩), .bool false, .int .i64 hd, .bool true, .bool true] 105, pt q9 #[.pointer (some ⟨m10, 0, none⟩), .int .i64 1] 108, memO m10 c11 [0, x, hd - 1, 0] (s + 1) ⟨3, 2, y, hd - 1, true⟩, bundle ((xs.eraseIdx n15).map (actC q9)), pt b7 #[.int .i64 x, .int .i64 y] 45, pt b12 ((vals (xs.map actV))) 46] _ := hM.callL 3 hn; clear hn
                      refine ⟨.bool true, rfl, fun a hA => ?_⟩
                      refine S.val hA (R.move rfl) rfl ?_; clear hA a; intro a hA
                      refine S.valg (dj := 118) hA (by kernel_rfl) rfl (R.move rfl) rfl ?_; clear hA a; intro a hA
                      refine S.valg (dj := 118) hA (by kernel_rfl) rfl (R.indexAddrA (q := n15) ar46 rfl rfl (by omega) (by omega)) rfl ?_; clear hA a; intro a hA
                      refine S.valg (dj := 118) hA (by kernel_rfl) rfl (R.load sz28 rfl (hM.cell (k := 5) rfl (vals_at _ _ _ (actV_at hxj)))) rfl ?_; clear hA a; intro a hA
                      refine S.callg (dj := 118) hA (by kernel_rfl) rfl (R.callF Try.func18 rfl rfl rfl) rfl (cact_left bj q9 hd false true true _ (hM.block (k := 0) rfl)) ?_; clear hA a
                      rintro e w24 ⟨rfl, rfl⟩
                      refine ⟨.bool true, rfl, fun a hA => ?_⟩
                      refine S.val hA (R.pickT rfl rfl) rfl ?_; clear hA a; intro a hA
                      refine S.done ?_
                      replace hA : St 161 [(1, _), (2, _), (7, _), (8, _), (9, _), (11, _), (12, _), (13, _), (14, _), (50, _), (53, _), (54, _), (55, _), (56, _), (57, _), (58, _), (59, _), (60, _), (61, _), (62, _), (63, _), (64, _), (76, _), (77, _), (78, _), (84, _), (85, _), (86, _), (92, _), (93, _), (94, _), (95, _), (96, _), (97, _), (98, _), (99, _), (100, _), (101, _), (106, _), (107, _), (108, _), (109, _), (110, _), (111, _), (112, _), (113, _), (114, _), (115, _), (116, _), (117, _), (118, _), (119, _), (120, _), (121, _), (122, _), (123, _)] a := hA.sub ((.cons rfl (.cons rfl (.cons rfl (.cons rfl (.cons rfl (.cons rfl (.cons rfl (.cons rfl (.cons rfl (.cons rfl (.cons rfl (.cons rfl (.cons rfl (.cons rfl (.cons rfl (.cons rfl (.cons rfl (.cons rfl (.cons rfl (.cons rfl (.cons rfl (.cons rfl (.cons rfl (.cons rfl (.cons rfl (.cons rfl (.cons rfl (.cons rfl (.cons rfl (.cons rfl (.cons rfl (.cons rfl (.cons rfl (.cons rfl (.cons rfl (.cons rfl (.cons rfl (.cons rfl (.cons rfl (.cons rfl (.cons rfl (.cons rfl (.cons rfl (.cons rfl (.cons rfl (.cons rfl (.cons rfl (.cons rfl (.cons rfl (.cons rfl (.cons rfl (.cons rfl (.cons rfl (.cons rfl (.cons rfl (.cons rfl .nil)))))))))))))))))))))))))))))))))))))))))))))))))))))))))
                      refine Ends.condT hA rfl ?_
                      refine Ends.region ?_
                      refine S.val hA (R.fieldAddr (q := 1) fi45_1 rfl rfl rfl) rfl ?_; clear hA a; intro a hA
                      refine S.val hA (R.load sz3 rfl (hM.cell (k := 4) rfl rfl)) rfl ?_; clear hA a; intro a hA
                      refine S.val hA (R.subI rfl rfl (r := hd - 1) (by omega) (by omega)) rfl ?_; clear hA a; intro a hA
                      refine S.val hA (R.fieldAddr (q := 1) fi45_1 rfl rfl rfl) rfl ?_; clear hA a; intro a hA
                      refine S.store (k := 4) hA hM sz3 rfl rfl rfl rfl rfl ?_; clear hM
                      intro w25 hM
                      replace hM : Mem _ _ [pt bj #[.pointer (some ⟨q9, 0, none⟩), .bool false, .int .i64 hd, .bool true, .bool true] 105, pt q9 #[.pointer (some ⟨m10, 0, none⟩), .int .i64 1] 108, memO m10 c11 [0, x, hd - 1, 0] (s + 1) ⟨3, 2, y, hd - 1, true⟩, bundle ((xs.eraseIdx n15).map (actC q9)), pt b7 #[.int .i64 x, .int .i64 (hd - 1)] 45, pt b12 ((vals (xs.map actV))) 46] _ := hM
                      refine S.done ?_
                      replace hA : St 161 [(1, _), (2, _), (7, _), (8, _), (9, _), (11, _), (12, _), (13, _), (14, _), (50, _), (53, _), (54, _), (55, _), (56, _), (57, _), (58, _), (59, _), (60, _), (61, _), (62, _), (63, _), (64, _), (76, _), (77, _), (78, _), (84, _), (85, _), (86, _), (92, _), (93, _), (94, _), (95, _), (96, _), (97, _), (98, _), (99, _), (100, _), (101, _), (106, _), (107, _), (108, _), (109, _), (110, _), (111, _), (112, _), (113, _), (114, _), (115, _), (116, _), (117, _), (118, _), (119, _), (120, _), (121, _), (122, _), (123, _), (124, _), (125, _), (126, _), (127, _)] a := hA.sub ((.cons rfl (.cons rfl (.cons rfl (.cons rfl (.cons rfl (.cons rfl (.cons rfl (.cons rfl (.cons rfl (.cons rfl (.cons rfl (.cons rfl (.cons rfl (.cons rfl (.cons rfl (.cons rfl (.cons rfl (.cons rfl (.cons rfl (.cons rfl (.cons rfl (.cons rfl (.cons rfl (.cons rfl (.cons rfl (.cons rfl (.cons rfl (.cons rfl (.cons rfl (.cons rfl (.cons rfl (.cons rfl (.cons rfl (.cons rfl (.cons rfl (.cons rfl (.cons rfl (.cons rfl (.cons rfl (.cons rfl (.cons rfl (.cons rfl (.cons rfl (.cons rfl (.cons rfl (.cons rfl (.cons rfl (.cons rfl (.cons rfl (.cons rfl (.cons rfl (.cons rfl (.cons rfl (.cons rfl (.cons rfl (.cons rfl (.cons rfl (.cons rfl (.cons rfl (.cons rfl .nil)))))))))))))))))))))))))))))))))))))))))))))))))))))))))))))
                      refine Ends.seq ?_
                      refine Ends.region ?_
                      refine S.val hA (R.move rfl) rfl ?_; clear hA a; intro a hA
                      refine S.call hA (R.callF Try.func27 rfl rfl rfl) rfl (steps_ok m10 c11 [0, x, hd - 1, 0] (s + 1) ⟨3, 2, y, hd - 1, true⟩ hm10c11 _ (hM.mem (k := 2) rfl)) ?_; clear hA a
                      rintro e w26 ⟨rfl, rfl⟩
                      refine ⟨.int .i64 (s + 1), rfl, fun a hA => ?_⟩
                      refine S.val hA (R.move rfl) rfl ?_; clear hA a; intro a hA
                      refine S.val hA (R.addI rfl rfl (r := s + 1) rfl (by omega)) rfl ?_; clear hA a; intro a hA
                      refine S.val hA (R.ff (R.gtr rfl rfl) (by omega)) rfl ?_; clear hA a; intro a hA
                      refine S.done ?_
                      replace hA : St 161 [(1, _), (2, _), (7, _), (8, _), (9, _), (11, _), (12, _), (13, _), (14, _), (50, _), (53, _), (54, _), (55, _), (56, _), (57, _), (58, _), (59, _), (60, _), (61, _), (62, _), (63, _), (64, _), (76, _), (77, _), (78, _), (84, _), (85, _), (86, _), (92, _), (93, _), (94, _), (95, _), (96, _), (97, _), (98, _), (99, _), (100, _), (101, _), (106, _), (107, _), (108, _), (109, _), (110, _), (111, _), (112, _), (113, _), (114, _), (115, _), (116, _), (117, _), (118, _), (119, _), (120, _), (121, _), (122, _), (123, _), (124, _), (125, _), (126, _), (127, _), (128, _), (129, _), (130, _), (131, _), (132, _)] a := hA.sub ((.cons rfl (.cons rfl (.cons rfl (.cons rfl (.cons rfl (.cons rfl (.cons rfl (.cons rfl (.cons rfl (.cons rfl (.cons rfl (.cons rfl (.cons rfl (.cons rfl (.cons rfl (.cons rfl (.cons rfl (.cons rfl (.cons rfl (.cons rfl (.cons rfl (.cons rfl (.cons rfl (.cons rfl (.cons rfl (.cons rfl (.cons rfl (.cons rfl (.cons rfl (.cons rfl (.cons rfl (.cons rfl (.cons rfl (.cons rfl (.cons rfl (.cons rfl (.cons rfl (.cons rfl (.cons rfl (.cons rfl (.cons rfl (.cons rfl (.cons rfl (.cons rfl (.cons rfl (.cons rfl (.cons rfl (.cons rfl (.cons rfl (.cons rfl (.cons rfl (.cons rfl (.cons rfl (.cons rfl (.cons rfl (.cons rfl (.cons rfl (.cons rfl (.cons rfl (.cons rfl (.cons rfl (.cons rfl (.cons rfl (.cons rfl (.cons rfl .nil))))))))))))))))))))))))))))))))))))))))))))))))))))))))))))))))))
                      refine Ends.condF hA rfl ?_
                      refine Ends.skip ?_
                      refine Ends.inBlock ?_
                      refine Ends.seq ?_
                      refine Ends.seq ?_
                      refine Ends.region ?_
                      refine S.val hA (R.move rfl) rfl ?_; clear hA a; intro a hA
                      refine S.val hA (R.ff (R.geq rfl rfl) (by omega)) rfl ?_; clear hA a; intro a hA
                      refine S.val hA (R.move rfl) rfl ?_; clear hA a; intro a hA
                      refine S.no (dj := 135) hA (by kernel_rfl) rfl rfl rfl ?_; clear hA a; intro a hA
                      refine S.no (dj := 135) hA (by kernel_rfl) rfl rfl rfl ?_; clear hA a; intro a hA
                      refine S.no (dj := 135) hA (by kernel_rfl) rfl rfl rfl ?_; clear hA a; intro a hA
                      refine S.no (dj := 135) hA (by kernel_rfl) rfl rfl rfl ?_; clear hA a; intro a hA
                      refine S.no (dj := 135) hA (by kernel_rfl) rfl rfl rfl ?_; clear hA a; intro a hA
                      refine S.val hA (R.pickF rfl rfl) rfl ?_; clear hA a; intro a hA
                      refine S.done ?_
                      replace hA : St 161 [(1, _), (2, _), (7, _), (8, _), (9, _), (11, _), (12, _), (13, _), (14, _), (50, _), (53, _), (54, _), (55, _), (56, _), (57, _), (58, _), (59, _), (60, _), (61, _), (62, _), (63, _), (64, _), (76, _), (77, _), (78, _), (84, _), (85, _), (86, _), (92, _), (93, _), (94, _), (95, _), (96, _), (97, _), (98, _), (99, _), (100, _), (101, _), (106, _), (107, _), (108, _), (109, _), (110, _), (111, _), (112, _), (113, _), (114, _), (115, _), (116, _), (117, _), (118, _), (119, _), (120, _), (121, _), (122, _), (123, _), (124, _), (125, _), (126, _), (127, _), (128, _), (129, _), (130, _), (131, _), (132, _), (133, _), (134, _), (135, _), (141, _)] a := hA.sub ((.cons rfl (.cons rfl (.cons rfl (.cons rfl (.cons rfl (.cons rfl (.cons rfl (.cons rfl (.cons rfl (.cons rfl (.cons rfl (.cons rfl (.cons rfl (.cons rfl (.cons rfl (.cons rfl (.cons rfl (.cons rfl (.cons rfl (.cons rfl (.cons rfl (.cons rfl (.cons rfl (.cons rfl (.cons rfl (.cons rfl (.cons rfl (.cons rfl (.cons rfl (.cons rfl (.cons rfl (.cons rfl (.cons rfl (.cons rfl (.cons rfl (.cons rfl (.cons rfl (.cons rfl (.cons rfl (.cons rfl (.cons rfl (.cons rfl (.cons rfl (.cons rfl (.cons rfl (.cons rfl (.cons rfl (.cons rfl (.cons rfl (.cons rfl (.cons rfl (.cons rfl (.cons rfl (.cons rfl (.cons rfl (.cons rfl (.cons rfl (.cons rfl (.cons rfl (.cons rfl (.cons rfl (.cons rfl (.cons rfl (.cons rfl (.cons rfl (.cons rfl (.cons rfl (.cons rfl (.cons rfl .nil))))))))))))))))))))))))))))))))))))))))))))))))))))))))))))))))))))))
                      refine Ends.condF hA rfl ?_
                      refine Ends.skip ?_
                      refine Ends.seq ?_
                      refine Ends.region ?_
                      refine S.val hA (R.move rfl) rfl ?_; clear hA a; intro a hA
                      replace hM := hM.front (k := 2) rfl
                      replace hM := hM.front (k := 2) rfl
                      replace hM : Mem _ _ [pt q9 #[.pointer (some ⟨m10, 0, none⟩), .int .i64 1] 108, memO m10 c11 [0, x, hd - 1, 0] (s + 1) ⟨3, 2, y, hd - 1, true⟩, pt bj #[.pointer (some ⟨q9, 0, none⟩), .bool false, .int .i64 hd, .bool true, .bool true] 105, bundle ((xs.eraseIdx n15).map (actC q9)), pt b7 #[.int .i64 x, .int .i64 (hd - 1)] 45, pt b12 ((vals (xs.map actV))) 46] _ := hM
                      refine S.call hA (R.callF Try.func19 rfl rfl rfl) rfl (cnt_Now q9 m10 c11 1 [0, x, hd - 1, 0] (s + 1) ⟨3, 2, y, hd - 1, true⟩ (by first | omega | simp | (simp; omega)) (by first | omega | simp | (simp; omega)) (by first | omega | simp | (simp; omega)) hm10c11 _ (hM.hereN 2)) ?_; clear hA a
                      rintro e w27 ⟨rfl, hn⟩
                      replace hM : Mem _ _ [pt q9 #[.pointer (some ⟨m10, 0, none⟩), .int .i64 1] 108, memO m10 c11 [0, x, hd - 1, 0] (s + 1) ⟨3, 2, y, hd - 1, true⟩, pt bj #[.pointer (some ⟨q9, 0, none⟩), .bool false, .int .i64 hd, .bool true, .bool true] 105, bundle ((xs.eraseIdx n15).map (actC q9)), pt b7 #[.int .i64 x, .int .i64 (hd - 1)] 45, pt b12 ((vals (xs.map actV))) 46] _ := hM.callL 2 hn; clear hn
                      refine ⟨.tuple #[.int .i64 x, .int .i64 (hd - 1)], rfl, fun a hA => ?_⟩
                      refine S.val hA (R.move rfl) rfl ?_; clear hA a; intro a hA
                      refine S.val hA (R.extract (v := .int .i64 x) rfl rfl) rfl ?_; clear hA a; intro a hA
                      refine S.val hA (R.extract (v := .int .i64 (hd - 1)) rfl rfl) rfl ?_; clear hA a; intro a hA
                      refine S.val hA (R.assign rfl) rfl ?_; clear hA a; intro a hA
                      refine S.val hA (R.assign rfl) rfl ?_; clear hA a; intro a hA
                      refine S.done ?_
                      replace hA : St 161 [(1, _), (2, _), (7, _), (8, _), (9, _), (11, _), (12, _), (13, _), (14, _), (16, _), (17, _), (50, _), (53, _), (54, _), (55, _), (56, _), (57, _), (58, _), (59, _), (60, _), (61, _), (62, _), (63, _), (64, _), (76, _), (77, _), (78, _), (84, _), (85, _), (86, _), (92, _), (93, _), (94, _), (95, _), (96, _), (97, _), (98, _), (99, _), (100, _), (101, _), (106, _), (107, _), (108, _), (109, _), (110, _), (111, _), (112, _), (113, _), (114, _), (115, _), (116, _), (117, _), (118, _), (119, _), (120, _), (121, _), (122, _), (123, _), (124, _), (125, _), (126, _), (127, _), (128, _), (129, _), (130, _), (131, _), (132, _), (133, _), (134, _), (135, _), (141, _), (142, _), (143, _), (144, _), (145, _), (146, _)] a := hA.sub ((.cons rfl (.cons rfl (.cons rfl (.cons rfl (.cons rfl (.cons rfl (.cons rfl (.cons rfl (.cons rfl (.cons rfl (.cons rfl (.cons rfl (.cons rfl (.cons rfl (.cons rfl (.cons rfl (.cons rfl (.cons rfl (.cons rfl (.cons rfl (.cons rfl (.cons rfl (.cons rfl (.cons rfl (.cons rfl (.cons rfl (.cons rfl (.cons rfl (.cons rfl (.cons rfl (.cons rfl (.cons rfl (.cons rfl (.cons rfl (.cons rfl (.cons rfl (.cons rfl (.cons rfl (.cons rfl (.cons rfl (.cons rfl (.cons rfl (.cons rfl (.cons rfl (.cons rfl (.cons rfl (.cons rfl (.cons rfl (.cons rfl (.cons rfl (.cons rfl (.cons rfl (.cons rfl (.cons rfl (.cons rfl (.cons rfl (.cons rfl (.cons rfl (.cons rfl (.cons rfl (.cons rfl (.cons rfl (.cons rfl (.cons rfl (.cons rfl (.cons rfl (.cons rfl (.cons rfl (.cons rfl (.cons rfl (.cons rfl (.cons rfl (.cons rfl (.cons rfl (.cons rfl (.cons rfl .nil)))))))))))))))))))))))))))))))))))))))))))))))))))))))))))))))))))))))))))))
                      refine Ends.seq ?_
                      refine Ends.region ?_
                      refine S.val hA (R.move rfl) rfl ?_; clear hA a; intro a hA
                      refine S.val hA (R.fieldAddr (q := 0) fi45_0 rfl rfl rfl) rfl ?_; clear hA a; intro a hA
                      refine S.val hA (R.load sz3 rfl (hM.cell (k := 4) rfl rfl)) rfl ?_; clear hA a; intro a hA
                      refine S.val hA (R.ff (R.neq rfl rfl) (by omega)) rfl ?_; clear hA a; intro a hA
                      refine S.val hA (R.move rfl) rfl ?_; clear hA a; intro a hA
                      refine S.valg (dj := 151) hA (by kernel_rfl) rfl (R.move rfl) rfl ?_; clear hA a; intro a hA
                      refine S.valg (dj := 151) hA (by kernel_rfl) rfl (R.fieldAddr (q := 1) fi45_1 rfl rfl rfl) rfl ?_; clear hA a; intro a hA
                      refine S.valg (dj := 151) hA (by kernel_rfl) rfl (R.load sz3 rfl (hM.cell (k := 4) rfl rfl)) rfl ?_; clear hA a; intro a hA
                      refine S.valg (dj := 151) hA (by kernel_rfl) rfl (R.ff (R.neq rfl rfl) (by omega)) rfl ?_; clear hA a; intro a hA
                      refine S.val hA (R.pickF rfl rfl) rfl ?_; clear hA a; intro a hA
                      refine S.val hA (R.move rfl) rfl ?_; clear hA a; intro a hA
                      refine S.valg (dj := 157) hA (by kernel_rfl) rfl (R.move rfl) rfl ?_; clear hA a; intro a hA
                      refine S.valg (dj := 157) hA (by kernel_rfl) rfl (R.ff (R.lss rfl rfl) (by omega)) rfl ?_; clear hA a; intro a hA
                      refine S.val hA (R.pickF rfl rfl) rfl ?_; clear hA a; intro a hA
                      refine S.done ?_
                      replace hA : St 161 [(1, _), (2, _), (7, _), (8, _), (9, _), (11, _), (12, _), (13, _), (14, _), (16, _), (17, _), (50, _), (53, _), (54, _), (55, _), (56, _), (57, _), (58, _), (59, _), (60, _), (61, _), (62, _), (63, _), (64, _), (76, _), (77, _), (78, _), (84, _), (85, _), (86, _), (92, _), (93, _), (94, _), (95, _), (96, _), (97, _), (98, _), (99, _), (100, _), (101, _), (106, _), (107, _), (108, _), (109, _), (110, _), (111, _), (112, _), (113, _), (114, _), (115, _), (116, _), (117, _), (118, _), (119, _), (120, _), (121, _), (122, _), (123, _), (124, _), (125, _), (126, _), (127, _), (128, _), (129, _), (130, _), (131, _), (132, _), (133, _), (134, _), (135, _), (141, _), (142, _), (143, _), (144, _), (145, _), (146, _), (147, _), (148, _), (149, _), (150, _), (151, _), (152, _), (153, _), (154, _), (155, _), (156, _), (157, _), (158, _), (159, _), (160, _)] a := hA.sub ((.cons rfl (.cons rfl (.cons rfl (.cons rfl (.cons rfl (.cons rfl (.cons rfl (.cons rfl (.cons rfl (.cons rfl (.cons rfl (.cons rfl (.cons rfl (.cons rfl (.cons rfl (.cons rfl (.cons rfl (.cons rfl (.cons rfl (.cons rfl (.cons rfl (.cons rfl (.cons rfl (.cons rfl (.cons rfl (.cons rfl (.cons rfl (.cons rfl (.cons rfl (.cons rfl (.cons rfl (.cons rfl (.cons rfl (.cons rfl (.cons rfl (.cons rfl (.cons rfl (.cons rfl (.cons rfl (.cons rfl (.cons rfl (.cons rfl (.cons rfl (.cons rfl (.cons rfl (.cons rfl (.cons rfl (.cons rfl (.cons rfl (.cons rfl (.cons rfl (.cons rfl (.cons rfl (.cons rfl (.cons rfl (.cons rfl (.cons rfl (.cons rfl (.cons rfl (.cons rfl (.cons rfl (.cons rfl (.cons rfl (.cons rfl (.cons rfl (.cons rfl (.cons rfl (.cons rfl (.cons rfl (.cons rfl (.cons rfl (.cons rfl (.cons rfl (.cons rfl (.cons rfl (.cons rfl (.cons rfl (.cons rfl (.cons rfl (.cons rfl (.cons rfl (.cons rfl (.cons rfl (.cons rfl (.cons rfl (.cons rfl (.cons rfl (.cons rfl (.cons rfl (.cons rfl .nil)))))))))))))))))))))))))))))))))))))))))))))))))))))))))))))))))))))))))))))))))))))))))))
                      refine Ends.condF hA rfl ?_
                      refine Ends.skip ?_
                      refine Ends.inBlock ?_
                      refine Ends.region ?_
                      refine S.val hA (R.move rfl) rfl ?_; clear hA a; intro a hA
                      refine S.val hA (R.addI rfl rfl (r := ((k : Int)) + 1) rfl (by omega)) rfl ?_; clear hA a; intro a hA
                      refine S.val hA (R.assign rfl) rfl ?_; clear hA a; intro a hA
                      refine S.done ?_
                      replace hA : St 161 [(1, _), (2, _), (7, _), (8, _), (9, _), (11, _), (12, _), (13, _), (14, _), (16, _), (17, _), (50, _), (51, _), (52, _), (53, _), (54, _), (55, _), (56, _), (57, _), (58, _), (59, _), (60, _), (61, _), (62, _), (63, _), (64, _), (76, _), (77, _), (78, _), (84, _), (85, _), (86, _), (92, _), (93, _), (94, _), (95, _), (96, _), (97, _), (98, _), (99, _), (100, _), (101, _), (106, _), (107, _), (108, _), (109, _), (110, _), (111, _), (112, _), (113, _), (114, _), (115, _), (116, _), (117, _), (118, _), (119, _), (120, _), (121, _), (122, _), (123, _), (124, _), (125, _), (126, _), (127, _), (128, _), (129, _), (130, _), (131, _), (132, _), (133, _), (134, _), (135, _), (141, _), (142, _), (143, _), (144, _), (145, _), (146, _), (147, _), (148, _), (149, _), (150, _), (151, _), (152, _), (153, _), (154, _), (155, _), (156, _), (157, _), (158, _), (159, _), (160, _)] a := hA.sub ((.cons rfl (.cons rfl (.cons rfl (.cons rfl (.cons rfl (.cons rfl (.cons rfl (.cons rfl (.cons rfl (.cons rfl (.cons rfl (.cons rfl (.cons rfl (.cons rfl (.cons rfl (.cons rfl (.cons rfl (.cons rfl (.cons rfl (.cons rfl (.cons rfl (.cons rfl (.cons rfl (.cons rfl (.cons rfl (.cons rfl (.cons rfl (.cons rfl (.cons rfl (.cons rfl (.cons rfl (.cons rfl (.cons rfl (.cons rfl (.cons rfl (.cons rfl (.cons rfl (.cons rfl (.cons rfl (.cons rfl (.cons rfl (.cons rfl (.cons rfl (.cons rfl (.cons rfl (.cons rfl (.cons rfl (.cons rfl (.cons rfl (.cons rfl (.cons rfl (.cons rfl (.cons rfl (.cons rfl (.cons rfl (.cons rfl (.cons rfl (.cons rfl (.cons rfl (.cons rfl (.cons rfl (.cons rfl (.cons rfl (.cons rfl (.cons rfl (.cons rfl (.cons rfl (.cons rfl (.cons rfl (.cons rfl (.cons rfl (.cons rfl (.cons rfl (.cons rfl (.cons rfl (.cons rfl (.cons rfl (.cons rfl (.cons rfl (.cons rfl (.cons rfl (.cons rfl (.cons rfl (.cons rfl (.cons rfl (.cons rfl (.cons rfl (.cons rfl (.cons rfl (.cons rfl (.cons rfl (.cons rfl .nil)))))))))))))))))))))))))))))))))))))))))))))))))))))))))))))))))))))))))))))))))))))))))))))
                      replace hM := hM.front (k := 3) rfl
                      replace hM := hM.front (k := 3) rfl
                      replace hM : Mem _ _ [pt bj #[.pointer (some ⟨q9, 0, none⟩), .bool false, .int .i64 hd, .bool true, .bool true] 105, bundle ((xs.eraseIdx n15).map (actC q9)), pt q9 #[.pointer (some ⟨m10, 0, none⟩), .int .i64 1] 108, memO m10 c11 [0, x, hd - 1, 0] (s + 1) ⟨3, 2, y, hd - 1, true⟩, pt b7 #[.int .i64 x, .int .i64 (hd - 1)] 45, pt b12 ((vals (xs.map actV))) 46] _ := hM
                      replace hM := hM.closeB (f := actC q9) (y := (some (bj, false, hd, true, true) : AcS)) hxj
                      rw [← actV_set (s' := (false, hd, true, true)) hxj] at hM
                      replace hM : Mem _ _ [bundle ((xs.set n15 (some (bj, false, hd, true, true) : AcS)).map (actC q9)), pt q9 #[.pointer (some ⟨m10, 0, none⟩), .int .i64 1] 108, memO m10 c11 [0, x, hd - 1, 0] (s + 1) ⟨3, 2, y, hd - 1, true⟩, pt b7 #[.int .i64 x, .int .i64 (hd - 1)] 45, pt b12 ((vals ((xs.set n15 (some (bj, false, hd, true, true) : AcS)).map actV))) 46] _ := hM
                      replace hM : Mem _ _ [bundle ((xs.set n15 (some (bj, false, hd, true, true) : AcS)).map (actC q9)), pt q9 #[.pointer (some ⟨m10, 0, none⟩), .int .i64 1] 108, memO m10 c11 [0, x, hd - 1, 0] (s + 1) ⟨3, 2, y, hd - 1, true⟩, pt b7 #[.int .i64 x, .int .i64 (hd - 1)] 45, pt b12 ((vals ((xs.set n15 (some (bj, false, hd, true, true) : AcS)).map actV))) 46] _ := hM.firstN 5
                      exact hNext ((k + 1, x, hd - 1, (xs.set n15 (some (bj, false, hd, true, true) : AcS)), s + 1, ⟨3, 2, y, hd - 1, true⟩)) _ _ ((by show 100 - (k + 1) < 100 - k; omega)) ⟨hA.sub ((.cons rfl (.cons rfl (.cons rfl (.cons rfl (.cons rfl (.cons rfl (.cons rfl .nil)))))))), hM, (by omega), (by omega), (by omega), (by rw [List.length_set]; exact hxlen), (acOK_set hxok _ (show AcOK (some (bj, false, hd, true, true) : AcS) from ⟨by first | simp | (simp; done), by first | (simp; done) | (intros; omega), by omega, by omega⟩)), (by omega)⟩
                    ·
                      refine Ends.region ?_
                      refine S.val hA (R.move rfl) rfl ?_; clear hA a; intro a hA
                      refine S.val hA (R.move rfl) rfl ?_; clear hA a; intro a hA
                      refine S.val hA (R.tt (R.lss rfl rfl) (by omega)) rfl ?_; clear hA a; intro a hA
                      refine S.val hA (R.move rfl) rfl ?_; clear hA a; intro a hA
                      refine S.valg (dj := 96) hA (by kernel_rfl) rfl (R.move rfl) rfl ?_; clear hA a; intro a hA
                      refine S.valg (dj := 96) hA (by kernel_rfl) rfl (R.indexAddrA (q := n15) ar46 rfl rfl (by omega) (by omega)) rfl ?_; clear hA a; intro a hA
                      refine S.valg (dj := 96) hA (by kernel_rfl) rfl (R.load sz28 rfl (hM.cell (k := 5) rfl (vals_at _ _ _ (actV_at hxj)))) rfl ?_; clear hA a; intro a hA
                      refine S.valg (dj := 96) hA (by kernel_rfl) rfl (R.eqlNil Try.underlying28 rfl rfl) rfl ?_; clear hA a; intro a hA
                      refine S.val hA (R.pickT rfl rfl) rfl ?_; clear hA a; intro a hA
                      refine S.val hA (R.assign rfl) rfl ?_; clear hA a; intro a hA
                      refine S.done ?_
                      replace hA : St 161 [(1, _), (2, _), (7, _), (8, _), (9, _), (11, _), (12, _), (13, _), (14, _), (50, _), (53, _), (54, _), (55, _), (56, _), (57, _), (58, _), (59, _), (60, _), (61, _), (62, _), (63, _), (64, _), (76, _), (77, _), (78, _), (84, _), (85, _), (86, _), (92, _), (93, _), (94, _), (95, _), (96, _), (97, _), (98, _), (99, _), (100, _), (101, _)] a := hA.sub ((.cons rfl (.cons rfl (.cons rfl (.cons rfl (.cons rfl (.cons rfl (.cons rfl (.cons rfl (.cons rfl (.cons rfl (.cons rfl (.cons rfl (.cons rfl (.cons rfl (.cons rfl (.cons rfl (.cons rfl (.cons rfl (.cons rfl (.cons rfl (.cons rfl (.cons rfl (.cons rfl (.cons rfl (.cons rfl (.cons rfl (.cons rfl (.cons rfl (.cons rfl (.cons rfl (.cons rfl (.cons rfl (.cons rfl (.cons rfl (.cons rfl (.cons rfl (.cons rfl (.cons rfl .nil)))))))))))))))))))))))))))))))))))))))
                      refine Ends.condF hA rfl ?_
                      refine Ends.seq ?_
                      refine Ends.region ?_
                      refine S.val hA (R.move rfl) rfl ?_; clear hA a; intro a hA
                      refine S.val hA (R.move rfl) rfl ?_; clear hA a; intro a hA
                      refine S.val hA (R.tt (R.lss rfl rfl) (by omega)) rfl ?_; clear hA a; intro a hA
                      refine S.val hA (R.assign rfl) rfl ?_; clear hA a; intro a hA
                      refine S.done ?_
                      replace hA : St 161 [(1, _), (2, _), (7, _), (8, _), (9, _), (11, _), (12, _), (13, _), (14, _), (50, _), (53, _), (54, _), (55, _), (56, _), (57, _), (58, _), (59, _), (60, _), (61, _), (62, _), (63, _), (64, _), (76, _), (77, _), (78, _), (84, _), (85, _), (86, _), (92, _), (93, _), (94, _), (95, _), (96, _), (97, _), (98, _), (99, _), (100, _), (101, _), (106, _), (107, _), (108, _), (109, _)] a := hA.sub ((.cons rfl (.cons rfl (.cons rfl (.cons rfl (.cons rfl (.cons rfl (.cons rfl (.cons rfl (.cons rfl (.cons rfl (.cons rfl (.cons rfl (.cons rfl (.cons rfl (.cons rfl (.cons rfl (.cons rfl (.cons rfl (.cons rfl (.cons rfl (.cons rfl (.cons rfl (.cons rfl (.cons rfl (.cons rfl (.cons rfl (.cons rfl (.cons rfl (.cons rfl (.cons rfl (.cons rfl (.cons rfl (.cons rfl (.cons rfl (.cons rfl (.cons rfl (.cons rfl (.cons rfl (.cons rfl (.cons rfl (.cons rfl (.cons rfl .nil)))))))))))))))))))))))))))))))))))))))))))
                      refine Ends.condT hA rfl ?_
                      refine Ends.seq ?_
                      refine Ends.seq ?_
                      refine Ends.region ?_
                      refine S.val hA (R.move rfl) rfl ?_; clear hA a; intro a hA
                      refine S.val hA (R.indexAddrA (q := n15) ar46 rfl rfl (by omega) (by omega)) rfl ?_; clear hA a; intro a hA
                      refine S.val hA (R.load sz28 rfl (hM.cell (k := 5) rfl (vals_at _ _ _ (actV_at hxj)))) rfl ?_; clear hA a; intro a hA
                      refine S.call hA (R.callF Try.func16 rfl rfl rfl) rfl (cact_over bj q9 hd true false false _ (hM.block (k := 0) rfl)) ?_; clear hA a
                      rintro e w28 ⟨rfl, rfl⟩
                      refine ⟨.bool false, rfl, fun a hA => ?_⟩
                      refine S.done ?_
                      replace hA : St 161 [(1, _), (2, _), (7, _), (8, _), (9, _), (11, _), (12, _), (13, _), (14, _), (50, _), (53, _), (54, _), (55, _), (56, _), (57, _), (58, _), (59, _), (60, _), (61, _), (62, _), (63, _), (64, _), (76, _), (77, _), (78, _), (84, _), (85, _), (86, _), (92, _), (93, _), (94, _), (95, _), (96, _), (97, _), (98, _), (99, _), (100, _), (101, _), (106, _), (107, _), (108, _), (109, _), (110, _), (111, _), (112, _), (113, _)] a := hA.sub ((.cons rfl (.cons rfl (.cons rfl (.cons rfl (.cons rfl (.cons rfl (.cons rfl (.cons rfl (.cons rfl (.cons rfl (.cons rfl (.cons rfl (.cons rfl (.cons rfl (.cons rfl (.cons rfl (.cons rfl (.cons rfl (.cons rfl (.cons rfl (.cons rfl (.cons rfl (.cons rfl (.cons rfl (.cons rfl (.cons rfl (.cons rfl (.cons rfl (.cons rfl (.cons rfl (.cons rfl (.cons rfl (.cons rfl (.cons rfl (.cons rfl (.cons rfl (.cons rfl (.cons rfl (.cons rfl (.cons rfl (.cons rfl (.cons rfl (.cons rfl (.cons rfl (.cons rfl (.cons rfl .nil)))))))))))))))))))))))))))))))))))))))))))))))
                      refine Ends.condF hA rfl ?_
                      refine Ends.skip ?_
                      refine Ends.seq ?_
                      refine Ends.seq ?_
                      refine Ends.region ?_
                      refine S.val hA (R.move rfl) rfl ?_; clear hA a; intro a hA
                      refine S.val hA (R.indexAddrA (q := n15) ar46 rfl rfl (by omega) (by omega)) rfl ?_; clear hA a; intro a hA
                      refine S.val hA (R.load sz28 rfl (hM.cell (k := 5) rfl (vals_at _ _ _ (actV_at hxj)))) rfl ?_; clear hA a; intro a hA
                      replace hM := hM.front (k := 3) rfl
                      replace hM := hM.front (k := 3) rfl
                      replace hM := hM.front (k := 2) rfl
                      replace hM : Mem _ _ [pt bj #[.pointer (some ⟨q9, 0, none⟩), .bool true, .int .i64 hd, .bool false, .bool false] 105, pt q9 #[.pointer (some ⟨m10, 0, none⟩), .int .i64 1] 108, memO m10 c11 [0, x, y, 0] s op, bundle ((xs.eraseIdx n15).map (actC q9)), pt b7 #[.int .i64 x, .int .i64 y] 45, pt b12 ((vals (xs.map actV))) 46] _ := hM
                      refine S.call hA (R.callF Try.func17 rfl rfl rfl) rfl (cstep_miss q9 m10 c11 1 [0, x, y, 0] s op (by first | omega | simp | (simp; omega)) (by first | omega | simp | (simp; omega)) (by first | omega | simp | (simp; omega)) hm10c11 bj hd false (by show y ≠ hd; omega) (by first | omega | simp | (simp; omega)) _ (hM.hereN 3)) ?_; clear hA a
                      rintro e w29 ⟨rfl, hn⟩
                      replace hM : Mem _ _ [pt bj #[.pointer (some ⟨q9, 0, none⟩), .bool false, .int .i64 hd, .bool false, .bool false] 105, pt q9 #[.pointer (some ⟨m10, 0, none⟩), .int .i64 1] 108, memO m10 c11 [0, x, y, 0] (s + 1) ⟨3, 2, y, y, false⟩, bundle ((xs.eraseIdx n15).map (actC q9)), pt b7 #[.int .i64 x, .int .i64 y] 45, pt b12 ((vals (xs.map actV))) 46] _ := hM.callL 3 hn; clear hn
                      refine ⟨.bool false, rfl, fun a hA => ?_⟩
                      refine S.val hA (R.move rfl) rfl ?_; clear hA a; intro a hA
                      refine S.no (dj := 118) hA (by kernel_rfl) rfl rfl rfl ?_; clear hA a; intro a hA
                      refine S.no (dj := 118) hA (by kernel_rfl) rfl rfl rfl ?_; clear hA a; intro a hA
                      refine S.no (dj := 118) hA (by kernel_rfl) rfl rfl rfl ?_; clear hA a; intro a hA
                      refine S.no (dj := 118) hA (by kernel_rfl) rfl rfl rfl ?_; clear hA a; intro a hA
                      refine S.val hA (R.pickF rfl rfl) rfl ?_; clear hA a; intro a hA
                      refine S.done ?_
                      replace hA : St 161 [(1, _), (2, _), (7, _), (8, _), (9, _), (11, _), (12, _), (13, _), (14, _), (50, _), (53, _), (54, _), (55, _), (56, _), (57, _), (58, _), (59, _), (60, _), (61, _), (62, _), (63, _), (64, _), (76, _), (77, _), (78, _), (84, _), (85, _), (86, _), (92, _), (93, _), (94, _), (95, _), (96, _), (97, _), (98, _), (99, _), (100, _), (101, _), (106, _), (107, _), (108, _), (109, _), (110, _), (111, _), (112, _), (113, _), (114, _), (115, _), (116, _), (117, _), (118, _), (123, _)] a := hA.sub ((.cons rfl (.cons rfl (.cons rfl (.cons rfl (.cons rfl (.cons rfl (.cons rfl (.cons rfl (.cons rfl (.cons rfl (.cons rfl (.cons rfl (.cons rfl (.cons rfl (.cons rfl (.cons rfl (.cons rfl (.cons rfl (.cons rfl (.cons rfl (.cons rfl (.cons rfl (.cons rfl (.cons rfl (.cons rfl (.cons rfl (.cons rfl (.cons rfl (.cons rfl (.cons rfl (.cons rfl (.cons rfl (.cons rfl (.cons rfl (.cons rfl (.cons rfl (.cons rfl (.cons rfl (.cons rfl (.cons rfl (.cons rfl (.cons rfl (.cons rfl (.cons rfl (.cons rfl (.cons rfl (.cons rfl (.cons rfl (.cons rfl (.cons rfl (.cons rfl (.cons rfl .nil)))))))))))))))))))))))))))))))))))))))))))))))))))))
                      refine Ends.condF hA rfl ?_
                      refine Ends.skip ?_
                      refine Ends.seq ?_
                      refine Ends.region ?_
                      refine S.val hA (R.move rfl) rfl ?_; clear hA a; intro a hA
                      refine S.call hA (R.callF Try.func27 rfl rfl rfl) rfl (steps_ok m10 c11 [0, x, y, 0] (s + 1) ⟨3, 2, y, y, false⟩ hm10c11 _ (hM.mem (k := 2) rfl)) ?_; clear hA a
                      rintro e w30 ⟨rfl, rfl⟩
                      refine ⟨.int .i64 (s + 1), rfl, fun a hA => ?_⟩
                      refine S.val hA (R.move rfl) rfl ?_; clear hA a; intro a hA
                      refine S.val hA (R.addI rfl rfl (r := s + 1) rfl (by omega)) rfl ?_; clear hA a; intro a hA
                      refine S.val hA (R.ff (R.gtr rfl rfl) (by omega)) rfl ?_; clear hA a; intro a hA
                      refine S.done ?_
                      replace hA : St 161 [(1, _), (2, _), (7, _), (8, _), (9, _), (11, _), (12, _), (13, _), (14, _), (50, _), (53, _), (54, _), (55, _), (56, _), (57, _), (58, _), (59, _), (60, _), (61, _), (62, _), (63, _), (64, _), (76, _), (77, _), (78, _), (84, _), (85, _), (86, _), (92, _), (93, _), (94, _), (95, _), (96, _), (97, _), (98, _), (99, _), (100, _), (101, _), (106, _), (107, _), (108, _), (109, _), (110, _), (111, _), (112, _), (113, _), (114, _), (115, _), (116, _), (117, _), (118, _), (123, _), (128, _), (129, _), (130, _), (131, _), (132, _)] a := hA.sub ((.cons rfl (.cons rfl (.cons rfl (.cons rfl (.cons rfl (.cons rfl (.cons rfl (.cons rfl (.cons rfl (.cons rfl (.cons rfl (.cons rfl (.cons rfl (.cons rfl (.cons rfl (.cons rfl (.cons rfl (.cons rfl (.cons rfl (.cons rfl (.cons rfl (.cons rfl (.cons rfl (.cons rfl (.cons rfl (.cons rfl (.cons rfl (.cons rfl (.cons rfl (.cons rfl (.cons rfl (.cons rfl (.cons rfl (.cons rfl (.cons rfl (.cons rfl (.cons rfl (.cons rfl (.cons rfl (.cons rfl (.cons rfl (.cons rfl (.cons rfl (.cons rfl (.cons rfl (.cons rfl (.cons rfl (.cons rfl (.cons rfl (.cons rfl (.cons rfl (.cons rfl (.cons rfl (.cons rfl (.cons rfl (.cons rfl (.cons rfl .nil))))))))))))))))))))))))))))))))))))))))))))))))))))))))))
                      refine Ends.condF hA rfl ?_
                      refine Ends.skip ?_
                      refine Ends.inBlock ?_
                      refine Ends.seq ?_
                      refine Ends.seq ?_
                      refine Ends.region ?_
                      refine S.val hA (R.move rfl) rfl ?_; clear hA a; intro a hA
                      refine S.val hA (R.ff (R.geq rfl rfl) (by omega)) rfl ?_; clear hA a; intro a hA
                      refine S.val hA (R.move rfl) rfl ?_; clear hA a; intro a hA
                      refine S.no (dj := 135) hA (by kernel_rfl) rfl rfl rfl ?_; clear hA a; intro a hA
                      refine S.no (dj := 135) hA (by kernel_rfl) rfl rfl rfl ?_; clear hA a; intro a hA
                      refine S.no (dj := 135) hA (by kernel_rfl) rfl rfl rfl ?_; clear hA a; intro a hA
                      refine S.no (dj := 135) hA (by kernel_rfl) rfl rfl rfl ?_; clear hA a; intro a hA
                      refine S.no (dj := 135) hA (by kernel_rfl) rfl rfl rfl ?_; clear hA a; intro a hA
                      refine S.val hA (R.pickF rfl rfl) rfl ?_; clear hA a; intro a hA
                      refine S.done ?_
                      replace hA : St 161 [(1, _), (2, _), (7, _), (8, _), (9, _), (11, _), (12, _), (13, _), (14, _), (50, _), (53, _), (54, _), (55, _), (56, _), (57, _), (58, _), (59, _), (60, _), (61, _), (62, _), (63, _), (64, _), (76, _), (77, _), (78, _), (84, _), (85, _), (86, _), (92, _), (93, _), (94, _), (95, _), (96, _), (97, _), (98, _), (99, _), (100, _), (101, _), (106, _), (107, _), (108, _), (109, _), (110, _), (111, _), (112, _), (113, _), (114, _), (115, _), (116, _), (117, _), (118, _), (123, _), (128, _), (129, _), (130, _), (131, _), (132, _), (133, _), (134, _), (135, _), (141, _)] a := hA.sub ((.cons rfl (.cons rfl (.cons rfl (.cons rfl (.cons rfl (.cons rfl (.cons rfl (.cons rfl (.cons rfl (.cons rfl (.cons rfl (.cons rfl (.cons rfl (.cons rfl (.cons rfl (.cons rfl (.cons rfl (.cons rfl (.cons rfl (.cons rfl (.cons rfl (.cons rfl (.cons rfl (.cons rfl (.cons rfl (.cons rfl (.cons rfl (.cons rfl (.cons rfl (.cons rfl (.cons rfl (.cons rfl (.cons rfl (.cons rfl (.cons rfl (.cons rfl (.cons rfl (.cons rfl (.cons rfl (.cons rfl (.cons rfl (.cons rfl (.cons rfl (.cons rfl (.cons rfl (.cons rfl (.cons rfl (.cons rfl (.cons rfl (.cons rfl (.cons rfl (.cons rfl (.cons rfl (.cons rfl (.cons rfl (.cons rfl (.cons rfl (.cons rfl (.cons rfl (.cons rfl (.cons rfl .nil))))))))))))))))))))))))))))))))))))))))))))))))))))))))))))))
                      refine Ends.condF hA rfl ?_
                      refine Ends.skip ?_
                      refine Ends.seq ?_
                      refine Ends.region ?_
                      refine S.val hA (R.move rfl) rfl ?_; clear hA a; intro a hA
                      replace hM := hM.front (k := 2) rfl
                      replace hM := hM.front (k := 2) rfl
                      replace hM : Mem _ _ [pt q9 #[.pointer (some ⟨m10, 0, none⟩), .int .i64 1] 108, memO m10 c11 [0, x, y, 0] (s + 1) ⟨3, 2, y, y, false⟩, pt bj #[.pointer (some ⟨q9, 0, none⟩), .bool false, .int .i64 hd, .bool false, .bool false] 105, bundle ((xs.eraseIdx n15).map (actC q9)), pt b7 #[.int .i64 x, .int .i64 y] 45, pt b12 ((vals (xs.map actV))) 46] _ := hM
                      refine S.call hA (R.callF Try.func19 rfl rfl rfl) rfl (cnt_Now q9 m10 c11 1 [0, x, y, 0] (s + 1) ⟨3, 2, y, y, false⟩ (by first | omega | simp | (simp; omega)) (by first | omega | simp | (simp; omega)) (by first | omega | simp | (simp; omega)) hm10c11 _ (hM.hereN 2)) ?_; clear hA a
                      rintro e w31 ⟨rfl, hn⟩
                      replace hM : Mem _ _ [pt q9 #[.pointer (some ⟨m10, 0, none⟩), .int .i64 1] 108, memO m10 c11 [0, x, y, 0] (s + 1) ⟨3, 2, y, y, false⟩, pt bj #[.pointer (some ⟨q9, 0, none⟩), .bool false, .int .i64 hd, .bool false, .bool false] 105, bundle ((xs.eraseIdx n15).map (actC q9)), pt b7 #[.int .i64 x, .int .i64 y] 45, pt b12 ((vals (xs.map actV))) 46] _ := hM.callL 2 hn; clear hn
                      refine ⟨.tuple #[.int .i64 x, .int .i64 y], rfl, fun a hA => ?_⟩
                      refine S.val hA (R.move rfl) rfl ?_; clear hA a; intro a hA
                      refine S.val hA (R.extract (v := .int .i64 x) rfl rfl) rfl ?_; clear hA a; intro a hA
                      refine S.val hA (R.extract (v := .int .i64 y) rfl rfl) rfl ?_; clear hA a; intro a hA
                      refine S.val hA (R.assign rfl) rfl ?_; clear hA a; intro a hA
                      refine S.val hA (R.assign rfl) rfl ?_; clear hA a; intro a hA
                      refine S.done ?_
                      replace hA : St 161 [(1, _), (2, _), (7, _), (8, _), (9, _), (11, _), (12, _), (13, _), (14, _), (16, _), (17, _), (50, _), (53, _), (54, _), (55, _), (56, _), (57, _), (58, _), (59, _), (60, _), (61, _), (62, _), (63, _), (64, _), (76, _), (77, _), (78, _), (84, _), (85, _), (86, _), (92, _), (93, _), (94, _), (95, _), (96, _), (97, _), (98, _), (99, _), (100, _), (101, _), (106, _), (107, _), (108, _), (109, _), (110, _), (111, _), (112, _), (113, _), (114, _), (115, _), (116, _), (117, _), (118, _), (123, _), (128, _), (129, _), (130, _), (131, _), (132, _), (133, _), (134, _), (135, _), (141, _), (142, _), (143, _), (144, _), (145, _), (146, _)] a := hA.sub ((.cons rfl (.cons rfl (.cons rfl (.cons rfl (.cons rfl (.cons rfl (.cons rfl (.cons rfl (.cons rfl (.cons rfl (.cons rfl (.cons rfl (.cons rfl (.cons rfl (.cons rfl (.cons rfl (.cons rfl (.cons rfl (.cons rfl (.cons rfl (.cons rfl (.cons rfl (.cons rfl (.cons rfl (.cons rfl (.cons rfl (.cons rfl (.cons rfl (.cons rfl (.cons rfl (.cons rfl (.cons rfl (.cons rfl (.cons rfl (.cons rfl (.cons rfl (.cons rfl (.cons rfl (.cons rfl (.cons rfl (.cons rfl (.cons rfl (.cons rfl (.cons rfl (.cons rfl (.cons rfl (.cons rfl (.cons rfl (.cons rfl (.cons rfl (.cons rfl (.cons rfl (.cons rfl (.cons rfl (.cons rfl (.cons rfl (.cons rfl (.cons rfl (.cons rfl (.cons rfl (.cons rfl (.cons rfl (.cons rfl (.cons rfl (.cons rfl (.cons rfl (.cons rfl (.cons rfl .nil)))))))))))))))))))))))))))))))))))))))))))))))))))))))))))))))))))))
                      refine Ends.seq ?_
                      refine Ends.region ?_
                      refine S.val hA (R.move rfl) rfl ?_; clear hA a; intro a hA
                      refine S.val hA (R.fieldAddr (q := 0) fi45_0 rfl rfl rfl) rfl ?_; clear hA a; intro a hA
                      refine S.val hA (R.load sz3 rfl (hM.cell (k := 4) rfl rfl)) rfl ?_; clear hA a; intro a hA
                      refine S.val hA (R.ff (R.neq rfl rfl) (by omega)) rfl ?_; clear hA a; intro a hA
                      refine S.val hA (R.move rfl) rfl ?_; clear hA a; intro a hA
                      refine S.valg (dj := 151) hA (by kernel_rfl) rfl (R.move rfl) rfl ?_; clear hA a; intro a hA
                      refine S.valg (dj := 151) hA (by kernel_rfl) rfl (R.fieldAddr (q := 1) fi45_1 rfl rfl rfl) rfl ?_; clear hA a; intro a hA
                      refine S.valg (dj := 151) hA (by kernel_rfl) rfl (R.load sz3 rfl (hM.cell (k := 4) rfl rfl)) rfl ?_; clear hA a; intro a hA
                      refine S.valg (dj := 151) hA (by kernel_rfl) rfl (R.ff (R.neq rfl rfl) (by omega)) rfl ?_; clear hA a; intro a hA
                      refine S.val hA (R.pickF rfl rfl) rfl ?_; clear hA a; intro a hA
                      refine S.val hA (R.move rfl) rfl ?_; clear hA a; intro a hA
                      refine S.valg (dj := 157) hA (by kernel_rfl) rfl (R.move rfl) rfl ?_; clear hA a; intro a hA
                      refine S.valg (dj := 157) hA (by kernel_rfl) rfl (R.ff (R.lss rfl rfl) (by omega)) rfl ?_; clear hA a; intro a hA
                      refine S.val hA (R.pickF rfl rfl) rfl ?_; clear hA a; intro a hA
                      refine S.done ?_
                      replace hA : St 161 [(1, _), (2, _), (7, _), (8, _), (9, _), (11, _), (12, _), (13, _), (14, _), (16, _), (17, _), (50, _), (53, _), (54, _), (55, _), (56, _), (57, _), (58, _), (59, _), (60, _), (61, _), (62, _), (63, _), (64, _), (76, _), (77, _), (78, _), (84, _), (85, _), (86, _), (92, _), (93, _), (94, _), (95, _), (96, _), (97, _), (98, _), (99, _), (100, _), (101, _), (106, _), (107, _), (108, _), (109, _), (110, _), (111, _), (112, _), (113, _), (114, _), (115, _), (116, _), (117, _), (118, _), (123, _), (128, _), (129, _), (130, _), (131, _), (132, _), (133, _), (134, _), (135, _), (141, _), (142, _), (143, _), (144, _), (145, _), (146, _), (147, _), (148, _), (149, _), (150, _), (151, _), (152, _), (153, _), (154, _), (155, _), (156, _), (157, _), (158, _), (159, _), (160, _)] a := hA.sub ((.cons rfl (.cons rfl (.cons rfl (.cons rfl (.cons rfl (.cons rfl (.cons rfl (.cons rfl (.cons rfl (.cons rfl (.cons rfl (.cons rfl (.cons rfl (.cons rfl (.cons rfl (.cons rfl (.cons rfl (.cons rfl (.cons rfl (.cons rfl (.cons rfl (.cons rfl (.cons rfl (.cons rfl (.cons rfl (.cons rfl (.cons rfl (.cons rfl (.cons rfl (.cons rfl (.cons rfl (.cons rfl (.cons rfl (.cons rfl (.cons rfl (.cons rfl (.cons rfl (.cons rfl (.cons rfl (.cons rfl (.cons rfl (.cons rfl (.cons rfl (.cons rfl (.cons rfl (.cons rfl (.cons rfl (.cons rfl (.cons rfl (.cons rfl (.cons rfl (.cons rfl (.cons rfl (.cons rfl (.cons rfl (.cons rfl (.cons rfl (.cons rfl (.cons rfl (.cons rfl (.cons rfl (.cons rfl (.cons rfl (.cons rfl (.cons rfl (.cons rfl (.cons rfl (.cons rfl (.cons rfl (.cons rfl (.cons rfl (.cons rfl (.cons rfl (.cons rfl (.cons rfl (.cons rfl (.cons rfl (.cons rfl (.cons rfl (.cons rfl (.cons rfl (.cons rfl .nil)))))))))))))))))))))))))))))))))))))))))))))))))))))))))))))))))))))))))))))))))))
                      refine Ends.condF hA rfl ?_
                      refine Ends.skip ?_
                      refine Ends.inBlock ?_
                      refine Ends.region ?_
                      refine S.val hA (R.move rfl) rfl ?_; clear hA a; intro a hA
                      refine S.val hA (R.addI rfl rfl (r := ((k : Int)) + 1) rfl (by omega)) rfl ?_; clear hA a; intro a hA
                      refine S.val hA (R.assign rfl) rfl ?_; clear hA a; intro a hA
                      refine S.done ?_
                      replace hA : St 161 [(1, _), (2, _), (7, _), (8, _), (9, _), (11, _), (12, _), (13, _), (14, _), (16, _), (17, _), (50, _), (51, _), (52, _), (53, _), (54, _), (55, _), (56, _), (57, _), (58, _), (59, _), (60, _), (61, _), (62, _), (63, _), (64, _), (76, _), (77, _), (78, _), (84, _), (85, _), (86, _), (92, _), (93, _), (94, _), (95, _), (96, _), (97, _), (98, _), (99, _), (100, _), (101, _), (106, _), (107, _), (108, _), (109, _), (110, _), (111, _), (112, _), (113, _), (114, _), (115, _), (116, _), (117, _), (118, _), (123, _), (128, _), (129, _), (130, _), (131, _), (132, _), (133, _), (134, _), (135, _), (141, _), (142, _), (143, _), (144, _), (145, _), (146, _), (147, _), (148, _), (149, _), (150, _), (151, _), (152, _), (153, _), (154, _), (155, _), (156, _), (157, _), (158, _), (159, _), (160, _)] a := hA.sub ((.cons rfl (.cons rfl (.cons rfl (.cons rfl (.cons rfl (.cons rfl (.cons rfl (.cons rfl (.cons rfl (.cons rfl (.cons rfl (.cons rfl (.cons rfl (.cons rfl (.cons rfl (.cons rfl (.cons rfl (.cons rfl (.cons rfl (.cons rfl (.cons rfl (.cons rfl (.cons rfl (.cons rfl (.cons rfl (.cons rfl (.cons rfl (.cons rfl (.cons rfl (.cons rfl (.cons rfl (.cons rfl (.cons rfl (.cons rfl (.cons rfl (.cons rfl (.cons rfl (.cons rfl (.cons rfl (.cons rfl (.cons rfl (.cons rfl (.cons rfl (.cons rfl (.cons rfl (.cons rfl (.cons rfl (.cons rfl (.cons rfl (.cons rfl (.cons rfl (.cons rfl (.cons rfl (.cons rfl (.cons rfl (.cons rfl (.cons rfl (.cons rfl (.cons rfl (.cons rfl (.cons rfl (.cons rfl (.cons rfl (.cons rfl (.cons rfl (.cons rfl (.cons rfl (.cons rfl (.cons rfl (.cons rfl (.cons rfl (.cons rfl (.cons rfl (.cons rfl (.cons rfl (.cons rfl (.cons rfl (.cons rfl (.cons rfl (.cons rfl (.cons rfl (.cons rfl (.cons rfl (.cons rfl .nil)))))))))))))))))))))))))))))))))))))))))))))))))))))))))))))))))))))))))))))))))))))
                      replace hM := hM.front (k := 3) rfl
                      replace hM := hM.front (k := 3) rfl
                      replace hM : Mem _ _ [pt bj #[.pointer (some ⟨q9, 0, none⟩), .bool false, .int .i64 hd, .bool false, .bool false] 105, bundle ((xs.eraseIdx n15).map (actC q9)), pt q9 #[.pointer (some ⟨m10, 0, none⟩), .int .i64 1] 108, memO m10 c11 [0, x, y, 0] (s + 1) ⟨3, 2, y, y, false⟩, pt b7 #[.int .i64 x, .int .i64 y] 45, pt b12 ((vals (xs.map actV))) 46] _ := hM
                      replace hM := hM.closeB (f := actC q9) (y := (some (bj, false, hd, false, false) : AcS)) hxj
                      rw [← actV_set (s' := (false, hd, false, false)) hxj] at hM
                      replace hM : Mem _ _ [bundle ((xs.set n15 (some (bj, false, hd, false, false) : AcS)).map (actC q9)), pt q9 #[.pointer (some ⟨m10, 0, none⟩), .int .i64 1] 108, memO m10 c11 [0, x, y, 0] (s + 1) ⟨3, 2, y, y, false⟩, pt b7 #[.int .i64 x, .int .i64 y] 45, pt b12 ((vals ((xs.set n15 (some (bj, false, hd, false, false) : AcS)).map actV))) 46] _ := hM
                      replace hM : Mem _ _ [bundle ((xs.set n15 (some (bj, false, hd, false, false) : AcS)).map (actC q9)), pt q9 #[.pointer (some ⟨m10, 0, none⟩), .int .i64 1] 108, memO m10 c11 [0, x, y, 0] (s + 1) ⟨3, 2, y, y, false⟩, pt b7 #[.int .i64 x, .int .i64 y] 45, pt b12 ((vals ((xs.set n15 (some (bj, false, hd, false, false) : AcS)).map actV))) 46] _ := hM.firstN 5
                      exact hNext ((k + 1, x, y, (xs.set n15 (some (bj, false, hd, false, false) : AcS)), s + 1, ⟨3, 2, y, y, false⟩)) _ _ ((by show 100 - (k + 1) < 100 - k; omega)) ⟨hA.sub ((.cons rfl (.cons rfl (.cons rfl (.cons rfl (.cons rfl (.cons rfl (.cons rfl .nil)))))))), hM, (by omega), (by omega), (by omega), (by rw [List.length_set]; exact hxlen), (acOK_set hxok _ (show AcOK (some (bj, false, hd, false, false) : AcS) from ⟨by first | simp | (simp; done), by first | (simp; done) | (intros; omega), by omega, by omega⟩)), (by omega)⟩
                  ·
                    obtain rfl : rd = false := by simpa using hs25
                    by_cases hs27 : y ≤ 1
                    ·
                      refine Ends.region ?_
                      refine S.val hA (R.move rfl) rfl ?_; clear hA a; intro a hA
                      refine S.val hA (R.move rfl) rfl ?_; clear hA a; intro a hA
                      refine S.val hA (R.tt (R.lss rfl rfl) (by omega)) rfl ?_; clear hA a; intro a hA
                      refine S.val hA (R.move rfl) rfl ?_; clear hA a; intro a hA
                      refine S.valg (dj := 96) hA (by kernel_rfl) rfl (R.move rfl) rfl ?_; clear hA a; intro a hA
                      refine S.valg (dj := 96) hA (by kernel_rfl) rfl (R.indexAddrA (q := n15) ar46 rfl rfl (by omega) (by omega)) rfl ?_; clear hA a; intro a hA
                      refine S.valg (dj := 96) hA (by kernel_rfl) rfl (R.load sz28 rfl (hM.cell (k := 5) rfl (vals_at _ _ _ (actV_at hxj)))) rfl ?_; clear hA a; intro a hA
                      refine S.valg (dj := 96) hA (by kernel_rfl) rfl (R.eqlNil Try.underlying28 rfl rfl) rfl ?_; clear hA a; intro a hA
                      refine S.val hA (R.pickT rfl rfl) rfl ?_; clear hA a; intro a hA
                      refine S.val hA (R.assign rfl) rfl ?_; clear hA a; intro a hA
                      refine S.done ?_
                      replace hA : St 161 [(1, _), (2, _), (7, _), (8, _), (9, _), (11, _), (12, _), (13, _), (14, _), (50, _), (53, _), (54, _), (55, _), (56, _), (57, _), (58, _), (59, _), (60, _), (61, _), (62, _), (63, _), (64, _), (76, _), (77, _), (78, _), (84, _), (85, _), (86, _), (92, _), (93, _), (94, _), (95, _), (96, _), (97, _), (98, _), (99, _), (100, _), (101, _)] a := hA.sub ((.cons rfl (.cons rfl (.cons rfl (.cons rfl (.cons rfl (.cons rfl (.cons rfl (.cons rfl (.cons rfl (.cons rfl (.cons rfl (.cons rfl (.cons rfl (.cons rfl (.cons rfl (.cons rfl (.cons rfl (.cons rfl (.cons rfl (.cons rfl (.cons rfl (.cons rfl (.cons rfl (.cons rfl (.cons rfl (.cons rfl (.cons rfl (.cons rfl (.cons rfl (.cons rfl (.cons rfl (.cons rfl (.cons rfl (.cons rfl (.cons rfl (.cons rfl (.cons rfl (.cons rfl .nil)))))))))))))))))))))))))))))))))))))))
                      refine Ends.condF hA rfl ?_
                      refine Ends.seq ?_
                      refine Ends.region ?_
                      refine S.val hA (R.move rfl) rfl ?_; clear hA a; intro a hA
                      refine S.val hA (R.move rfl) rfl ?_; clear hA a; intro a hA
                      refine S.val hA (R.tt (R.lss rfl rfl) (by omega)) rfl ?_; clear hA a; intro a hA
                      refine S.val hA (R.assign rfl) rfl ?_; clear hA a; intro a hA
                      refine S.done ?_
                      replace hA : St 161 [(1, _), (2, _), (7, _), (8, _), (9, _), (11, _), (12, _), (13, _), (14, _), (50, _), (53, _), (54, _), (55, _), (56, _), (57, _), (58, _), (59, _), (60, _), (61, _), (62, _), (63, _), (64, _), (76, _), (77, _), (78, _), (84, _), (85, _), (86, _), (92, _), (93, _), (94, _), (95, _), (96, _), (97, _), (98, _), (99, _), (100, _), (101, _), (106, _), (107, _), (108, _), (109, _)] a := hA.sub ((.cons rfl (.cons rfl (.cons rfl (.cons rfl (.cons rfl (.cons rfl (.cons rfl (.cons rfl (.cons rfl (.cons rfl (.cons rfl (.cons rfl (.cons rfl (.cons rfl (.cons rfl (.cons rfl (.cons rfl (.cons rfl (.cons rfl (.cons rfl (.cons rfl (.cons rfl (.cons rfl (.cons rfl (.cons rfl (.cons rfl (.cons rfl (.cons rfl (.cons rfl (.cons rfl (.cons rfl (.cons rfl (.cons rfl (.cons rfl (.cons rfl (.cons rfl (.cons rfl (.cons rfl (.cons rfl (.cons rfl (.cons rfl (.cons rfl .nil)))))))))))))))))))))))))))))))))))))))))))
                      refine Ends.condT hA rfl ?_
                      refine Ends.seq ?_
                      refine Ends.seq ?_
                      refine Ends.region ?_
                      refine S.val hA (R.move rfl) rfl ?_; clear hA a; intro a hA
                      refine S.val hA (R.indexAddrA (q := n15) ar46 rfl rfl (by omega) (by omega)) rfl ?_; clear hA a; intro a hA
                      refine S.val hA (R.load sz28 rfl (hM.cell (k := 5) rfl (vals_at _ _ _ (actV_at hxj)))) rfl ?_; clear hA a; intro a hA
                      refine S.call hA (R.callF Try.func16 rfl rfl rfl) rfl (cact_over bj q9 hd false false false _ (hM.block (k := 0) rfl)) ?_; clear hA a
                      rintro e w32 ⟨rfl, rfl⟩
                      refine ⟨.bool false, rfl, fun a hA => ?_⟩
                      refine S.done ?_
                      replace hA : St 161 [(1, _), (2, _), (7, _), (8, _), (9, _), (11, _), (12, _), (13, _), (14, _), (50, _), (53, _), (54, _), (55, _), (56, _), (57, _), (58, _), (59, _), (60, _), (61, _), (62, _), (63, _), (64, _), (76, _), (77, _), (78, _), (84, _), (85, _), (86, _), (92, _), (93, _), (94, _), (95, _), (96, _), (97, _), (98, _), (99, _), (100, _), (101, _), (106, _), (107, _), (108, _), (109, _), (110, _), (111, _), (112, _), (113, _)] a := hA.sub ((.cons rfl (.cons rfl (.cons rfl (.cons rfl (.cons rfl (.cons rfl (.cons rfl (.cons rfl (.cons rfl (.cons rfl (.cons rfl (.cons rfl (.cons rfl (.cons rfl (.cons rfl (.cons rfl (.cons rfl (.cons rfl (.cons rfl (.cons rfl (.cons rfl (.cons rfl (.cons rfl (.cons rfl (.cons rfl (.cons rfl (.cons rfl (.cons rfl (.cons rfl (.cons rfl (.cons rfl (.cons rfl (.cons rfl (.cons rfl (.cons rfl (.cons rfl (.cons rfl (.cons rfl (.cons rfl (.cons rfl (.cons rfl (.cons rfl (.cons rfl (.cons rfl (.cons rfl (.cons rfl .nil)))))))))))))))))))))))))))))))))))))))))))))))
                      refine Ends.condF hA rfl ?_
                      refine Ends.skip ?_
                      refine Ends.seq ?_
                      refine Ends.seq ?_
                      refine Ends.region ?_
                      refine S.val hA (R.move rfl) rfl ?_; clear hA a; intro a hA
                      refine S.val hA (R.indexAddrA (q := n15) ar46 rfl rfl (by omega) (by omega)) rfl ?_; clear hA a; intro a hA
                      refine S.val hA (R.load sz28 rfl (hM.cell (k := 5) rfl (vals_at _ _ _ (actV_at hxj)))) rfl ?_; clear hA a; intro a hA
                      replace hM := hM.front (k := 3) rfl
                      replace hM := hM.front (k := 3) rfl
                      replace hM := hM.front (k := 2) rfl
                      replace hM : Mem _ _ [pt bj #[.pointer (some ⟨q9, 0, none⟩), .bool false, .int .i64 hd, .bool false, .bool false] 105, pt q9 #[.pointer (some ⟨m10, 0, none⟩), .int .i64 1] 108, memO m10 c11 [0, x, y, 0] s op, bundle ((xs.eraseIdx n15).map (actC q9)), pt b7 #[.int .i64 x, .int .i64 y] 45, pt b12 ((vals (xs.map actV))) 46] _ := hM
                      refine S.call hA (R.callF Try.func17 rfl rfl rfl) rfl (cstep_look_last q9 m10 c11 1 [0, x, y, 0] s op (by first | omega | simp | (simp; omega)) (by first | omega | simp | (simp; omega)) (by first | omega | simp | (simp; omega)) hm10c11 bj hd false (by show y ≤ 1; omega) _ (hM.hereN 3)) ?_; clear hA a
                      rintro e w33 ⟨rfl, hn⟩
                      replace hM : Mem _ _ [pt bj #[.pointer (some ⟨q9, 0, none⟩), .bool true, .int .i64 y, .bool true, .bool false] 105, pt q9 #[.pointer (some ⟨m10, 0, none⟩), .int .i64 1] 108, memO m10 c11 [0, x, y, 0] (s + 1) ⟨1, 2, y, y, true⟩, bundle ((xs.eraseIdx n15).map (actC q9)), pt b7 #[.int .i64 x, .int .i64 y] 45, pt b12 ((vals (xs.map actV))) 46] _ := hM.callL 3 hn; clear hn
                      refine ⟨.bool true, rfl, fun a hA => ?_⟩
                      refine S.val hA (R.move rfl) rfl ?_; clear hA a; intro a hA
                      refine S.valg (dj := 118) hA (by kernel_rfl) rfl (R.move rfl) rfl ?_; clear hA a; intro a hA
                      refine S.valg (dj := 118) hA (by kernel_rfl) rfl (R.indexAddrA (q := n15) ar46 rfl rfl (by omega) (by omega)) rfl ?_; clear hA a; intro a hA
                      refine S.valg (dj := 118) hA (by kernel_rfl) rfl (R.load sz28 rfl (hM.cell (k := 5) rfl (vals_at _ _ _ (actV_at hxj)))) rfl ?_; clear hA a; intro a hA
                      refine S.callg (dj := 118) hA (by kernel_rfl) rfl (R.callF Try.func18 rfl rfl rfl) rfl (cact_left bj q9 y true true false _ (hM.block (k := 0) rfl)) ?_; clear hA a
                      rintro e w34 ⟨rfl, rfl⟩
                      refine ⟨.bool false, rfl, fun a hA => ?_⟩
                      refine S.val hA (R.pickT rfl rfl) rfl ?_; clear hA a; intro a hA
                      refine S.done ?_
                      replace hA : St 161 [(1, _), (2, _), (7, _), (8, _), (9, _), (11, _), (12, _), (13, _), (14, _), (50, _), (53, _), (54, _), (55, _), (56, _), (57, _), (58, _), (59, _), (60, _), (61, _), (62, _), (63, _), (64, _), (76, _), (77, _), (78, _), (84, _), (85, _), (86, _), (92, _), (93, _), (94, _), (95, _), (96, _), (97, _), (98, _), (99, _), (100, _), (101, _), (106, _), (107, _), (108, _), (109, _), (110, _), (111, _), (112, _), (113, _), (114, _), (115, _), (116, _), (117, _), (118, _), (119, _), (120, _), (121, _), (122, _), (123, _)] a := hA.sub ((.cons rfl (.cons rfl (.cons rfl (.cons rfl (.cons rfl (.cons rfl (.cons rfl (.cons rfl (.cons rfl (.cons rfl (.cons rfl (.cons rfl (.cons rfl (.cons rfl (.cons rfl (.cons rfl (.cons rfl (.cons rfl (.cons rfl (.cons rfl (.cons rfl (.cons rfl (.cons rfl (.cons rfl (.cons rfl (.cons rfl (.cons rfl (.cons rfl (.cons rfl (.cons rfl (.cons rfl (.cons rfl (.cons rfl (.cons rfl (.cons rfl (.cons rfl (.cons rfl (.cons rfl (.cons rfl (.cons rfl (.cons rfl (.cons rfl (.cons rfl (.cons rfl (.cons rfl (.cons rfl (.cons rfl (.cons rfl (.cons rfl (.cons rfl (.cons rfl (.cons rfl (.cons rfl (.cons rfl (.cons rfl (.cons rfl .nil)))))))))))))))))))))))))))))))))))))))))))))))))))))))))
                      refine Ends.condF hA rfl ?_
                      refine Ends.skip ?_
                      refine Ends.seq ?_
                      refine Ends.region ?_
                      refine S.val hA (R.move rfl) rfl ?_; clear hA a; intro a hA
                      refine S.call hA (R.callF Try.func27 rfl rfl rfl) rfl (steps_ok m10 c11 [0, x, y, 0] (s + 1) ⟨1, 2, y, y, true⟩ hm10c11 _ (hM.mem (k := 2) rfl)) ?_; clear hA a
                      rintro e w35 ⟨rfl, rfl⟩
                      refine ⟨.int .i64 (s + 1), rfl, fun a hA => ?_⟩
                      refine S.val hA (R.move rfl) rfl ?_; clear hA a; intro a hA
                      refine S.val hA (R.addI rfl rfl (r := s + 1) rfl (by omega)) rfl ?_; clear hA a; intro a hA
                      refine S.val hA (R.ff (R.gtr rfl rfl) (by omega)) rfl ?_; clear hA a; intro a hA
                      refine S.done ?_
                      replace hA : St 161 [(1, _), (2, _), (7, _), (8, _), (9, _), (11, _), (12, _), (13, _), (14, _), (50, _), (53, _), (54, _), (55, _), (56, _), (57, _), (58, _), (59, _), (60, _), (61, _), (62, _), (63, _), (64, _), (76, _), (77, _), (78, _), (84, _), (85, _), (86, _), (92, _), (93, _), (94, _), (95, _), (96, _), (97, _), (98, _), (99, _), (100, _), (101, _), (106, _), (107, _), (108, _), (109, _), (110, _), (111, _), (112, _), (113, _), (114, _), (115, _), (116, _), (117, _), (118, _), (119, _), (120, _), (121, _), (122, _), (123, _), (128, _), (129, _), (130, _), (131, _), (132, _)] a := hA.sub ((.cons rfl (.cons rfl (.cons rfl (.cons rfl (.cons rfl (.cons rfl (.cons rfl (.cons rfl (.cons rfl (.cons rfl (.cons rfl (.cons rfl (.cons rfl (.cons rfl (.cons rfl (.cons rfl (.cons rfl (.cons rfl (.cons rfl (.cons rfl (.cons rfl (.cons rfl (.cons rfl (.cons rfl (.cons rfl (.cons rfl (.cons rfl (.cons rfl (.cons rfl (.cons rfl (.cons rfl (.cons rfl (.cons rfl (.cons rfl (.cons rfl (.cons rfl (.cons rfl (.cons rfl (.cons rfl (.cons rfl (.cons rfl (.cons rfl (.cons rfl (.cons rfl (.cons rfl (.cons rfl (.cons rfl (.cons rfl (.cons rfl (.cons rfl (.cons rfl (.cons rfl (.cons rfl (.cons rfl (.cons rfl (.cons rfl (.cons rfl (.cons rfl (.cons rfl (.cons rfl (.cons rfl .nil))))))))))))))))))))))))))))))))))))))))))))))))))))))))))))))
                      refine Ends.condF hA rfl ?_
                      refine Ends.skip ?_
                      refine Ends.inBlock ?_
                      refine Ends.seq ?_
                      refine Ends.seq ?_
                      refine Ends.region ?_
                      refine S.val hA (R.move rfl) rfl ?_; clear hA a; intro a hA
                      refine S.val hA (R.ff (R.geq rfl rfl) (by omega)) rfl ?_; clear hA a; intro a hA
                      refine S.val hA (R.move rfl) rfl ?_; clear hA a; intro a hA
                      refine S.no (dj := 135) hA (by kernel_rfl) rfl rfl rfl ?_; clear hA a; intro a hA
                      refine S.no (dj := 135) hA (by kernel_rfl) rfl rfl rfl ?_; clear hA a; intro a hA
                      refine S.no (dj := 135) hA (by kernel_rfl) rfl rfl rfl ?_; clear hA a; intro a hA
                      refine S.no (dj := 135) hA (by kernel_rfl) rfl rfl rfl ?_; clear hA a; intro a hA
                      refine S.no (dj := 135) hA (by kernel_rfl) rfl rfl rfl ?_; clear hA a; intro a hA
                      refine S.val hA (R.pickF rfl rfl) rfl ?_; clear hA a; intro a hA
                      refine S.done ?_
                      replace hA : St 161 [(1, _), (2, _), (7, _), (8, _), (9, _), (11, _), (12, _), (13, _), (14, _), (50, _), (53, _), (54, _), (55, _), (56, _), (57, _), (58, _), (59, _), (60, _), (61, _), (62, _), (63, _), (64, _), (76, _), (77, _), (78, _), (84, _), (85, _), (86, _), (92, _), (93, _), (94, _), (95, _), (96, _), (97, _), (98, _), (99, _), (100, _), (101, _), (106, _), (107, _), (108, _), (109, _), (110, _), (111, _), (112, _), (113, _), (114, _), (115, _), (116, _), (117, _), (118, _), (119, _), (120, _), (121, _), (122, _), (123, _), (128, _), (129, _), (130, _), (131, _), (132, _), (133, _), (134, _), (135, _), (141, _)] a := hA.sub ((.cons rfl (.cons rfl (.cons rfl (.cons rfl (.cons rfl (.cons rfl (.cons rfl (.cons rfl (.cons rfl (.cons rfl (.cons rfl (.cons rfl (.cons rfl (.cons rfl (.cons rfl (.cons rfl (.cons rfl (.cons rfl (.cons rfl (.cons rfl (.cons rfl (.cons rfl (.cons rfl (.cons rfl (.cons rfl (.cons rfl (.cons rfl (.cons rfl (.cons rfl (.cons rfl (.cons rfl (.cons rfl (.cons rfl (.cons rfl (.cons rfl (.cons rfl (.cons rfl (.cons rfl (.cons rfl (.cons rfl (.cons rfl (.cons rfl (.cons rfl (.cons rfl (.cons rfl (.cons rfl (.cons rfl (.cons rfl (.cons rfl (.cons rfl (.cons rfl (.cons rfl (.cons rfl (.cons rfl (.cons rfl (.cons rfl (.cons rfl (.cons rfl (.cons rfl (.cons rfl (.cons rfl (.cons rfl (.cons rfl (.cons rfl (.cons rfl .nil))))))))))))))))))))))))))))))))))))))))))))))))))))))))))))))))))
                      refine Ends.condF hA rfl ?_
                      refine Ends.skip ?_
                      refine Ends.seq ?_
                      refine Ends.region ?_
                      refine S.val hA (R.move rfl) rfl ?_; clear hA a; intro a hA
                      replace hM := hM.front (k := 2) rfl
                      replace hM := hM.front (k := 2) rfl
                      replace hM : Mem _ _ [pt q9 #[.pointer (some ⟨m10, 0, none⟩), .int .i64 1] 108, memO m10 c11 [0, x, y, 0] (s + 1) ⟨1, 2, y, y, true⟩, pt bj #[.pointer (some ⟨q9, 0, none⟩), .bool true, .int .i64 y, .bool true, .bool false] 105, bundle ((xs.eraseIdx n15).map (actC q9)), pt b7 #[.int .i64 x, .int .i64 y] 45, pt b12 ((vals (xs.map actV))) 46] _ := hM
                      refine S.call hA (R.callF Try.func19 rfl rfl rfl) rfl (cnt_Now q9 m10 c11 1 [0, x, y, 0] (s + 1) ⟨1, 2, y, y, true⟩ (by first | omega | simp | (simp; omega)) (by first | omega | simp | (simp; omega)) (by first | omega | simp | (simp; omega)) hm10c11 _ (hM.hereN 2)) ?_; clear hA a
                      rintro e w36 ⟨rfl, hn⟩
                      replace hM : Mem _ _ [pt q9 #[.pointer (some ⟨m10, 0, none⟩), .int .i64 1] 108, memO m10 c11 [0, x, y, 0] (s + 1) ⟨1, 2, y, y, true⟩, pt bj #[.pointer (some ⟨q9, 0, none⟩), .bool true, .int .i64 y, .bool true, .bool false] 105, bundle ((xs.eraseIdx n15).map (actC q9)), pt b7 #[.int .i64 x, .int .i64 y] 45, pt b12 ((vals (xs.map actV))) 46] _ := hM.callL 2 hn; clear hn
                      refine ⟨.tuple #[.int .i64 x, .int .i64 y], rfl, fun a hA => ?_⟩
                      refine S.val hA (R.move rfl) rfl ?_; clear hA a; intro a hA
                      refine S.val hA (R.extract (v := .int .i64 x) rfl rfl) rfl ?_; clear hA a; intro a hA
                      refine S.val hA (R.extract (v := .int .i64 y) rfl rfl) rfl ?_; clear hA a; intro a hA
                      refine S.val hA (R.assign rfl) rfl ?_; clear hA a; intro a hA
                      refine S.val hA (R.assign rfl) rfl ?_; clear hA a; intro a hA
                      refine S.done ?_
                      replace hA : St 161 [(1, _), (2, _), (7, _), (8, _), (9, _), (11, _), (12, _), (13, _), (14, _), (16, _), (17, _), (50, _), (53, _), (54, _), (55, _), (56, _), (57, _), (58, _), (59, _), (60, _), (61, _), (62, _), (63, _), (64, _), (76, _), (77, _), (78, _), (84, _), (85, _), (86, _), (92, _), (93, _), (94, _), (95, _), (96, _), (97, _), (98, _), (99, _), (100, _), (101, _), (106, _), (107, _), (108, _), (109, _), (110, _), (111, _), (112, _), (113, _), (114, _), (115, _), (116, _), (117, _), (118, _), (119, _), (120, _), (121, _), (122, _), (123, _), (128, _), (129, _), (130, _), (131, _), (132, _), (133, _), (134, _), (135, _), (141, _), (142, _), (143, _), (144, _), (145, _), (146, _)] a := hA.sub ((.cons rfl (.cons rfl (.cons rfl (.cons rfl (.cons rfl (.cons rfl (.cons rfl (.cons rfl (.cons rfl (.cons rfl (.cons rfl (.cons rfl (.cons rfl (.cons rfl (.cons rfl (.cons rfl (.cons rfl (.cons rfl (.cons rfl (.cons rfl (.cons rfl (.cons rfl (.cons rfl (.cons rfl (.cons rfl (.cons rfl (.cons rfl (.cons rfl (.cons rfl (.cons rfl (.cons rfl (.cons rfl (.cons rfl (.cons rfl (.cons rfl (.cons rfl (.cons rfl (.cons rfl (.cons rfl (.cons rfl (.cons rfl (.cons rfl (.cons rfl (.cons rfl (.cons rfl (.cons rfl (.cons rfl (.cons rfl (.cons rfl (.cons rfl (.cons rfl (.cons rfl (.cons rfl (.cons rfl (.cons rfl (.cons rfl (.cons rfl (.cons rfl (.cons rfl (.cons rfl (.cons rfl (.cons rfl (.cons rfl (.cons rfl (.cons rfl (.cons rfl (.cons rfl (.cons rfl (.cons rfl (.cons rfl (.cons rfl (.cons rfl .nil)))))))))))))))))))))))))))))))))))))))))))))))))))))))))))))))))))))))))
                      refine Ends.seq ?_
                      refine Ends.region ?_
                      refine S.val hA (R.move rfl) rfl ?_; clear hA a; intro a hA
                      refine S.val hA (R.fieldAddr (q := 0) fi45_0 rfl rfl rfl) rfl ?_; clear hA a; intro a hA
                      refine S.val hA (R.load sz3 rfl (hM.cell (k := 4) rfl rfl)) rfl ?_; clear hA a; intro a hA
                      refine S.val hA (R.ff (R.neq rfl rfl) (by omega)) rfl ?_; clear hA a; intro a hA
                      refine S.val hA (R.move rfl) rfl ?_; clear hA a; intro a hA
                      refine S.valg (dj := 151) hA (by kernel_rfl) rfl (R.move rfl) rfl ?_; clear hA a; intro a hA
                      refine S.valg (dj := 151) hA (by kernel_rfl) rfl (R.fieldAddr (q := 1) fi45_1 rfl rfl rfl) rfl ?_; clear hA a; intro a hA
                      refine S.valg (dj := 151) hA (by kernel_rfl) rfl (R.load sz3 rfl (hM.cell (k := 4) rfl rfl)) rfl ?_; clear hA a; intro a hA
                      refine S.valg (dj := 151) hA (by kernel_rfl) rfl (R.ff (R.neq rfl rfl) (by omega)) rfl ?_; clear hA a; intro a hA
                      refine S.val hA (R.pickF rfl rfl) rfl ?_; clear hA a; intro a hA
                      refine S.val hA (R.move rfl) rfl ?_; clear hA a; intro a hA
                      refine S.valg (dj := 157) hA (by kernel_rfl) rfl (R.move rfl) rfl ?_; clear hA a; intro a hA
                      refine S.valg (dj := 157) hA (by kernel_rfl) rfl (R.ff (R.lss rfl rfl) (by omega)) rfl ?_; clear hA a; intro a hA
                      refine S.val hA (R.pickF rfl rfl) rfl ?_; clear hA a; intro a hA
                      refine S.done ?_
                      replace hA : St 161 [(1, _), (2, _), (7, _), (8, _), (9, _), (11, _), (12, _), (13, _), (14, _), (16, _), (17, _), (50, _), (53, _), (54, _), (55, _), (56, _), (57, _), (58, _), (59, _), (60, _), (61, _), (62, _), (63, _), (64, _), (76, _), (77, _), (78, _), (84, _), (85, _), (86, _), (92, _), (93, _), (94, _), (95, _), (96, _), (97, _), (98, _), (99, _), (100, _), (101, _), (106, _), (107, _), (108, _), (109, _), (110, _), (111, _), (112, _), (113, _), (114, _), (115, _), (116, _), (117, _), (118, _), (119, _), (120, _), (121, _), (122, _), (123, _), (128, _), (129, _), (130, _), (131, _), (132, _), (133, _), (134, _), (135, _), (141, _), (142, _), (143, _), (144, _), (145, _), (146, _), (147, _), (148, _), (149, _), (150, _), (151, _), (152, _), (153, _), (154, _), (155, _), (156, _), (157, _), (158, _), (159, _), (160, _)] a := hA.sub ((.cons rfl (.cons rfl (.cons rfl (.cons rfl (.cons rfl (.cons rfl (.cons rfl (.cons rfl (.cons rfl (.cons rfl (.cons rfl (.cons rfl (.cons rfl (.cons rfl (.cons rfl (.cons rfl (.cons rfl (.cons rfl (.cons rfl (.cons rfl (.cons rfl (.cons rfl (.cons rfl (.cons rfl (.cons rfl (.cons rfl (.cons rfl (.cons rfl (.cons rfl (.cons rfl (.cons rfl (.cons rfl (.cons rfl (.cons rfl (.cons rfl (.cons rfl (.cons rfl (.cons rfl (.cons rfl (.cons rfl (.cons rfl (.cons rfl (.cons rfl (.cons rfl (.cons rfl (.cons rfl (.cons rfl (.cons rfl (.cons rfl (.cons rfl (.cons rfl (.cons rfl (.cons rfl (.cons rfl (.cons rfl (.cons rfl (.cons rfl (.cons rfl (.cons rfl (.cons rfl (.cons rfl (.cons rfl (.cons rfl (.cons rfl (.cons rfl (.cons rfl (.cons rfl (.cons rfl (.cons rfl (.cons rfl (.cons rfl (.cons rfl (.cons rfl (.cons rfl (.cons rfl (.cons rfl (.cons rfl (.cons rfl (.cons rfl (.cons rfl (.cons rfl (.cons rfl (.cons rfl (.cons rfl (.cons rfl (.cons rfl .nil)))))))))))))))))))))))))))))))))))))))))))))))))))))))))))))))))))))))))))))))))))))))
                      refine Ends.condF hA rfl ?_
                      refine Ends.skip ?_
                      refine Ends.inBlock ?_
                      refine Ends.region ?_
                      refine S.val hA (R.move rfl) rfl ?_; clear hA a; intro a hA
                      refine S.val hA (R.addI rfl rfl (r := ((k : Int)) + 1) rfl (by omega)) rfl ?_; clear hA a; intro a hA
                      refine S.val hA (R.assign rfl) rfl ?_; clear hA a; intro a hA
                      refine S.done ?_
                      replace hA : St 161 [(1, _), (2, _), (7, _), (8, _), (9, _), (11, _), (12, _), (13, _), (14, _), (16, _), (17, _), (50, _), (51, _), (52, _), (53, _), (54, _), (55, _), (56, _), (57, _), (58, _), (59, _), (60, _), (61, _), (62, _), (63, _), (64, _), (76, _), (77, _), (78, _), (84, _), (85, _), (86, _), (92, _), (93, _), (94, _), (95, _), (96, _), (97, _), (98, _), (99, _), (100, _), (101, _), (106, _), (107, _), (108, _), (109, _), (110, _), (111, _), (112, _), (113, _), (114, _), (115, _), (116, _), (117, _), (118, _), (119, _), (120, _), (121, _), (122, _), (123, _), (128, _), (129, _), (130, _), (131, _), (132, _), (133, _), (134, _), (135, _), (141, _), (142, _), (143, _), (144, _), (145, _), (146, _), (147, _), (148, _), (149, _), (150, _), (151, _), (152, _), (153, _), (154, _), (155, _), (156, _), (157, _), (158, _), (159, _), (160, _)] a := hA.sub ((.cons rfl (.cons rfl (.cons rfl (.cons rfl (.cons rfl (.cons rfl (.cons rfl (.cons rfl (.cons rfl (.cons rfl (.cons rfl (.cons rfl (.cons rfl (.cons rfl (.cons rfl (.cons rfl (.cons rfl (.cons rfl (.cons rfl (.cons rfl (.cons rfl (.cons rfl (.cons rfl (.cons rfl (.cons rfl (.cons rfl (.cons rfl (.cons rfl (.cons rfl (.cons rfl (.cons rfl (.cons rfl (.cons rfl (.cons rfl (.cons rfl (.cons rfl (.cons rfl (.cons rfl (.cons rfl (.cons rfl (.cons rfl (.cons rfl (.cons rfl (.cons rfl (.cons rfl (.cons rfl (.cons rfl (.cons rfl (.cons rfl (.cons rfl (.cons rfl (.cons rfl (.cons rfl (.cons rfl (.cons rfl (.cons rfl (.cons rfl (.cons rfl (.cons rfl (.cons rfl (.cons rfl (.cons rfl (.cons rfl (.cons rfl (.cons rfl (.cons rfl (.cons rfl (.cons rfl (.cons rfl (.cons rfl (.cons rfl (.cons rfl (.cons rfl (.cons rfl (.cons rfl (.cons rfl (.cons rfl (.cons rfl (.cons rfl (.cons rfl (.cons rfl (.cons rfl (.cons rfl (.cons rfl (.cons rfl (.cons rfl (.cons rfl (.cons rfl .nil)))))))))))))))))))))))))))))))))))))))))))))))))))))))))))))))))))))))))))))))))))))))))
                      replace hM := hM.front (k := 3) rfl
                      replace hM := hM.front (k := 3) rfl
                      replace hM : Mem _ _ [pt bj #[.pointer (some ⟨q9, 0, none⟩), .bool true, .int .i64 y, .bool true, .bool false] 105, bundle ((xs.eraseIdx n15).map (actC q9)), pt q9 #[.pointer (some ⟨m10, 0, none⟩), .int .i64 1] 108, memO m10 c11 [0, x, y, 0] (s + 1) ⟨1, 2, y, y, true⟩, pt b7 #[.int .i64 x, .int .i64 y] 45, pt b12 ((vals (xs.map actV))) 46] _ := hM
                      replace hM := hM.closeB (f := actC q9) (y := (some (bj, true, y, true, false) : AcS)) hxj
                      rw [← actV_set (s' := (true, y, true, false)) hxj] at hM
                      replace hM : Mem _ _ [bundle ((xs.set n15 (some (bj, true, y, true, false) : AcS)).map (actC q9)), pt q9 #[.pointer (some ⟨m10, 0, none⟩), .int .i64 1] 108, memO m10 c11 [0, x, y, 0] (s + 1) ⟨1, 2, y, y, true⟩, pt b7 #[.int .i64 x, .int .i64 y] 45, pt b12 ((vals ((xs.set n15 (some (bj, true, y, true, false) : AcS)).map actV))) 46] _ := hM
                      replace hM : Mem _ _ [bundle ((xs.set n15 (some (bj, true, y, true, false) : AcS)).map (actC q9)), pt q9 #[.pointer (some ⟨m10, 0, none⟩), .int .i64 1] 108, memO m10 c11 [0, x, y, 0] (s + 1) ⟨1, 2, y, y, true⟩, pt b7 #[.int .i64 x, .int .i64 y] 45, pt b12 ((vals ((xs.set n15 (some (bj, true, y, true, false) : AcS)).map actV))) 46] _ := hM.firstN 5
                      exact hNext ((k + 1, x, y, (xs.set n15 (some (bj, true, y, true, false) : AcS)), s + 1, ⟨1, 2, y, y, true⟩)) _ _ ((by show 100 - (k + 1) < 100 - k; omega)) ⟨hA.sub ((.cons rfl (.cons rfl (.cons rfl (.cons rfl (.cons rfl (.cons rfl (.cons rfl .nil)))))))), hM, (by omega), (by omega), (by omega), (by rw [List.length_set]; exact hxlen), (acOK_set hxok _ (show AcOK (some (bj, true, y, true, false) : AcS) from ⟨by first | simp | (simp; done), by first | (simp; done) | (intros; omega), by omega, by omega⟩)), (by omega)⟩
                    ·
                      refine Ends.region ?_
                      refine S.val hA (R.move rfl) rfl ?_; clear hA a; intro a hA
                      refine S.val hA (R.move rfl) rfl ?_; clear hA a; intro a hA
                      refine S.val hA (R.tt (R.lss rfl rfl) (by omega)) rfl ?_; clear hA a; intro a hA
                      refine S.val hA (R.move rfl) rfl ?_; clear hA a; intro a hA
                      refine S.valg (dj := 96) hA (by kernel_rfl) rfl (R.move rfl) rfl ?_; clear hA a; intro a hA
                      refine S.valg (dj := 96) hA (by kernel_rfl) rfl (R.indexAddrA (q := n15) ar46 rfl rfl (by omega) (by omega)) rfl ?_; clear hA a; intro a hA
                      refine S.valg (dj := 96) hA (by kernel_rfl) rfl (R.load sz28 rfl (hM.cell (k := 5) rfl (vals_at _ _ _ (actV_at hxj)))) rfl ?_; clear hA a; intro a hA
                      refine S.valg (dj := 96) hA (by kernel_rfl) rfl (R.eqlNil Try.underlying28 rfl rfl) rfl ?_; clear hA a; intro a hA
                      refine S.val hA (R.pickT rfl rfl) rfl ?_; clear hA a; intro a hA
                      refine S.val hA (R.assign rfl) rfl ?_; clear hA a; intro a hA
                      refine S.done ?_
                      replace hA : St 161 [(1, _), (2, _), (7, _), (8, _), (9, _), (11, _), (12, _), (13, _), (14, _), (50, _), (53, _), (54, _), (55, _), (56, _), (57, _), (58, _), (59, _), (60, _), (61, _), (62, _), (63, _), (64, _), (76, _), (77, _), (78, _), (84, _), (85, _), (86, _), (92, _), (93, _), (94, _), (95, _), (96, _), (97, _), (98, _), (99, _), (100, _), (101, _)] a := hA.sub ((.cons rfl (.cons rfl (.cons rfl (.cons rfl (.cons rfl (.cons rfl (.cons rfl (.cons rfl (.cons rfl (.cons rfl (.cons rfl (.cons rfl (.cons rfl (.cons rfl (.cons rfl (.cons rfl (.cons rfl (.cons rfl (.cons rfl (.cons rfl (.cons rfl (.cons rfl (.cons rfl (.cons rfl (.cons rfl (.cons rfl (.cons rfl (.cons rfl (.cons rfl (.cons rfl (.cons rfl (.cons rfl (.cons rfl (.cons rfl (.cons rfl (.cons rfl (.cons rfl (.cons rfl .nil)))))))))))))))))))))))))))))))))))))))
                      refine Ends.condF hA rfl ?_
                      refine Ends.seq ?_
                      refine Ends.region ?_
                      refine S.val hA (R.move rfl) rfl ?_; clear hA a; intro a hA
                      refine S.val hA (R.move rfl) rfl ?_; clear hA a; intro a hA
                      refine S.val hA (R.tt (R.lss rfl rfl) (by omega)) rfl ?_; clear hA a; intro a hA
                      refine S.val hA (R.assign rfl) rfl ?_; clear hA a; intro a hA
                      refine S.done ?_
                      replace hA : St 161 [(1, _), (2, _), (7, _), (8, _), (9, _), (11, _), (12, _), (13, _), (14, _), (50, _), (53, _), (54, _), (55, _), (56, _), (57, _), (58, _), (59, _), (60, _), (61, _), (62, _), (63, _), (64, _), (76, _), (77, _), (78, _), (84, _), (85, _), (86, _), (92, _), (93, _), (94, _), (95, _), (96, _), (97, _), (98, _), (99, _), (100, _), (101, _), (106, _), (107, _), (108, _), (109, _)] a := hA.sub ((.cons rfl (.cons rfl (.cons rfl (.cons rfl (.cons rfl (.cons rfl (.cons rfl (.cons rfl (.cons rfl (.cons rfl (.cons rfl (.cons rfl (.cons rfl (.cons rfl (.cons rfl (.cons rfl (.cons rfl (.cons rfl (.cons rfl (.cons rfl (.cons rfl (.cons rfl (.cons rfl (.cons rfl (.cons rfl (.cons rfl (.cons rfl (.cons rfl (.cons rfl (.cons rfl (.cons rfl (.cons rfl (.cons rfl (.cons rfl (.cons rfl (.cons rfl (.cons rfl (.cons rfl (.cons rfl (.cons rfl (.cons rfl (.cons rfl .nil)))))))))))))))))))))))))))))))))))))))))))
                      refine Ends.condT hA rfl ?_
                      refine Ends.seq ?_
                      refine Ends.seq ?_
                      refine Ends.region ?_
                      refine S.val hA (R.move rfl) rfl ?_; clear hA a; intro a hA
                      refine S.val hA (R.indexAddrA (q := n15) ar46 rfl rfl (by omega) (by omega)) rfl ?_; clear hA a; intro a hA
                      refine S.val hA (R.load sz28 rfl (hM.cell (k := 5) rfl (vals_at _ _ _ (actV_at hxj)))) rfl ?_; clear hA a; intro a hA
                      refine S.call hA (R.callF Try.func16 rfl rfl rfl) rfl (cact_over bj q9 hd false false false _ (hM.block (k := 0) rfl)) ?_; clear hA a
                      rintro e w37 ⟨rfl, rfl⟩
                      refine ⟨.bool false, rfl, fun a hA => ?_⟩
                      refine S.done ?_
                      replace hA : St 161 [(1, _), (2, _), (7, _), (8, _), (9, _), (11, _), (12, _), (13, _), (14, _), (50, _), (53, _), (54, _), (55, _), (56, _), (57, _), (58, _), (59, _), (60, _), (61, _), (62, _), (63, _), (64, _), (76, _), (77, _), (78, _), (84, _), (85, _), (86, _), (92, _), (93, _), (94, _), (95, _), (96, _), (97, _), (98, _), (99, _), (100, _), (101, _), (106, _), (107, _), (108, _), (109, _), (110, _), (111, _), (112, _), (113, _)] a := hA.sub ((.cons rfl (.cons rfl (.cons rfl (.cons rfl (.cons rfl (.cons rfl (.cons rfl (.cons rfl (.cons rfl (.cons rfl (.cons rfl (.cons rfl (.cons rfl (.cons rfl (.cons rfl (.cons rfl (.cons rfl (.cons rfl (.cons rfl (.cons rfl (.cons rfl (.cons rfl (.cons rfl (.cons rfl (.cons rfl (.cons rfl (.cons rfl (.cons rfl (.cons rfl (.cons rfl (.cons rfl (.cons rfl (.cons rfl (.cons rfl (.cons rfl (.cons rfl (.cons rfl (.cons rfl (.cons rfl (.cons rfl (.cons rfl (.cons rfl (.cons rfl (.cons rfl (.cons rfl (.cons rfl .nil)))))))))))))))))))))))))))))))))))))))))))))))
                      refine Ends.condF hA rfl ?_
                      refine Ends.skip ?_
                      refine Ends.seq ?_
                      refine Ends.seq ?_
                      refine Ends.region ?_
                      refine S.val hA (R.move rfl) rfl ?_; clear hA a; intro a hA
                      refine S.val hA (R.indexAddrA (q := n15) ar46 rfl rfl (by omega) (by omega)) rfl ?_; clear hA a; intro a hA
                      refine S.val hA (R.load sz28 rfl (hM.cell (k := 5) rfl (vals_at _ _ _ (actV_at hxj)))) rfl ?_; clear hA a; intro a hA
                      replace hM := hM.front (k := 3) rfl
                      replace hM := hM.front (k := 3) rfl
                      replace hM := hM.front (k := 2) rfl
                      replace hM : Mem _ _ [pt bj #[.pointer (some ⟨q9, 0, none⟩), .bool false, .int .i64 hd, .bool false, .bool false] 105, pt q9 #[.pointer (some ⟨m10, 0, none⟩), .int .i64 1] 108, memO m10 c11 [0, x, y, 0] s op, bundle ((xs.eraseIdx n15).map (actC q9)), pt b7 #[.int .i64 x, .int .i64 y] 45, pt b12 ((vals (xs.map actV))) 46] _ := hM
                      refine S.call hA (R.callF Try.func17 rfl rfl rfl) rfl (cstep_look_more q9 m10 c11 1 [0, x, y, 0] s op (by first | omega | simp | (simp; omega)) (by first | omega | simp | (simp; omega)) (by first | omega | simp | (simp; omega)) hm10c11 bj hd false (by show 1 < y; omega) _ (hM.hereN 3)) ?_; clear hA a
                      rintro e w38 ⟨rfl, hn⟩
                      replace hM : Mem _ _ [pt bj #[.pointer (some ⟨q9, 0, none⟩), .bool true, .int .i64 y, .bool false, .bool false] 105, pt q9 #[.pointer (some ⟨m10, 0, none⟩), .int .i64 1] 108, memO m10 c11 [0, x, y, 0] (s + 1) ⟨1, 2, y, y, true⟩, bundle ((xs.eraseIdx n15).map (actC q9)), pt b7 #[.int .i64 x, .int .i64 y] 45, pt b12 ((vals (xs.map actV))) 46] _ := hM.callL 3 hn; clear hn
                      refine ⟨.bool false, rfl, fun a hA => ?_⟩
                      refine S.val hA (R.move rfl) rfl ?_; clear hA a; intro a hA
                      refine S.no (dj := 118) hA (by kernel_rfl) rfl rfl rfl ?_; clear hA a; intro a hA
                      refine S.no (dj := 118) hA (by kernel_rfl) rfl rfl rfl ?_; clear hA a; intro a hA
                      refine S.no (dj := 118) hA (by kernel_rfl) rfl rfl rfl ?_; clear hA a; intro a hA
                      refine S.no (dj := 118) hA (by kernel_rfl) rfl rfl rfl ?_; clear hA a; intro a hA
                      refine S.val hA (R.pickF rfl rfl) rfl ?_; clear hA a; intro a hA
                      refine S.done ?_
                      replace hA : St 161 [(1, _), (2, _), (7, _), (8, _), (9, _), (11, _), (12, _), (13, _), (14, _), (50, _), (53, _), (54, _), (55, _), (56, _), (57, _), (58, _), (59, _), (60, _), (61, _), (62, _), (63, _), (64, _), (76, _), (77, _), (78, _), (84, _), (85, _), (86, _), (92, _), (93, _), (94, _), (95, _), (96, _), (97, _), (98, _), (99, _), (100, _), (101, _), (106, _), (107, _), (108, _), (109, _), (110, _), (111, _), (112, _), (113, _), (114, _), (115, _), (116, _), (117, _), (118, _), (123, _)] a := hA.sub ((.cons rfl (.cons rfl (.cons rfl (.cons rfl (.cons rfl (.cons rfl (.cons rfl (.cons rfl (.cons rfl (.cons rfl (.cons rfl (.cons rfl (.cons rfl (.cons rfl (.cons rfl (.cons rfl (.cons rfl (.cons rfl (.cons rfl (.cons rfl (.cons rfl (.cons rfl (.cons rfl (.cons rfl (.cons rfl (.cons rfl (.cons rfl (.cons rfl (.cons rfl (.cons rfl (.cons rfl (.cons rfl (.cons rfl (.cons rfl (.cons rfl (.cons rfl (.cons rfl (.cons rfl (.cons rfl (.cons rfl (.cons rfl (.cons rfl (.cons rfl (.cons rfl (.cons rfl (.cons rfl (.cons rfl (.cons rfl (.cons rfl (.cons rfl (.cons rfl (.cons rfl .nil)))))))))))))))))))))))))))))))))))))))))))))))))))))
                      refine Ends.condF hA rfl ?_
                      refine Ends.skip ?_
                      refine Ends.seq ?_
                      refine Ends.region ?_
                      refine S.val hA (R.move rfl) rfl ?_; clear hA a; intro a hA
                      refine S.call hA (R.callF Try.func27 rfl rfl rfl) rfl (steps_ok m10 c11 [0, x, y, 0] (s + 1) ⟨1, 2, y, y, true⟩ hm10c11 _ (hM.mem (k := 2) rfl)) ?_; clear hA a
                      rintro e w39 ⟨rfl, rfl⟩
                      refine ⟨.int .i64 (s + 1), rfl, fun a hA => ?_⟩
                      refine S.val hA (R.move rfl) rfl ?_; clear hA a; intro a hA
                      refine S.val hA (R.addI rfl rfl (r := s + 1) rfl (by omega)) rfl ?_; clear hA a; intro a hA
                      refine S.val hA (R.ff (R.gtr rfl rfl) (by omega)) rfl ?_; clear hA a; intro a hA
                      refine S.done ?_
                      replace hA : St 161 [(1, _), (2, _), (7, _), (8, _), (9, _), (11, _), (12, _), (13, _), (14, _), (50, _), (53, _), (54, _), (55, _), (56, _), (57, _), (58, _), (59, _), (60, _), (61, _), (62, _), (63, _), (64, _), (76, _), (77, _), (78, _), (84, _), (85, _), (86, _), (92, _), (93, _), (94, _), (95, _), (96, _), (97, _), (98, _), (99, _), (100, _), (101, _), (106, _), (107, _), (108, _), (109, _), (110, _), (111, _), (112, _), (113, _), (114, _), (115, _), (116, _), (117, _), (118, _), (123, _), (128, _), (129, _), (130, _), (131, _), (132, _)] a := hA.sub ((.cons rfl (.cons rfl (.cons rfl (.cons rfl (.cons rfl (.cons rfl (.cons rfl (.cons rfl (.cons rfl (.cons rfl (.cons rfl (.cons rfl (.cons rfl (.cons rfl (.cons rfl (.cons rfl (.cons rfl (.cons rfl (.cons rfl (.cons rfl (.cons rfl (.cons rfl (.cons rfl (.cons rfl (.cons rfl (.cons rfl (.cons rfl (.cons rfl (.cons rfl (.cons rfl (.cons rfl (.cons rfl (.cons rfl (.cons rfl (.cons rfl (.cons rfl (.cons rfl (.cons rfl (.cons rfl (.cons rfl (.cons rfl (.cons rfl (.cons rfl (.cons rfl (.cons rfl (.cons rfl (.cons rfl (.cons rfl (.cons rfl (.cons rfl (.cons rfl (.cons rfl (.cons rfl (.cons rfl (.cons rfl (.cons rfl (.cons rfl .nil))))))))))))))))))))))))))))))))))))))))))))))))))))))))))
                      refine Ends.condF hA rfl ?_
                      refine Ends.skip ?_
                      refine Ends.inBlock ?_
                      refine Ends.seq ?_
                      refine Ends.seq ?_
                      refine Ends.region ?_
                      refine S.val hA (R.move rfl) rfl ?_; clear hA a; intro a hA
                      refine S.val hA (R.ff (R.geq rfl rfl) (by omega)) rfl ?_; clear hA a; intro a hA
                      refine S.val hA (R.move rfl) rfl ?_; clear hA a; intro a hA
                      refine S.no (dj := 135) hA (by kernel_rfl) rfl rfl rfl ?_; clear hA a; intro a hA
                      refine S.no (dj := 135) hA (by kernel_rfl) rfl rfl rfl ?_; clear hA a; intro a hA
                      refine S.no (dj := 135) hA (by kernel_rfl) rfl rfl rfl ?_; clear hA a; intro a hA
                      refine S.no (dj := 135) hA (by kernel_rfl) rfl rfl rfl ?_; clear hA a; intro a hA
                      refine S.no (dj := 135) hA (by kernel_rfl) rfl rfl rfl ?_; clear hA a; intro a hA
                      refine S.val hA (R.pickF rfl rfl) rfl ?_; clear hA a; intro a hA
                      refine S.done ?_
                      replace hA : St 161 [(1, _), (2, _), (7, _), (8, _), (9, _), (11, _), (12, _), (13, _), (14, _), (50, _), (53, _), (54, _), (55, _), (56, _), (57, _), (58, _), (59, _), (60, _), (61, _), (62, _), (63, _), (64, _), (76, _), (77, _), (78, _), (84, _), (85, _), (86, _), (92, _), (93, _), (94, _), (95, _), (96, _), (97, _), (98, _), (99, _), (100, _), (101, _), (106, _), (107, _), (108, _), (109, _), (110, _), (111, _), (112, _), (113, _), (114, _), (115, _), (116, _), (117, _), (118, _), (123, _), (128, _), (129, _), (130, _), (131, _), (132, _), (133, _), (134, _), (135, _), (141, _)] a := hA.sub ((.cons rfl (.cons rfl (.cons rfl (.cons rfl (.cons rfl (.cons rfl (.cons rfl (.cons rfl (.cons rfl (.cons rfl (.cons rfl (.cons rfl (.cons rfl (.cons rfl (.cons rfl (.cons rfl (.cons rfl (.cons rfl (.cons rfl (.cons rfl (.cons rfl (.cons rfl (.cons rfl (.cons rfl (.cons rfl (.cons rfl (.cons rfl (.cons rfl (.cons rfl (.cons rfl (.cons rfl (.cons rfl (.cons rfl (.cons rfl (.cons rfl (.cons rfl (.cons rfl (.cons rfl (.cons rfl (.cons rfl (.cons rfl (.cons rfl (.cons rfl (.cons rfl (.cons rfl (.cons rfl (.cons rfl (.cons rfl (.cons rfl (.cons rfl (.cons rfl (.cons rfl (.cons rfl (.cons rfl (.cons rfl (.cons rfl (.cons rfl (.cons rfl (.cons rfl (.cons rfl (.cons rfl .nil))))))))))))))))))))))))))))))))))))))))))))))))))))))))))))))
                      refine Ends.condF hA rfl ?_
                      refine Ends.skip ?_
                      refine Ends.seq ?_
                      refine Ends.region ?_
                      refine S.val hA (R.move rfl) rfl ?_; clear hA a; intro a hA
                      replace hM := hM.front (k := 2) rfl
                      replace hM := hM.front (k := 2) rfl
                      replace hM : Mem _ _ [pt q9 #[.pointer (some ⟨m10, 0, none⟩), .int .i64 1] 108, memO m10 c11 [0, x, y, 0] (s + 1) ⟨1, 2, y, y, true⟩, pt bj #[.pointer (some ⟨q9, 0, none⟩), .bool true, .int .i64 y, .bool false, .bool false] 105, bundle ((xs.eraseIdx n15).map (actC q9)), pt b7 #[.int .i64 x, .int .i64 y] 45, pt b12 ((vals (xs.map actV))) 46] _ := hM
                      refine S.call hA (R.callF Try.func19 rfl rfl rfl) rfl (cnt_Now q9 m10 c11 1 [0, x, y, 0] (s + 1) ⟨1, 2, y, y, true⟩ (by first | omega | simp | (simp; omega)) (by first | omega | simp | (simp; omega)) (by first | omega | simp | (simp; omega)) hm10c11 _ (hM.hereN 2)) ?_; clear hA a
                      rintro e w40 ⟨rfl, hn⟩
                      replace hM : Mem _ _ [pt q9 #[.pointer (some ⟨m10, 0, none⟩), .int .i64 1] 108, memO m10 c11 [0, x, y, 0] (s + 1) ⟨1, 2, y, y, true⟩, pt bj #[.pointer (some ⟨q9, 0, none⟩), .bool true, .int .i64 y, .bool false, .bool false] 105, bundle ((xs.eraseIdx n15).map (actC q9)), pt b7 #[.int .i64 x, .int .i64 y] 45, pt b12 ((vals (xs.map actV))) 46] _ := hM.callL 2 hn; clear hn
                      refine ⟨.tuple #[.int .i64 x, .int .i64 y], rfl, fun a hA => ?_⟩
                      refine S.val hA (R.move rfl) rfl ?_; clear hA a; intro a hA
                      refine S.val hA (R.extract (v := .int .i64 x) rfl rfl) rfl ?_; clear hA a; intro a hA
                      refine S.val hA (R.extract (v := .int .i64 y) rfl rfl) rfl ?_; clear hA a; intro a hA
                      refine S.val hA (R.assign rfl) rfl ?_; clear hA a; intro a hA
                      refine S.val hA (R.assign rfl) rfl ?_; clear hA a; intro a hA
                      refine S.done ?_
                      replace hA : St 161 [(1, _), (2, _), (7, _), (8, _), (9, _), (11, _), (12, _), (13, _), (14, _), (16, _), (17, _), (50, _), (53, _), (54, _), (55, _), (56, _), (57, _), (58, _), (59, _), (60, _), (61, _), (62, _), (63, _), (64, _), (76, _), (77, _), (78, _), (84, _), (85, _), (86, _), (92, _), (93, _), (94, _), (95, _), (96, _), (97, _), (98, _), (99, _), (100, _), (101, _), (106, _), (107, _), (108, _), (109, _), (110, _), (111, _), (112, _), (113, _), (114, _), (115, _), (116, _), (117, _), (118, _), (123, _), (128, _), (129, _), (130, _), (131, _), (132, _), (133, _), (134, _), (135, _), (141, _), (142, _), (143, _), (144, _), (145, _), (146, _)] a := hA.sub ((.cons rfl (.cons rfl (.cons rfl (.cons rfl (.cons rfl (.cons rfl (.cons rfl (.cons rfl (.cons rfl (.cons rfl (.cons rfl (.cons rfl (.cons rfl (.cons rfl (.cons rfl (.cons rfl (.cons rfl (.cons rfl (.cons rfl (.cons rfl (.cons rfl (.cons rfl (.cons rfl (.cons rfl (.cons rfl (.cons rfl (.cons rfl (.cons rfl (.cons rfl (.cons rfl (.cons rfl (.cons rfl (.cons rfl (.cons rfl (.cons rfl (.cons rfl (.cons rfl (.cons rfl (.cons rfl (.cons rfl (.cons rfl (.cons rfl (.cons rfl (.cons rfl (.cons rfl (.cons rfl (.cons rfl (.cons rfl (.cons rfl (.cons rfl (.cons rfl (.cons rfl (.cons rfl (.cons rfl (.cons rfl (.cons rfl (.cons rfl (.cons rfl (.cons rfl (.cons rfl (.cons rfl (.cons rfl (.cons rfl (.cons rfl (.cons rfl (.cons rfl (.cons rfl (.cons rfl .nil)))))))))))))))))))))))))))))))))))))))))))))))))))))))))))))))))))))
                      refine Ends.seq ?_
                      refine Ends.region ?_
                      refine S.val hA (R.move rfl) rfl ?_; clear hA a; intro a hA
                      refine S.val hA (R.fieldAddr (q := 0) fi45_0 rfl rfl rfl) rfl ?_; clear hA a; intro a hA
                      refine S.val hA (R.load sz3 rfl (hM.cell (k := 4) rfl rfl)) rfl ?_; clear hA a; intro a hA
                      refine S.val hA (R.ff (R.neq rfl rfl) (by omega)) rfl ?_; clear hA a; intro a hA
                      refine S.val hA (R.move rfl) rfl ?_; clear hA a; intro a hA
                      refine S.valg (dj := 151) hA (by kernel_rfl) rfl (R.move rfl) rfl ?_; clear hA a; intro a hA
                      refine S.valg (dj := 151) hA (by kernel_rfl) rfl (R.fieldAddr (q := 1) fi45_1 rfl rfl rfl) rfl ?_; clear hA a; intro a hA
                      refine S.valg (dj := 151) hA (by kernel_rfl) rfl (R.load sz3 rfl (hM.cell (k := 4) rfl rfl)) rfl ?_; clear hA a; intro a hA
                      refine S.valg (dj := 151) hA (by kernel_rfl) rfl (R.ff (R.neq rfl rfl) (by omega)) rfl ?_; clear hA a; intro a hA
                      refine S.val hA (R.pickF rfl rfl) rfl ?_; clear hA a; intro a hA
                      refine S.val hA (R.move rfl) rfl ?_; clear hA a; intro a hA
                      refine S.valg (dj := 157) hA (by kernel_rfl) rfl (R.move rfl) rfl ?_; clear hA a; intro a hA
                      refine S.valg (dj := 157) hA (by kernel_rfl) rfl (R.ff (R.lss rfl rfl) (by omega)) rfl ?_; clear hA a; intro a hA
                      refine S.val hA (R.pickF rfl rfl) rfl ?_; clear hA a; intro a hA
                      refine S.done ?_
                      replace hA : St 161 [(1, _), (2, _), (7, _), (8, _), (9, _), (11, _), (12, _), (13, _), (14, _), (16, _), (17, _), (50, _), (53, _), (54, _), (55, _), (56, _), (57, _), (58, _), (59, _), (60, _), (61, _), (62, _), (63, _), (64, _), (76, _), (77, _), (78, _), (84, _), (85, _), (86, _), (92, _), (93, _), (94, _), (95, _), (96, _), (97, _), (98, _), (99, _), (100, _), (101, _), (106, _), (107, _), (108, _), (109, _), (110, _), (111, _), (112, _), (113, _), (114, _), (115, _), (116, _), (117, _), (118, _), (123, _), (128, _), (129, _), (130, _), (131, _), (132, _), (133, _), (134, _), (135, _), (141, _), (142, _), (143, _), (144, _), (145, _), (146, _), (147, _), (148, _), (149, _), (150, _), (151, _), (152, _), (153, _), (154, _), (155, _), (156, _), (157, _), (158, _), (159, _), (160, _)] a := hA.sub ((.cons rfl (.cons rfl (.cons rfl (.cons rfl (.cons rfl (.cons rfl (.cons rfl (.cons rfl (.cons rfl (.cons rfl (.cons rfl (.cons rfl (.cons rfl (.cons rfl (.cons rfl (.cons rfl (.cons rfl (.cons rfl (.cons rfl (.cons rfl (.cons rfl (.cons rfl (.cons rfl (.cons rfl (.cons rfl (.cons rfl (.cons rfl (.cons rfl (.cons rfl (.cons rfl (.cons rfl (.cons rfl (.cons rfl (.cons rfl (.cons rfl (.cons rfl (.cons rfl (.cons rfl (.cons rfl (.cons rfl (.cons rfl (.cons rfl (.cons rfl (.cons rfl (.cons rfl (.cons rfl (.cons rfl (.cons rfl (.cons rfl (.cons rfl (.cons rfl (.cons rfl (.cons rfl (.cons rfl (.cons rfl (.cons rfl (.cons rfl (.cons rfl (.cons rfl (.cons rfl (.cons rfl (.cons rfl (.cons rfl (.cons rfl (.cons rfl (.cons rfl (.cons rfl (.cons rfl (.cons rfl (.cons rfl (.cons rfl (.cons rfl (.cons rfl (.cons rfl (.cons rfl (.cons rfl (.cons rfl (.cons rfl (.cons rfl (.cons rfl (.cons rfl (.cons rfl .nil)))))))))))))))))))))))))))))))))))))))))))))))))))))))))))))))))))))))))))))))))))
                      refine Ends.condF hA rfl ?_
                      refine Ends.skip ?_
                      refine Ends.inBlock ?_
                      refine Ends.region ?_
                      refine S.val hA (R.move rfl) rfl ?_; clear hA a; intro a hA
                      refine S.val hA (R.addI rfl rfl (r := ((k : Int)) + 1) rfl (by omega)) rfl ?_; clear hA a; intro a hA
                      refine S.val hA (R.assign rfl) rfl ?_; clear hA a; intro a hA
                      refine S.done ?_
                      replace hA : St 161 [(1, _), (2, _), (7, _), (8, _), (9, _), (11, _), (12, _), (13, _), (14, _), (16, _), (17, _), (50, _), (51, _), (52, _), (53, _), (54, _), (55, _), (56, _), (57, _), (58, _), (59, _), (60, _), (61, _), (62, _), (63, _), (64, _), (76, _), (77, _), (78, _), (84, _), (85, _), (86, _), (92, _), (93, _), (94, _), (95, _), (96, _), (97, _), (98, _), (99, _), (100, _), (101, _), (106, _), (107, _), (108, _), (109, _), (110, _), (111, _), (112, _), (113, _), (114, _), (115, _), (116, _), (117, _), (118, _), (123, _), (128, _), (129, _), (130, _), (131, _), (132, _), (133, _), (134, _), (135, _), (141, _), (142, _), (143, _), (144, _), (145, _), (146, _), (147, _), (148, _), (149, _), (150, _), (151, _), (152, _), (153, _), (154, _), (155, _), (156, _), (157, _), (158, _), (159, _), (160, _)] a := hA.sub ((.cons rfl (.cons rfl (.cons rfl (.cons rfl (.cons rfl (.cons rfl (.cons rfl (.cons rfl (.cons rfl (.cons rfl (.cons rfl (.cons rfl (.cons rfl (.cons rfl (.cons rfl (.cons rfl (.cons rfl (.cons rfl (.cons rfl (.cons rfl (.cons rfl (.cons rfl (.cons rfl (.cons rfl (.cons rfl (.cons rfl (.cons rfl (.cons rfl (.cons rfl (.cons rfl (.cons rfl (.cons rfl (.cons rfl (.cons rfl (.cons rfl (.cons rfl (.cons rfl (.cons rfl (.cons rfl (.cons rfl (.cons rfl (.cons rfl (.cons rfl (.cons rfl (.cons rfl (.cons rfl (.cons rfl (.cons rfl (.cons rfl (.cons rfl (.cons rfl (.cons rfl (.cons rfl (.cons rfl (.cons rfl (.cons rfl (.cons rfl (.cons rfl (.cons rfl (.cons rfl (.cons rfl (.cons rfl (.cons rfl (.cons rfl (.cons rfl (.cons rfl (.cons rfl (.cons rfl (.cons rfl (.cons rfl (.cons rfl (.cons rfl (.cons rfl (.cons rfl (.cons rfl (.cons rfl (.cons rfl (.cons rfl (.cons rfl (.cons rfl (.cons rfl (.cons rfl (.cons rfl (.cons rfl .nil)))))))))))))))))))))))))))))))))))))))))))))))))))))))))))))))))))))))))))))))))))))
                      replace hM := hM.front (k := 3) rfl
                      replace hM := hM.front (k := 3) rfl
                      replace hM : Mem _ _ [pt bj #[.pointer (some ⟨q9, 0, none⟩), .bool true, .int .i64 y, .bool false, .bool false] 105, bundle ((xs.eraseIdx n15).map (actC q9)), pt q9 #[.pointer (some ⟨m10, 0, none⟩), .int .i64 1] 108, memO m10 c11 [0, x, y, 0] (s + 1) ⟨1, 2, y, y, true⟩, pt b7 #[.int .i64 x, .int .i64 y] 45, pt b12 ((vals (xs.map actV))) 46] _ := hM
                      replace hM := hM.closeB (f := actC q9) (y := (some (bj, true, y, false, false) : AcS)) hxj
                      rw [← actV_set (s' := (true, y, false, false)) hxj] at hM
                      replace hM : Mem _ _ [bundle ((xs.set n15 (some (bj, true, y, false, false) : AcS)).map (actC q9)), pt q9 #[.pointer (some ⟨m10, 0, none⟩), .int .i64 1] 108, memO m10 c11 [0, x, y, 0] (s + 1) ⟨1, 2, y, y, true⟩, pt b7 #[.int .i64 x, .int .i64 y] 45, pt b12 ((vals ((xs.set n15 (some (bj, true, y, false, false) : AcS)).map actV))) 46] _ := hM
                      replace hM : Mem _ _ [bundle ((xs.set n15 (some (bj, true, y, false, false) : AcS)).map (actC q9)), pt q9 #[.pointer (some ⟨m10, 0, none⟩), .int .i64 1] 108, memO m10 c11 [0, x, y, 0] (s + 1) ⟨1, 2, y, y, true⟩, pt b7 #[.int .i64 x, .int .i64 y] 45, pt b12 ((vals ((xs.set n15 (some (bj, true, y, false, false) : AcS)).map actV))) 46] _ := hM.firstN 5
                      exact hNext ((k + 1, x, y, (xs.set n15 (some (bj, true, y, false, false) : AcS)), s + 1, ⟨1, 2, y, y, true⟩)) _ _ ((by show 100 - (k + 1) < 100 - k; omega)) ⟨hA.sub ((.cons rfl (.cons rfl (.cons rfl (.cons rfl (.cons rfl (.cons rfl (.cons rfl .nil)))))))), hM, (by omega), (by omega), (by omega), (by rw [List.length_set]; exact hxlen), (acOK_set hxok _ (show AcOK (some (bj, true, y, false, false) : AcS) from ⟨by first | simp | (simp; done), by first | (simp; done) | (intros; omega), by omega, by omega⟩)), (by omega)⟩
            ·
              refine Ends.region ?_
              refine S.val hA (R.move rfl) rfl ?_; clear hA a; intro a hA
              refine S.val hA (R.move rfl) rfl ?_; clear hA a; intro a hA
              refine S.val hA (R.ff (R.lss rfl rfl) (by omega)) rfl ?_; clear hA a; intro a hA
              refine S.val hA (R.move rfl) rfl ?_; clear hA a; intro a hA
              refine S.no (dj := 96) hA (by kernel_rfl) rfl rfl rfl ?_; clear hA a; intro a hA
              refine S.no (dj := 96) hA (by kernel_rfl) rfl rfl rfl ?_; clear hA a; intro a hA
              refine S.no (dj := 96) hA (by kernel_rfl) rfl rfl rfl ?_; clear hA a; intro a hA
              refine S.no (dj := 96) hA (by kernel_rfl) rfl rfl rfl ?_; clear hA a; intro a hA
              refine S.val hA (R.pickF rfl rfl) rfl ?_; clear hA a; intro a hA
              refine S.val hA (R.assign rfl) rfl ?_; clear hA a; intro a hA
              refine S.done ?_
              replace hA : St 161 [(1, _), (2, _), (7, _), (8, _), (9, _), (11, _), (12, _), (13, _), (14, _), (50, _), (53, _), (54, _), (55, _), (56, _), (57, _), (58, _), (59, _), (60, _), (61, _), (62, _), (63, _), (64, _), (76, _), (77, _), (78, _), (84, _), (85, _), (86, _), (92, _), (93, _), (94, _), (95, _), (96, _), (101, _)] a := hA.sub ((.cons rfl (.cons rfl (.cons rfl (.cons rfl (.cons rfl (.cons rfl (.cons rfl (.cons rfl (.cons rfl (.cons rfl (.cons rfl (.cons rfl (.cons rfl (.cons rfl (.cons rfl (.cons rfl (.cons rfl (.cons rfl (.cons rfl (.cons rfl (.cons rfl (.cons rfl (.cons rfl (.cons rfl (.cons rfl (.cons rfl (.cons rfl (.cons rfl (.cons rfl (.cons rfl (.cons rfl (.cons rfl (.cons rfl (.cons rfl .nil)))))))))))))))))))))))))))))))))))
              refine Ends.condF hA rfl ?_
              refine Ends.seq ?_
              refine Ends.region ?_
              refine S.val hA (R.move rfl) rfl ?_; clear hA a; intro a hA
              refine S.val hA (R.move rfl) rfl ?_; clear hA a; intro a hA
              refine S.val hA (R.ff (R.lss rfl rfl) (by omega)) rfl ?_; clear hA a; intro a hA
              refine S.val hA (R.assign rfl) rfl ?_; clear hA a; intro a hA
              refine S.done ?_
              replace hA : St 161 [(1, _), (2, _), (7, _), (8, _), (9, _), (11, _), (12, _), (13, _), (14, _), (50, _), (53, _), (54, _), (55, _), (56, _), (57, _), (58, _), (59, _), (60, _), (61, _), (62, _), (63, _), (64, _), (76, _), (77, _), (78, _), (84, _), (85, _), (86, _), (92, _), (93, _), (94, _), (95, _), (96, _), (101, _), (106, _), (107, _), (108, _), (109, _)] a := hA.sub ((.cons rfl (.cons rfl (.cons rfl (.cons rfl (.cons rfl (.cons rfl (.cons rfl (.cons rfl (.cons rfl (.cons rfl (.cons rfl (.cons rfl (.cons rfl (.cons rfl (.cons rfl (.cons rfl (.cons rfl (.cons rfl (.cons rfl (.cons rfl (.cons rfl (.cons rfl (.cons rfl (.cons rfl (.cons rfl (.cons rfl (.cons rfl (.cons rfl (.cons rfl (.cons rfl (.cons rfl (.cons rfl (.cons rfl (.cons rfl (.cons rfl (.cons rfl (.cons rfl (.cons rfl .nil)))))))))))))))))))))))))))))))))))))))
              refine Ends.condF hA rfl ?_
              refine Ends.skip ?_
              refine Ends.inBlock ?_
              refine Ends.seq ?_
              refine Ends.seq ?_
              refine Ends.region ?_
              refine S.val hA (R.move rfl) rfl ?_; clear hA a; intro a hA
              refine S.val hA (R.ff (R.geq rfl rfl) (by omega)) rfl ?_; clear hA a; intro a hA
              refine S.val hA (R.move rfl) rfl ?_; clear hA a; intro a hA
              refine S.no (dj := 135) hA (by kernel_rfl) rfl rfl rfl ?_; clear hA a; intro a hA
              refine S.no (dj := 135) hA (by kernel_rfl) rfl rfl rfl ?_; clear hA a; intro a hA
              refine S.no (dj := 135) hA (by kernel_rfl) rfl rfl rfl ?_; clear hA a; intro a hA
              refine S.no (dj := 135) hA (by kernel_rfl) rfl rfl rfl ?_; clear hA a; intro a hA
              refine S.no (dj := 135) hA (by kernel_rfl) rfl rfl rfl ?_; clear hA a; intro a hA
              refine S.val hA (R.pickF rfl rfl) rfl ?_; clear hA a; intro a hA
              refine S.done ?_
              replace hA : St 161 [(1, _), (2, _), (7, _), (8, _), (9, _), (11, _), (12, _), (13, _), (14, _), (50, _), (53, _), (54, _), (55, _), (56, _), (57, _), (58, _), (59, _), (60, _), (61, _), (62, _), (63, _), (64, _), (76, _), (77, _), (78, _), (84, _), (85, _), (86, _), (92, _), (93, _), (94, _), (95, _), (96, _), (101, _), (106, _), (107, _), (108, _), (109, _), (133, _), (134, _), (135, _), (141, _)] a := hA.sub ((.cons rfl (.cons rfl (.cons rfl (.cons rfl (.cons rfl (.cons rfl (.cons rfl (.cons rfl (.cons rfl (.cons rfl (.cons rfl (.cons rfl (.cons rfl (.cons rfl (.cons rfl (.cons rfl (.cons rfl (.cons rfl (.cons rfl (.cons rfl (.cons rfl (.cons rfl (.cons rfl (.cons rfl (.cons rfl (.cons rfl (.cons rfl (.cons rfl (.cons rfl (.cons rfl (.cons rfl (.cons rfl (.cons rfl (.cons rfl (.cons rfl (.cons rfl (.cons rfl (.cons rfl (.cons rfl (.cons rfl (.cons rfl (.cons rfl .nil)))))))))))))))))))))))))))))))))))))))))))
              refine Ends.condF hA rfl ?_
              refine Ends.skip ?_
              refine Ends.seq ?_
              refine Ends.region ?_
              refine S.val hA (R.move rfl) rfl ?_; clear hA a; intro a hA
              replace hM := hM.front (k := 2) rfl
              replace hM := hM.front (k := 2) rfl
              replace hM : Mem _ _ [pt q9 #[.pointer (some ⟨m10, 0, none⟩), .int .i64 1] 108, memO m10 c11 [0, x, y, 0] s op, bundle (xs.map (actC q9)), pt b7 #[.int .i64 x, .int .i64 y] 45, pt b12 ((vals (xs.map actV))) 46] _ := hM
              refine S.call hA (R.callF Try.func19 rfl rfl rfl) rfl (cnt_Now q9 m10 c11 1 [0, x, y, 0] s op (by first | omega | simp | (simp; omega)) (by first | omega | simp | (simp; omega)) (by first | omega | simp | (simp; omega)) hm10c11 _ (hM.hereN 2)) ?_; clear hA a
              rintro e w41 ⟨rfl, hn⟩
              replace hM : Mem _ _ [pt q9 #[.pointer (some ⟨m10, 0, none⟩), .int .i64 1] 108, memO m10 c11 [0, x, y, 0] s op, bundle (xs.map (actC q9)), pt b7 #[.int .i64 x, .int .i64 y] 45, pt b12 ((vals (xs.map actV))) 46] _ := hM.callL 2 hn; clear hn
              refine ⟨.tuple #[.int .i64 x, .int .i64 y], rfl, fun a hA => ?_⟩
              refine S.val hA (R.move rfl) rfl ?_; clear hA a; intro a hA
              refine S.val hA (R.extract (v := .int .i64 x) rfl rfl) rfl ?_; clear hA a; intro a hA
              refine S.val hA (R.extract (v := .int .i64 y) rfl rfl) rfl ?_; clear hA a; intro a hA
              refine S.val hA (R.assign rfl) rfl ?_; clear hA a; intro a hA
              refine S.val hA (R.assign rfl) rfl ?_; clear hA a; intro a hA
              refine S.done ?_
              replace hA : St 161 [(1, _), (2, _), (7, _), (8, _), (9, _), (11, _), (12, _), (13, _), (14, _), (16, _), (17, _), (50, _), (53, _), (54, _), (55, _), (56, _), (57, _), (58, _), (59, _), (60, _), (61, _), (62, _), (63, _), (64, _), (76, _), (77, _), (78, _), (84, _), (85, _), (86, _), (92, _), (93, _), (94, _), (95, _), (96, _), (101, _), (106, _), (107, _), (108, _), (109, _), (133, _), (134, _), (135, _), (141, _), (142, _), (143, _), (144, _), (145, _), (146, _)] a := hA.sub ((.cons rfl (.cons rfl (.cons rfl (.cons rfl (.cons rfl (.cons rfl (.cons rfl (.cons rfl (.cons rfl (.cons rfl (.cons rfl (.cons rfl (.cons rfl (.cons rfl (.cons rfl (.cons rfl (.cons rfl (.cons rfl (.cons rfl (.cons rfl (.cons rfl (.cons rfl (.cons rfl (.cons rfl (.cons rfl (.cons rfl (.cons rfl (.cons rfl (.cons rfl (.cons rfl (.cons rfl (.cons rfl (.cons rfl (.cons rfl (.cons rfl (.cons rfl (.cons rfl (.cons rfl (.cons rfl (.cons rfl (.cons rfl (.cons rfl (.cons rfl (.cons rfl (.cons rfl (.cons rfl (.cons rfl (.cons rfl (.cons rfl .nil))))))))))))))))))))))))))))))))))))))))))))))))))
              refine Ends.seq ?_
              refine Ends.region ?_
              refine S.val hA (R.move rfl) rfl ?_; clear hA a; intro a hA
              refine S.val hA (R.fieldAddr (q := 0) fi45_0 rfl rfl rfl) rfl ?_; clear hA a; intro a hA
              refine S.val hA (R.load sz3 rfl (hM.cell (k := 3) rfl rfl)) rfl ?_; clear hA a; intro a hA
              refine S.val hA (R.ff (R.neq rfl rfl) (by omega)) rfl ?_; clear hA a; intro a hA
              refine S.val hA (R.move rfl) rfl ?_; clear hA a; intro a hA
              refine S.valg (dj := 151) hA (by kernel_rfl) rfl (R.move rfl) rfl ?_; clear hA a; intro a hA
              refine S.valg (dj := 151) hA (by kernel_rfl) rfl (R.fieldAddr (q := 1) fi45_1 rfl rfl rfl) rfl ?_; clear hA a; intro a hA
              refine S.valg (dj := 151) hA (by kernel_rfl) rfl (R.load sz3 rfl (hM.cell (k := 3) rfl rfl)) rfl ?_; clear hA a; intro a hA
              refine S.valg (dj := 151) hA (by kernel_rfl) rfl (R.ff (R.neq rfl rfl) (by omega)) rfl ?_; clear hA a; intro a hA
              refine S.val hA (R.pickF rfl rfl) rfl ?_; clear hA a; intro a hA
              refine S.val hA (R.move rfl) rfl ?_; clear hA a; intro a hA
              refine S.valg (dj := 157) hA (by kernel_rfl) rfl (R.move rfl) rfl ?_; clear hA a; intro a hA
              refine S.valg (dj := 157) hA (by kernel_rfl) rfl (R.ff (R.lss rfl rfl) (by omega)) rfl ?_; clear hA a; intro a hA
              refine S.val hA (R.pickF rfl rfl) rfl ?_; clear hA a; intro a hA
              refine S.done ?_
              replace hA : St 161 [(1, _), (2, _), (7, _), (8, _), (9, _), (11, _), (12, _), (13, _), (14, _), (16, _), (17, _), (50, _), (53, _), (54, _), (55, _), (56, _), (57, _), (58, _), (59, _), (60, _), (61, _), (62, _), (63, _), (64, _), (76, _), (77, _), (78, _), (84, _), (85, _), (86, _), (92, _), (93, _), (94, _), (95, _), (96, _), (101, _), (106, _), (107, _), (108, _), (109, _), (133, _), (134, _), (135, _), (141, _), (142, _), (143, _), (144, _), (145, _), (146, _), (147, _), (148, _), (149, _), (150, _), (151, _), (152, _), (153, _), (154, _), (155, _), (156, _), (157, _), (158, _), (159, _), (160, _)] a := hA.sub ((.cons rfl (.cons rfl (.cons rfl (.cons rfl (.cons rfl (.cons rfl (.cons rfl (.cons rfl (.cons rfl (.cons rfl (.cons rfl (.cons rfl (.cons rfl (.cons rfl (.cons rfl (.cons rfl (.cons rfl (.cons rfl (.cons rfl (.cons rfl (.cons rfl (.cons rfl (.cons rfl (.cons rfl (.cons rfl (.cons rfl (.cons rfl (.cons rfl (.cons rfl (.cons rfl (.cons rfl (.cons rfl (.cons rfl (.cons rfl (.cons rfl (.cons rfl (.cons rfl (.cons rfl (.cons rfl (.cons rfl (.cons rfl (.cons rfl (.cons rfl (.cons rfl (.cons rfl (.cons rfl (.cons rfl (.cons rfl (.cons rfl (.cons rfl (.cons rfl (.cons rfl (.cons rfl (.cons rfl (.cons rfl (.cons rfl (.cons rfl (.cons rfl (.cons rfl (.cons rfl (.cons rfl (.cons rfl (.cons rfl .nil))))))))))))))))))))))))))))))))))))))))))))))))))))))))))))))))
              refine Ends.condF hA rfl ?_
              refine Ends.skip ?_
              refine Ends.inBlock ?_
              refine Ends.region ?_
              refine S.val hA (R.move rfl) rfl ?_; clear hA a; intro a hA
              refine S.val hA (R.addI rfl rfl (r := ((k : Int)) + 1) rfl (by omega)) rfl ?_; clear hA a; intro a hA
              refine S.val hA (R.assign rfl) rfl ?_; clear hA a; intro a hA
              refine S.done ?_
              replace hA : St 161 [(1, _), (2, _), (7, _), (8, _), (9, _), (11, _), (12, _), (13, _), (14, _), (16, _), (17, _), (50, _), (51, _), (52, _), (53, _), (54, _), (55, _), (56, _), (57, _), (58, _), (59, _), (60, _), (61, _), (62, _), (63, _), (64, _), (76, _), (77, _), (78, _), (84, _), (85, _), (86, _), (92, _), (93, _), (94, _), (95, _), (96, _), (101, _), (106, _), (107, _), (108, _), (109, _), (133, _), (134, _), (135, _), (141, _), (142, _), (143, _), (144, _), (145, _), (146, _), (147, _), (148, _), (149, _), (150, _), (151, _), (152, _), (153, _), (154, _), (155, _), (156, _), (157, _), (158, _), (159, _), (160, _)] a := hA.sub ((.cons rfl (.cons rfl (.cons rfl (.cons rfl (.cons rfl (.cons rfl (.cons rfl (.cons rfl (.cons rfl (.cons rfl (.cons rfl (.cons rfl (.cons rfl (.cons rfl (.cons rfl (.cons rfl (.cons rfl (.cons rfl (.cons rfl (.cons rfl (.cons rfl (.cons rfl (.cons rfl (.cons rfl (.cons rfl (.cons rfl (.cons rfl (.cons rfl (.cons rfl (.cons rfl (.cons rfl (.cons rfl (.cons rfl (.cons rfl (.cons rfl (.cons rfl (.cons rfl (.cons rfl (.cons rfl (.cons rfl (.cons rfl (.cons rfl (.cons rfl (.cons rfl (.cons rfl (.cons rfl (.cons rfl (.cons rfl (.cons rfl (.cons rfl (.cons rfl (.cons rfl (.cons rfl (.cons rfl (.cons rfl (.cons rfl (.cons rfl (.cons rfl (.cons rfl (.cons rfl (.cons rfl (.cons rfl (.cons rfl (.cons rfl (.cons rfl .nil))))))))))))))))))))))))))))))))))))))))))))))))))))))))))))))))))
              replace hM := hM.front (k := 4) rfl
              replace hM := hM.front (k := 4) rfl
              replace hM := hM.front (k := 3) rfl
              replace hM := hM.front (k := 3) rfl
              replace hM := hM.front (k := 4) rfl
              replace hM : Mem _ _ [bundle (xs.map (actC q9)), pt q9 #[.pointer (some ⟨m10, 0, none⟩), .int .i64 1] 108, memO m10 c11 [0, x, y, 0] s op, pt b7 #[.int .i64 x, .int .i64 y] 45, pt b12 ((vals (xs.map actV))) 46] _ := hM
              replace hM : Mem _ _ [bundle (xs.map (actC q9)), pt q9 #[.pointer (some ⟨m10, 0, none⟩), .int .i64 1] 108, memO m10 c11 [0, x, y, 0] s op, pt b7 #[.int .i64 x, .int .i64 y] 45, pt b12 ((vals (xs.map actV))) 46] _ := hM.firstN 5
              exact hNext ((k + 1, x, y, xs, s, op)) _ _ ((by show 100 - (k + 1) < 100 - k; omega)) ⟨hA.sub ((.cons rfl (.cons rfl (.cons rfl (.cons rfl (.cons rfl (.cons rfl (.cons rfl .nil)))))))), hM, (by omega), (by omega), (by omega), hxlen, hxok, (by omega)⟩
    ·
      refine Ends.exit rfl ?_
      replace hA : St 161 [] a := hA.sub (.nil)
      refine Ends.seq ?_
      refine Ends.region ?_
      refine S.val hA (R.assign rfl) rfl ?_; clear hA a; intro a hA
      refine S.done ?_
      replace hA : St 161 [(6, _)] a := hA.sub ((.cons rfl .nil))
      refine Ends.ret1 Try.func5 Try.results5 hA rfl ?_
      exact ⟨rfl, hM.nilL.below⟩
  ·
    refine Ends.region ?_
    refine S.val hA (R.move rfl) rfl ?_; clear hA a; intro a hA
    refine S.val hA (R.move rfl) rfl ?_; clear hA a; intro a hA
    refine S.val hA (R.lenS Try.underlying43 rfl rfl) rfl ?_; clear hA a; intro a hA
    refine S.val hA (R.lss rfl rfl) rfl ?_; clear hA a; intro a hA
    refine S.val hA (R.move rfl) rfl ?_; clear hA a; intro a hA
    refine hA.split (d := 47) rfl ?_ ?_
    · clear hA; intro hg28 hA
      refine S.valg (dj := 47) hA (by kernel_rfl) rfl (R.move rfl) rfl ?_; clear hA a; intro a hA
      refine S.valg (dj := 47) hA (by kernel_rfl) rfl (R.lss rfl rfl) rfl ?_; clear hA a; intro a hA
      refine S.val hA (R.pickT rfl rfl) rfl ?_; clear hA a; intro a hA
      refine S.done ?_
      replace hA : St 161 [(1, _), (2, _), (7, _), (8, _), (9, _), (11, _), (12, _), (50, _)] a := hA.sub ((.cons rfl (.cons rfl (.cons rfl (.cons rfl (.cons rfl (.cons rfl (.cons rfl (.cons rfl .nil)))))))))
      exact hJ _ _ ⟨hA.sub (.cons rfl (.cons rfl (.cons rfl (.cons rfl (.cons rfl (.cons rfl (.cons rfl (.cons (by first | rfl | exact congrArg (fun b => some (Value.bool b)) (by simp [hg28])) .nil)))))))), hM⟩
    · clear hA; intro hg28 hA
      refine S.no (dj := 47) hA (by kernel_rfl) rfl rfl rfl ?_; clear hA a; intro a hA
      refine S.no (dj := 47) hA (by kernel_rfl) rfl rfl rfl ?_; clear hA a; intro a hA
      refine S.val hA (R.pickF rfl rfl) rfl ?_; clear hA a; intro a hA
      refine S.done ?_
      replace hA : St 161 [(1, _), (2, _), (7, _), (8, _), (9, _), (11, _), (12, _), (50, _)] a := hA.sub ((.cons rfl (.cons rfl (.cons rfl (.cons rfl (.cons rfl (.cons rfl (.cons rfl (.cons rfl .nil)))))))))
      exact hJ _ _ ⟨hA.sub (.cons rfl (.cons rfl (.cons rfl (.cons rfl (.cons rfl (.cons rfl (.cons rfl (.cons (by first | rfl | exact congrArg (fun b => some (Value.bool b)) (by simp [hg28])) .nil)))))))), hM⟩
theorem countMixed_any (p q : Int) (v : Value) (l : List Int) (w : World) (_hp : (Lit.int .i64 p).wf = true) (_hq : (Lit.int .i64 q).wf = true) (hsl : IntSl w v l) (_hl : ∀ x ∈ l, (Lit.int .i64 x).wf = true) :
    Calls Try.prog 5 #[.int .i64 p, .int .i64 q, v] w fun e w' => e = .returned (.bool true) ∧ Below w.heap.size w w' := by
  obtain ⟨ad, cap, rfl⟩ := hsl.form
  exact countMixed_w p q ad l.length cap l rfl w hsl
end Go.Proofs.Ytjjbognomeplbaa
