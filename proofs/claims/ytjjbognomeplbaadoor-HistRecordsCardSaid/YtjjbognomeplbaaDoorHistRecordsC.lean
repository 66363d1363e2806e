/-
  HistRecords, part 3 of 3: what the code computes, and plain laws; no condition beside those that each theorem tells.
-/
import Derived.Test.YtjjbognomeplbaaDoorHistRecordsB
import Derived.OpenShut
import Derived.ProofKit
namespace Go.Proofs.YtjjbognomeplbaaDoor
open Go.RowKit
theorem eq_op (o p : HOp) (h : o = p) (w : World) : (Op.equalIn 10000 26 (.agg #[.int .i64 o.k, .int .i64 o.i, .int .i64 o.f, .int .i64 o.t]) (.agg #[.int .i64 p.k, .int .i64 p.i, .int .i64 p.f, .int .i64 p.t])).run Tryd.prog w = .ok true w := by
  subst h
  have u1 := Tryd.underlying26
  have u3 := Tryd.underlying3
  have q3 := Tryd.isAgg3
  have z3 := Tryd.sizeOf3
  rw [show (10000 : Nat) = 9999 + 1 from rfl]
  unfold Op.equalIn
  go_simp
set_option maxRecDepth 100000 in
set_option maxHeartbeats 400000 in
theorem none21  (w : World) :
    Calls Tryd.prog 9 #[] w fun e w' => e = .returned (.pointer none) ∧ w = w' := by
  have hbs := Below.refl (B := w.heap.size) w
  have hM := Mem.start w
  refine Calls.of_ends (vs := []) Tryd.func9 rfl Tryd.ntmps9 rfl ?_
  intro a hA
  replace hA : St 1 [] a := hA
  refine Ends.seq (Ends.region ?_)
  refine S.val hA (R.assign rfl) rfl ?_; clear hA a; intro a hA
  refine S.done ?_
  refine Ends.seq (Ends.region ?_)
  refine S.val hA (R.assign rfl) rfl ?_; clear hA a; intro a hA
  refine S.done ?_
  refine Ends.ret1 Tryd.func9 Tryd.results9 hA rfl ?_
  exact ⟨rfl, rfl⟩
theorem end_bad21 (br : Nat) (now : Int) (hn : 0 ≤ now ∧ now ≤ 100000) (la : Option Addr) (lc : Nat) (es : List HEnt) (hl : es.length ≤ 1000) (n item : Int) (hb : endBad es n = true) (w : World) (hM0 : Mem w (feet [pt br #[.int .i64 now, .slice la es.length lc] 39, own 64 5 (.slice la es.length lc) es.length (entV es)]) [pt br #[.int .i64 now, .slice la es.length lc] 39, own 64 5 (.slice la es.length lc) es.length (entV es)] w) :
    Calls Tryd.prog 11 #[.pointer (some ⟨br, 0, none⟩), .int .i64 n, .int .i64 item] w fun e w' => e = .returned (.int .i64 11) ∧ Mem w (feet [pt br #[.int .i64 now, .slice la es.length lc] 39, own 64 5 (.slice la es.length lc) es.length (entV es)]) [pt br #[.int .i64 (now + 1), .slice la es.length lc] 39, own 64 5 (.slice la es.length lc) es.length (entV es)] w' := by
  have h := end21 br now hn la lc es hl n item w hM0
  obtain ⟨g1, g2⟩ := end_bad hb item now
  rwa [g1, g2] at h
theorem end_ok21 (br : Nat) (now : Int) (hn : 0 ≤ now ∧ now ≤ 100000) (la : Option Addr) (lc : Nat) (es : List HEnt) (hl : es.length ≤ 1000) (m : Nat) (item : Int) (hm : m < es.length) (he : (ent es m).e = false) (w : World) (hM0 : Mem w (feet [pt br #[.int .i64 now, .slice la es.length lc] 39, own 64 5 (.slice la es.length lc) es.length (entV es)]) [pt br #[.int .i64 now, .slice la es.length lc] 39, own 64 5 (.slice la es.length lc) es.length (entV es)] w) :
    Calls Tryd.prog 11 #[.pointer (some ⟨br, 0, none⟩), .int .i64 (m : Int), .int .i64 item] w fun e w' => e = .returned (.int .i64 0) ∧ Mem w (feet [pt br #[.int .i64 now, .slice la es.length lc] 39, own 64 5 (.slice la es.length lc) es.length (entV es)]) [pt br #[.int .i64 (now + 1), .slice la es.length lc] 39, own 64 5 (.slice la es.length lc) es.length (entV (es.set m ⟨(ent es m).k, item, (ent es m).f, now, true⟩))] w' := by
  have h := end21 br now hn la lc es hl (m : Int) item w hM0
  obtain ⟨g1, g2⟩ := end_ok hm he item now
  rwa [g1, g2] at h
set_option maxRecDepth 100000 in
set_option maxHeartbeats 4000000 in
theorem histRecords_w (ay : Option Addr) (Rw : List Int) (cy : Nat) (w : World) (hy : IntSl w (.slice ay Rw.length cy) Rw) (htab : Lib.TabIs Tryd.prog w "math/bits.deBruijn64tab" .u8 debT) :
  Calls Tryd.prog 4 #[.slice ay Rw.length cy] w fun e w' => e = .returned (.bool true) ∧ Below w.heap.size w w' := by
 have hbs := Below.refl (B := w.heap.size) w
 have hly := hy.lenB
 have hM := Mem.start w
 refine Calls.of_ends (vs := [.slice ay Rw.length cy]) Tryd.func4 rfl Tryd.ntmps4 rfl ?_
 intro a hA
 replace hA : St 148 [(0, _)] a := hA
 refine Ends.seq (Ends.region ?_)
 refine S.val hA (R.assign rfl) rfl ?_; clear hA a; intro a hA
 refine S.done ?_
 refine Ends.seq (Ends.seq (Ends.region ?_))
 refine S.call hA (R.callF Tryd.func6 rfl rfl rfl) rfl (hists21 _ (tab_below htab (Mem.trans0 hbs hM.nilL))) ?_; clear hA a
 rintro e w1 ⟨rfl, hb⟩
 replace hM := hM.callB hb; clear hb
 refine ⟨.bool true, rfl, fun a hA => ?_⟩
 refine S.val hA (R.not rfl) rfl ?_; clear hA a; intro a hA
 refine S.val hA (R.move rfl) rfl ?_; clear hA a; intro a hA
 refine S.callg (dj := 15) hA (by kernel_rfl) rfl (R.callF Tryd.func9 rfl rfl rfl) rfl (none21 _) ?_; clear hA a
 rintro e w2 ⟨rfl, rfl⟩
 refine ⟨.pointer none, rfl, fun a hA => ?_⟩
 refine S.callg (dj := 15) hA (by kernel_rfl) rfl (R.callF Tryd.func10 rfl rfl rfl) rfl (begin_nil 1 1 _) ?_; clear hA a
 rintro e w3 ⟨rfl, rfl⟩
 refine ⟨.int .i64 (-1), rfl, fun a hA => ?_⟩
 refine S.valg (dj := 15) hA (by kernel_rfl) rfl (R.ff (R.neq rfl rfl) (by first | decide | simp | omega)) rfl ?_; clear hA a; intro a hA
 refine S.val hA (R.pickF rfl rfl) rfl ?_; clear hA a; intro a hA
 refine S.val hA (R.move rfl) rfl ?_; clear hA a; intro a hA
 refine S.callg (dj := 20) hA (by kernel_rfl) rfl (R.callF Tryd.func9 rfl rfl rfl) rfl (none21 _) ?_; clear hA a
 rintro e w4 ⟨rfl, rfl⟩
 refine ⟨.pointer none, rfl, fun a hA => ?_⟩
 refine S.callg (dj := 20) hA (by kernel_rfl) rfl (R.callF Tryd.func11 rfl rfl rfl) rfl (end_nil 0 0 _) ?_; clear hA a
 rintro e w5 ⟨rfl, rfl⟩
 refine ⟨.int .i64 1, rfl, fun a hA => ?_⟩
 refine S.valg (dj := 20) hA (by kernel_rfl) rfl (R.ff (R.neq rfl rfl) (by first | decide | simp | omega)) rfl ?_; clear hA a; intro a hA
 refine S.val hA (R.pickF rfl rfl) rfl ?_; clear hA a; intro a hA
 refine S.val hA (R.move rfl) rfl ?_; clear hA a; intro a hA
 refine S.callg (dj := 25) hA (by kernel_rfl) rfl (R.callF Tryd.func9 rfl rfl rfl) rfl (none21 _) ?_; clear hA a
 rintro e w6 ⟨rfl, rfl⟩
 refine ⟨.pointer none, rfl, fun a hA => ?_⟩
 refine S.callg (dj := 25) hA (by kernel_rfl) rfl (R.callF Tryd.func12 rfl rfl rfl) rfl (ops_nil _) ?_; clear hA a
 rintro e w7 ⟨rfl, rfl⟩
 refine ⟨.slice none 0 0, rfl, fun a hA => ?_⟩
 refine S.valg (dj := 25) hA (by kernel_rfl) rfl (R.lenS Tryd.underlying23 rfl rfl) rfl ?_; clear hA a; intro a hA
 refine S.valg (dj := 25) hA (by kernel_rfl) rfl (R.ff (R.neq rfl rfl) (by first | decide | simp | omega)) rfl ?_; clear hA a; intro a hA
 refine S.val hA (R.pickF rfl rfl) rfl ?_; clear hA a; intro a hA
 refine S.done ?_
 replace hA : St 148 [(0, _), (30, _)] a := hA.sub ((.cons rfl (.cons rfl .nil)))
 refine Ends.condF hA rfl ?_
 refine Ends.skip (Ends.seq (Ends.region ?_))
 refine S.val hA (R.build (cells := #[.int .i64 0, .slice none 0 0]) rfl (by kernel_rfl)) rfl ?_; clear hA a; intro a hA
 refine S.box hA hM rfl rfl ?_; clear hA hM a; intro b1 w8 hb2 hM a hA
 replace hM : Mem _ _ [pt b1 #[.int .i64 0, .slice none 0 0] 39] _ := hM
 refine S.val hA (R.assign rfl) rfl ?_; clear hA a; intro a hA
 refine S.done ?_
 refine Ends.seq (Ends.region ?_)
 refine S.val hA (R.assign rfl) rfl ?_; clear hA a; intro a hA
 refine S.done ?_
 refine Ends.seq (Ends.region ?_)
 refine S.val hA (R.assign rfl) rfl ?_; clear hA a; intro a hA
 refine S.done ?_
 refine Ends.seq (Ends.seq (Ends.region ?_))
 refine S.val hA (R.assign rfl) rfl ?_; clear hA a; intro a hA
 refine S.done ?_
 refine Ends.block ?_
 replace hM := ((hM.ownNil 64 5).ownNil 26 4).ownNil 4 1
 replace hM : Mem _ _ [own 4 1 (.slice none ((((([] : List HEnt)).map eB)).length) 0) ((((([] : List HEnt)).map eB)).length) (boolV (((([] : List HEnt)).map eB))), own 26 4 (.slice none ((((([] : List HEnt)).map enOp)).length) 0) ((((([] : List HEnt)).map enOp)).length) (hopV (((([] : List HEnt)).map enOp))), own 64 5 (.slice none ((([] : List HEnt)).length) 0) ((([] : List HEnt)).length) (entV (([] : List HEnt))), pt b1 #[.int .i64 ((0 : Int)), .slice none ((([] : List HEnt)).length) 0] 39] _ := hM
 replace hM := hM.front (k := 1) rfl
 replace hM := hM.front (k := 2) rfl
 replace hM := hM.front (k := 3) rfl
 replace hM := hM.firstN 4
 replace hA : St 148 [(0, .slice ay Rw.length cy), (3, .pointer (some ⟨b1, 0, none⟩)), (4, .slice none ((((([] : List HEnt)).map enOp)).length) 0), (5, .slice none ((((([] : List HEnt)).map eB)).length) 0), (6, .int .i64 0), (30, .bool false), (31, .agg #[.int .i64 0, .slice none 0 0]), (32, .pointer (some ⟨b1, 0, none⟩))] a := hA.sub ((.cons rfl (.cons rfl (.cons rfl (.cons rfl (.cons rfl (.cons rfl (.cons rfl (.cons rfl .nil)))))))))
 refine Ends.loop (σ := Nat × Option Addr × Nat × List HEnt × Option Addr × Nat × Option Addr × Nat) (fun (k, la, lc, es, aa, ac, ea, ec) (a : Act) (wv : World) => St 148 [(0, .slice ay Rw.length cy), (3, .pointer (some ⟨b1, 0, none⟩)), (4, .slice aa ((es.map enOp).length) ac), (5, .slice ea ((es.map eB).length) ec), (6, .int .i64 ((k : Int)))] a ∧ Mem w nof [pt b1 #[.int .i64 ((k : Int)), .slice la es.length lc] 39, own 64 5 (.slice la es.length lc) es.length (entV es), own 26 4 (.slice aa (((es.map enOp)).length) ac) (((es.map enOp)).length) (hopV ((es.map enOp))), own 4 1 (.slice ea (((es.map eB)).length) ec) (((es.map eB)).length) (boolV ((es.map eB)))] wv ∧ (k ≤ 40) ∧ (k ≤ Rw.length) ∧ (es.length ≤ k)) (fun (k, la, lc, es, aa, ac, ea, ec) => 40 - k) ((0, none, 0, [], none, 0, none, 0)) ⟨hA.sub ((.cons rfl (.cons rfl (.cons rfl (.cons rfl (.cons rfl .nil)))))), hM, (Nat.zero_le _), (Nat.zero_le _), (Nat.le_refl _)⟩ ?_
 clear hA hM a
 rintro ⟨k, la, lc, es, aa, ac, ea, ec⟩ a w9 ⟨hA, hM, hk40, hkr, hek⟩ hNext
 refine Ends.seq (Ends.seq ?_)
 refine Ends.cut (fun (a : Act) (wv : World) => St 148 [(0, .slice ay Rw.length cy), (3, .pointer (some ⟨b1, 0, none⟩)), (4, .slice aa ((es.map enOp).length) ac), (5, .slice ea ((es.map eB).length) ec), (6, .int .i64 ((k : Int))), (40, .bool (decide ((((k : Int)) < ((Rw.length : Int)) ∧ ((k : Int)) < 40))))] a ∧ Mem w nof [pt b1 #[.int .i64 ((k : Int)), .slice la es.length lc] 39, own 64 5 (.slice la es.length lc) es.length (entV es), own 26 4 (.slice aa (((es.map enOp)).length) ac) (((es.map enOp)).length) (hopV ((es.map enOp))), own 4 1 (.slice ea (((es.map eB)).length) ec) (((es.map eB)).length) (boolV ((es.map eB)))] wv) ?_ (fun k2 hJ => ?_)
 ·
  clear hA hM a; rintro a w10 ⟨hA, hM⟩
  refine Ends.ite hA rfl (fun hc3 => ?_) (fun hc3 => ?_)
  ·
   have hla : (es.map enOp).length = es.length := by simp
   have hle : (es.map eB).length = es.length := by simp
   refine Ends.skip (Ends.seq (Ends.block (Ends.seq (Ends.region ?_))))
   refine S.val hA (R.move rfl) rfl ?_; clear hA a; intro a hA
   refine S.val hA (R.move rfl) rfl ?_; clear hA a; intro a hA
   refine S.val hA (R.idxI hy (j := k) sl22 rfl rfl (by omega) (rfl)) rfl ?_; clear hA a; intro a hA
   refine S.val hA (R.loadI (hy.mem hM) sz3 rfl (by omega)) rfl ?_; clear hA a; intro a hA
   refine S.val hA (R.assign rfl) rfl ?_; clear hA a; intro a hA
   refine S.done ?_
   replace hA : St 148 [(0, _), (3, _), (4, _), (5, _), (6, _), (7, _)] a := hA.sub ((.cons rfl (.cons rfl (.cons rfl (.cons rfl (.cons rfl (.cons rfl .nil)))))))
   refine Ends.seq (Ends.seq (Ends.region ?_))
   refine S.val hA (R.move rfl) rfl ?_; clear hA a; intro a hA
   refine S.val hA (R.rem rfl rfl (by omega)) rfl ?_; clear hA a; intro a hA
   refine S.val hA (R.eql rfl rfl) rfl ?_; clear hA a; intro a hA
   refine S.done ?_
   refine Ends.ite hA rfl (fun hc4 => ?_) (fun hc4 => ?_)
   ·
    refine Ends.seq (Ends.seq (Ends.region ?_))
    refine S.val hA (R.move rfl) rfl ?_; clear hA a; intro a hA
    refine S.val hA (R.move rfl) rfl ?_; clear hA a; intro a hA
    refine S.val hA (R.conv Tryd.underlying24 Tryd.underlying3 rfl) rfl ?_; clear hA a; intro a hA
    refine S.val hA (R.remI rfl rfl rfl ⟨u64_nn _, by decide⟩) rfl ?_; clear hA a; intro a hA
    obtain ⟨n5, hn6, en7⟩ := umod_ex (Rw.getD k 0) 2 (by decide)
    refine S.val hA (R.to (v := .int .i64 (n5 : Int)) (R.conv Tryd.underlying3 Tryd.underlying24 rfl) (congrArg (Value.int .i64) en7)) rfl ?_; clear hA a; intro a hA
    refine S.val hA (R.addI rfl rfl (r := 1 + ((n5 : Int))) rfl (by omega)) rfl ?_; clear hA a; intro a hA
    refine S.val hA (R.move rfl) rfl ?_; clear hA a; intro a hA
    refine S.call hA (R.callF Tryd.func10 rfl rfl rfl) rfl (begin21 b1 ((k : Int)) (by omega) la lc es (by omega) (1 + ((n5 : Int))) (Rw.getD k 0) _ (hM.hereN 2)) ?_; clear hA a
    rintro e w11 ⟨la8, lc9, rfl, hn⟩
    replace hM : Mem _ _ [pt b1 #[.int .i64 (((k : Int)) + 1), .slice la8 (((es ++ [(⟨1 + ((n5 : Int)), Rw.getD k 0, (k : Int), 0, false⟩ : HEnt)])).length) lc9] 39, own 64 5 (.slice la8 (((es ++ [(⟨1 + ((n5 : Int)), Rw.getD k 0, (k : Int), 0, false⟩ : HEnt)])).length) lc9) (((es ++ [(⟨1 + ((n5 : Int)), Rw.getD k 0, (k : Int), 0, false⟩ : HEnt)])).length) (entV ((es ++ [(⟨1 + ((n5 : Int)), Rw.getD k 0, (k : Int), 0, false⟩ : HEnt)]))), own 26 4 (.slice aa (((es.map enOp)).length) ac) (((es.map enOp)).length) (hopV ((es.map enOp))), own 4 1 (.slice ea (((es.map eB)).length) ec) (((es.map eB)).length) (boolV ((es.map eB)))] _ := hM.callL 2 hn; clear hn
    refine ⟨.int .i64 ((es.length : Int)), rfl, fun a hA => ?_⟩
    refine S.val hA (R.move rfl) rfl ?_; clear hA a; intro a hA
    refine S.val hA (R.lenS Tryd.underlying23 rfl rfl) rfl ?_; clear hA a; intro a hA
    refine S.val hA (R.ff (R.neq rfl rfl) (by omega)) rfl ?_; clear hA a; intro a hA
    refine S.done ?_
    replace hA : St 148 [(0, _), (3, _), (4, _), (5, _), (6, _), (7, _), (60, _)] a := hA.sub ((.cons rfl (.cons rfl (.cons rfl (.cons rfl (.cons rfl (.cons rfl (.cons rfl .nil))))))))
    refine Ends.condF hA rfl ?_
    refine Ends.skip (Ends.seq (Ends.region ?_))
    refine S.val hA (R.move rfl) rfl ?_; clear hA a; intro a hA
    refine S.val hA (R.move rfl) rfl ?_; clear hA a; intro a hA
    refine S.val hA (R.conv Tryd.underlying24 Tryd.underlying3 rfl) rfl ?_; clear hA a; intro a hA
    refine S.val hA (R.remI rfl rfl rfl ⟨u64_nn _, by decide⟩) rfl ?_; clear hA a; intro a hA
    refine S.val hA (R.to (v := .int .i64 (n5 : Int)) (R.conv Tryd.underlying3 Tryd.underlying24 rfl) (congrArg (Value.int .i64) en7)) rfl ?_; clear hA a; intro a hA
    refine S.val hA (R.addI rfl rfl (r := 1 + ((n5 : Int))) rfl (by omega)) rfl ?_; clear hA a; intro a hA
    refine S.val hA (R.move rfl) rfl ?_; clear hA a; intro a hA
    refine S.val hA (R.move rfl) rfl ?_; clear hA a; intro a hA
    refine S.val hA (R.build (cells := #[.int .i64 (1 + ((n5 : Int))), .int .i64 (Rw.getD k 0), .int .i64 ((k : Int)), .int .i64 0]) rfl (by kernel_rfl)) rfl ?_; clear hA a; intro a hA
    refine S.buildSl (cells := #[.int .i64 (1 + ((n5 : Int))), .int .i64 (Rw.getD k 0), .int .i64 ((k : Int)), .int .i64 0]) hA hM Tryd.underlying23 info26 rfl rfl rfl rfl (by kernel_rfl) rfl ?_; clear hA hM a; intro b10 w12 hb11 hM a hA
    replace hM : Mem _ _ [pt b10 #[.int .i64 (1 + ((n5 : Int))), .int .i64 (Rw.getD k 0), .int .i64 ((k : Int)), .int .i64 0] 26, pt b1 #[.int .i64 (((k : Int)) + 1), .slice la8 (((es ++ [(⟨1 + ((n5 : Int)), Rw.getD k 0, (k : Int), 0, false⟩ : HEnt)])).length) lc9] 39, own 64 5 (.slice la8 (((es ++ [(⟨1 + ((n5 : Int)), Rw.getD k 0, (k : Int), 0, false⟩ : HEnt)])).length) lc9) (((es ++ [(⟨1 + ((n5 : Int)), Rw.getD k 0, (k : Int), 0, false⟩ : HEnt)])).length) (entV ((es ++ [(⟨1 + ((n5 : Int)), Rw.getD k 0, (k : Int), 0, false⟩ : HEnt)]))), own 26 4 (.slice aa (((es.map enOp)).length) ac) (((es.map enOp)).length) (hopV ((es.map enOp))), own 4 1 (.slice ea (((es.map eB)).length) ec) (((es.map eB)).length) (boolV ((es.map eB)))] _ := hM
    refine S.append (k := 3) (k2 := 0) hA hM rfl rfl Tryd.underlying23 info26 rfl rfl rfl rfl rfl rfl rfl rfl rfl (by first | (show (_ + 1) * 32 ≤ (140737488355328 : Nat); omega) | (show (_ + 1) * 1 ≤ (140737488355328 : Nat); omega) | (unfold maxLen; omega)) (by first | (show (_ + 1) * 32 ≤ (140737488355328 : Nat); omega) | (show (_ + 1) * 1 ≤ (140737488355328 : Nat); omega) | (unfold maxLen; omega)) rfl ?_; clear hA hM a; intro a12 c13 w13 hM a hA
    replace hM : Mem _ _ [pt b10 #[.int .i64 (1 + ((n5 : Int))), .int .i64 (Rw.getD k 0), .int .i64 ((k : Int)), .int .i64 0] 26, pt b1 #[.int .i64 (((k : Int)) + 1), .slice la8 (((es ++ [(⟨1 + ((n5 : Int)), Rw.getD k 0, (k : Int), 0, false⟩ : HEnt)])).length) lc9] 39, own 64 5 (.slice la8 (((es ++ [(⟨1 + ((n5 : Int)), Rw.getD k 0, (k : Int), 0, false⟩ : HEnt)])).length) lc9) (((es ++ [(⟨1 + ((n5 : Int)), Rw.getD k 0, (k : Int), 0, false⟩ : HEnt)])).length) (entV ((es ++ [(⟨1 + ((n5 : Int)), Rw.getD k 0, (k : Int), 0, false⟩ : HEnt)]))), own 26 4 (.slice a12 ((((es.map enOp)).length) + 1) c13) ((((es.map enOp)).length) + 1) (hopV ((es.map enOp)) ++ [.int .i64 (1 + ((n5 : Int))), .int .i64 (Rw.getD k 0), .int .i64 ((k : Int)), .int .i64 0]), own 4 1 (.slice ea (((es.map eB)).length) ec) (((es.map eB)).length) (boolV ((es.map eB)))] _ := hM
    have hl14 : (((es.map enOp)).length) + 1 = ((es.map enOp) ++ [(⟨1 + ((n5 : Int)), Rw.getD k 0, (k : Int), 0⟩ : HOp)]).length := by simp
    rw [hl14, show hopV ((es.map enOp)) ++ [.int .i64 (1 + ((n5 : Int))), .int .i64 (Rw.getD k 0), .int .i64 ((k : Int)), .int .i64 0] = hopV ((es.map enOp) ++ [(⟨1 + ((n5 : Int)), Rw.getD k 0, (k : Int), 0⟩ : HOp)]) from hopV_app ((es.map enOp)) (⟨1 + ((n5 : Int)), Rw.getD k 0, (k : Int), 0⟩ : HOp)] at hM; rw [hl14] at hA
    clear hl14
    replace hM := hM.drop 0
    replace hM : Mem _ _ [pt b1 #[.int .i64 (((k : Int)) + 1), .slice la8 (((es ++ [(⟨1 + ((n5 : Int)), Rw.getD k 0, (k : Int), 0, false⟩ : HEnt)])).length) lc9] 39, own 64 5 (.slice la8 (((es ++ [(⟨1 + ((n5 : Int)), Rw.getD k 0, (k : Int), 0, false⟩ : HEnt)])).length) lc9) (((es ++ [(⟨1 + ((n5 : Int)), Rw.getD k 0, (k : Int), 0, false⟩ : HEnt)])).length) (entV ((es ++ [(⟨1 + ((n5 : Int)), Rw.getD k 0, (k : Int), 0, false⟩ : HEnt)]))), own 26 4 (.slice a12 ((((es.map enOp) ++ [(⟨1 + ((n5 : Int)), Rw.getD k 0, (k : Int), 0⟩ : HOp)])).length) c13) ((((es.map enOp) ++ [(⟨1 + ((n5 : Int)), Rw.getD k 0, (k : Int), 0⟩ : HOp)])).length) (hopV (((es.map enOp) ++ [(⟨1 + ((n5 : Int)), Rw.getD k 0, (k : Int), 0⟩ : HOp)]))), own 4 1 (.slice ea (((es.map eB)).length) ec) (((es.map eB)).length) (boolV ((es.map eB)))] _ := hM
    refine S.val hA (R.assign rfl) rfl ?_; clear hA a; intro a hA
    refine S.done ?_
    replace hA : St 148 [(0, _), (3, _), (4, _), (5, _), (6, _), (7, _)] a := hA.sub ((.cons rfl (.cons rfl (.cons rfl (.cons rfl (.cons rfl (.cons rfl .nil)))))))
    refine Ends.seq (Ends.region ?_)
    refine S.val hA (R.move rfl) rfl ?_; clear hA a; intro a hA
    refine S.buildSl (cells := #[.bool false]) hA hM Tryd.underlying40 info4 rfl rfl rfl rfl (by kernel_rfl) rfl ?_; clear hA hM a; intro b15 w14 hb16 hM a hA
    replace hM : Mem _ _ [pt b15 #[.bool false] 4, pt b1 #[.int .i64 (((k : Int)) + 1), .slice la8 (((es ++ [(⟨1 + ((n5 : Int)), Rw.getD k 0, (k : Int), 0, false⟩ : HEnt)])).length) lc9] 39, own 64 5 (.slice la8 (((es ++ [(⟨1 + ((n5 : Int)), Rw.getD k 0, (k : Int), 0, false⟩ : HEnt)])).length) lc9) (((es ++ [(⟨1 + ((n5 : Int)), Rw.getD k 0, (k : Int), 0, false⟩ : HEnt)])).length) (entV ((es ++ [(⟨1 + ((n5 : Int)), Rw.getD k 0, (k : Int), 0, false⟩ : HEnt)]))), own 26 4 (.slice a12 ((((es.map enOp) ++ [(⟨1 + ((n5 : Int)), Rw.getD k 0, (k : Int), 0⟩ : HOp)])).length) c13) ((((es.map enOp) ++ [(⟨1 + ((n5 : Int)), Rw.getD k 0, (k : Int), 0⟩ : HOp)])).length) (hopV (((es.map enOp) ++ [(⟨1 + ((n5 : Int)), Rw.getD k 0, (k : Int), 0⟩ : HOp)]))), own 4 1 (.slice ea (((es.map eB)).length) ec) (((es.map eB)).length) (boolV ((es.map eB)))] _ := hM
    refine S.append (k := 4) (k2 := 0) hA hM rfl rfl Tryd.underlying40 info4 rfl rfl rfl rfl rfl rfl rfl rfl rfl (by first | (show (_ + 1) * 32 ≤ (140737488355328 : Nat); omega) | (show (_ + 1) * 1 ≤ (140737488355328 : Nat); omega) | (unfold maxLen; omega)) (by first | (show (_ + 1) * 32 ≤ (140737488355328 : Nat); omega) | (show (_ + 1) * 1 ≤ (140737488355328 : Nat); omega) | (unfold maxLen; omega)) rfl ?_; clear hA hM a; intro a17 c18 w15 hM a hA
    replace hM : Mem _ _ [pt b15 #[.bool false] 4, pt b1 #[.int .i64 (((k : Int)) + 1), .slice la8 (((es ++ [(⟨1 + ((n5 : Int)), Rw.getD k 0, (k : Int), 0, false⟩ : HEnt)])).length) lc9] 39, own 64 5 (.slice la8 (((es ++ [(⟨1 + ((n5 : Int)), Rw.getD k 0, (k : Int), 0, false⟩ : HEnt)])).length) lc9) (((es ++ [(⟨1 + ((n5 : Int)), Rw.getD k 0, (k : Int), 0, false⟩ : HEnt)])).length) (entV ((es ++ [(⟨1 + ((n5 : Int)), Rw.getD k 0, (k : Int), 0, false⟩ : HEnt)]))), own 26 4 (.slice a12 ((((es.map enOp) ++ [(⟨1 + ((n5 : Int)), Rw.getD k 0, (k : Int), 0⟩ : HOp)])).length) c13) ((((es.map enOp) ++ [(⟨1 + ((n5 : Int)), Rw.getD k 0, (k : Int), 0⟩ : HOp)])).length) (hopV (((es.map enOp) ++ [(⟨1 + ((n5 : Int)), Rw.getD k 0, (k : Int), 0⟩ : HOp)]))), own 4 1 (.slice a17 ((((es.map eB)).length) + 1) c18) ((((es.map eB)).length) + 1) (boolV ((es.map eB)) ++ [.bool false])] _ := hM
    have hl19 : (((es.map eB)).length) + 1 = ((es.map eB) ++ [(⟨false⟩ : BB)]).length := by simp
    rw [hl19, show boolV ((es.map eB)) ++ [.bool false] = boolV ((es.map eB) ++ [(⟨false⟩ : BB)]) from boolV_app ((es.map eB)) (⟨false⟩ : BB)] at hM; rw [hl19] at hA
    clear hl19
    replace hM := hM.drop 0
    replace hM : Mem _ _ [pt b1 #[.int .i64 (((k : Int)) + 1), .slice la8 (((es ++ [(⟨1 + ((n5 : Int)), Rw.getD k 0, (k : Int), 0, false⟩ : HEnt)])).length) lc9] 39, own 64 5 (.slice la8 (((es ++ [(⟨1 + ((n5 : Int)), Rw.getD k 0, (k : Int), 0, false⟩ : HEnt)])).length) lc9) (((es ++ [(⟨1 + ((n5 : Int)), Rw.getD k 0, (k : Int), 0, false⟩ : HEnt)])).length) (entV ((es ++ [(⟨1 + ((n5 : Int)), Rw.getD k 0, (k : Int), 0, false⟩ : HEnt)]))), own 26 4 (.slice a12 ((((es.map enOp) ++ [(⟨1 + ((n5 : Int)), Rw.getD k 0, (k : Int), 0⟩ : HOp)])).length) c13) ((((es.map enOp) ++ [(⟨1 + ((n5 : Int)), Rw.getD k 0, (k : Int), 0⟩ : HOp)])).length) (hopV (((es.map enOp) ++ [(⟨1 + ((n5 : Int)), Rw.getD k 0, (k : Int), 0⟩ : HOp)]))), own 4 1 (.slice a17 ((((es.map eB) ++ [(⟨false⟩ : BB)])).length) c18) ((((es.map eB) ++ [(⟨false⟩ : BB)])).length) (boolV (((es.map eB) ++ [(⟨false⟩ : BB)])))] _ := hM
    refine S.val hA (R.assign rfl) rfl ?_; clear hA a; intro a hA
    refine S.done ?_
    refine Ends.exit rfl ?_
    replace hA : St 148 [(0, _), (3, _), (4, _), (5, _), (6, _)] a := hA.sub ((.cons rfl (.cons rfl (.cons rfl (.cons rfl (.cons rfl .nil))))))
    refine Ends.region ?_
    refine S.val hA (R.move rfl) rfl ?_; clear hA a; intro a hA
    refine S.val hA (R.addI rfl rfl (r := ((k : Int)) + 1) rfl (by omega)) rfl ?_; clear hA a; intro a hA
    refine S.val hA (R.assign rfl) rfl ?_; clear hA a; intro a hA
    refine S.done ?_
    replace hM := hM.front (k := 3) rfl
    replace hM := hM.front (k := 3) rfl
    replace hM := hM.front (k := 3) rfl
    replace hM := hM.front (k := 3) rfl
    replace hM := hM.firstN 4
    have hx1 : ((es.map enOp) ++ [(⟨1 + ((n5 : Int)), Rw.getD k 0, (k : Int), 0⟩ : HOp)]) = ((es ++ [(⟨1 + ((n5 : Int)), Rw.getD k 0, (k : Int), 0, false⟩ : HEnt)])).map enOp := map_new enOp es _ rfl
    have hx2 : ((es.map eB) ++ [(⟨false⟩ : BB)]) = ((es ++ [(⟨1 + ((n5 : Int)), Rw.getD k 0, (k : Int), 0, false⟩ : HEnt)])).map eB := map_new eB es _ rfl
    rw [hx1, hx2] at hM
    replace hM : Mem _ _ [pt b1 #[.int .i64 ((k + 1 : Int)), .slice la8 (((es ++ [(⟨1 + ((n5 : Int)), Rw.getD k 0, (k : Int), 0, false⟩ : HEnt)])).length) lc9] 39, own 64 5 (.slice la8 (((es ++ [(⟨1 + ((n5 : Int)), Rw.getD k 0, (k : Int), 0, false⟩ : HEnt)])).length) lc9) (((es ++ [(⟨1 + ((n5 : Int)), Rw.getD k 0, (k : Int), 0, false⟩ : HEnt)])).length) (entV ((es ++ [(⟨1 + ((n5 : Int)), Rw.getD k 0, (k : Int), 0, false⟩ : HEnt)]))), own 26 4 (.slice a12 (((((es ++ [(⟨1 + ((n5 : Int)), Rw.getD k 0, (k : Int), 0, false⟩ : HEnt)])).map enOp)).length) c13) (((((es ++ [(⟨1 + ((n5 : Int)), Rw.getD k 0, (k : Int), 0, false⟩ : HEnt)])).map enOp)).length) (hopV ((((es ++ [(⟨1 + ((n5 : Int)), Rw.getD k 0, (k : Int), 0, false⟩ : HEnt)])).map enOp))), own 4 1 (.slice a17 (((((es ++ [(⟨1 + ((n5 : Int)), Rw.getD k 0, (k : Int), 0, false⟩ : HEnt)])).map eB)).length) c18) (((((es ++ [(⟨1 + ((n5 : Int)), Rw.getD k 0, (k : Int), 0, false⟩ : HEnt)])).map eB)).length) (boolV ((((es ++ [(⟨1 + ((n5 : Int)), Rw.getD k 0, (k : Int), 0, false⟩ : HEnt)])).map eB)))] _ := hM
    rw [hx1, hx2] at hA
    exact hNext ((k + 1, la8, lc9, (es ++ [(⟨1 + ((n5 : Int)), Rw.getD k 0, (k : Int), 0, false⟩ : HEnt)]), a12, c13, a17, c18)) _ _ ((by show 40 - (k + 1) < 40 - k; omega)) ⟨hA.sub ((.cons rfl (.cons rfl (.cons rfl (.cons rfl (.cons rfl .nil)))))), hM, (by omega), (by omega), (by first | omega | (simp only [List.length_append, List.length_set, List.length_cons, List.length_nil]; omega))⟩
   ·
    refine Ends.skip (Ends.seq (Ends.region ?_))
    refine S.val hA (R.move rfl) rfl ?_; clear hA a; intro a hA
    refine S.val hA (R.conv Tryd.underlying24 Tryd.underlying3 rfl) rfl ?_; clear hA a; intro a hA
    refine S.val hA (R.remI rfl rfl rfl ⟨u64_nn _, by decide⟩) rfl ?_; clear hA a; intro a hA
    obtain ⟨n20, hn21, en22⟩ := umod_ex (Rw.getD k 0) 20 (by decide)
    refine S.val hA (R.to (v := .int .i64 (n20 : Int)) (R.conv Tryd.underlying3 Tryd.underlying24 rfl) (congrArg (Value.int .i64) en22)) rfl ?_; clear hA a; intro a hA
    refine S.val hA (R.subI rfl rfl (r := ((n20 : Int)) - 2) rfl (by omega)) rfl ?_; clear hA a; intro a hA
    refine S.val hA (R.assign rfl) rfl ?_; clear hA a; intro a hA
    refine S.done ?_
    replace hA : St 148 [(0, _), (3, _), (4, _), (5, _), (6, _), (8, _)] a := hA.sub ((.cons rfl (.cons rfl (.cons rfl (.cons rfl (.cons rfl (.cons rfl .nil)))))))
    refine Ends.seq ?_
    by_cases hs23 : ((n20 : Int)) - 2 < 0
    ·
     refine Ends.region ?_
     refine S.val hA (R.move rfl) rfl ?_; clear hA a; intro a hA
     refine S.val hA (R.move rfl) rfl ?_; clear hA a; intro a hA
     refine S.val hA (R.move rfl) rfl ?_; clear hA a; intro a hA
     refine S.call hA (R.callF Tryd.func11 rfl rfl rfl) rfl (end_bad21 b1 ((k : Int)) (by omega) la lc es (by omega) (((n20 : Int)) - 2) ((k : Int)) (bad_neg hs23) _ (hM.hereN 2)) ?_; clear hA a
     rintro e w16 ⟨rfl, hn⟩
     replace hM : Mem _ _ [pt b1 #[.int .i64 (((k : Int)) + 1), .slice la es.length lc] 39, own 64 5 (.slice la es.length lc) es.length (entV es), own 26 4 (.slice aa (((es.map enOp)).length) ac) (((es.map enOp)).length) (hopV ((es.map enOp))), own 4 1 (.slice ea (((es.map eB)).length) ec) (((es.map eB)).length) (boolV ((es.map eB)))] _ := hM.callL 2 hn; clear hn
     refine ⟨.int .i64 11, rfl, fun a hA => ?_⟩
     refine S.val hA (R.assign rfl) rfl ?_; clear hA a; intro a hA
     refine S.done ?_
     replace hA : St 148 [(0, _), (3, _), (4, _), (5, _), (6, _), (8, _), (9, _)] a := hA.sub ((.cons rfl (.cons rfl (.cons rfl (.cons rfl (.cons rfl (.cons rfl (.cons rfl .nil))))))))
     refine Ends.seq (Ends.seq (Ends.region ?_))
     refine S.val hA (R.move rfl) rfl ?_; clear hA a; intro a hA
     refine S.val hA (R.tt (R.lss rfl rfl) (by omega)) rfl ?_; clear hA a; intro a hA
     refine S.val hA (R.move rfl) rfl ?_; clear hA a; intro a hA
     refine S.no (dj := 86) hA (by kernel_rfl) rfl rfl rfl ?_; clear hA a; intro a hA
     refine S.no (dj := 86) hA (by kernel_rfl) rfl rfl rfl ?_; clear hA a; intro a hA
     refine S.no (dj := 86) hA (by kernel_rfl) rfl rfl rfl ?_; clear hA a; intro a hA
     refine S.no (dj := 86) hA (by kernel_rfl) rfl rfl rfl ?_; clear hA a; intro a hA
     refine S.val hA (R.pickT rfl rfl) rfl ?_; clear hA a; intro a hA
     refine S.val hA (R.move rfl) rfl ?_; clear hA a; intro a hA
     refine S.no (dj := 92) hA (by kernel_rfl) rfl rfl rfl ?_; clear hA a; intro a hA
     refine S.no (dj := 92) hA (by kernel_rfl) rfl rfl rfl ?_; clear hA a; intro a hA
     refine S.no (dj := 92) hA (by kernel_rfl) rfl rfl rfl ?_; clear hA a; intro a hA
     refine S.no (dj := 92) hA (by kernel_rfl) rfl rfl rfl ?_; clear hA a; intro a hA
     refine S.val hA (R.pickT rfl rfl) rfl ?_; clear hA a; intro a hA
     refine S.done ?_
     replace hA : St 148 [(0, _), (3, _), (4, _), (5, _), (6, _), (8, _), (9, _), (97, _)] a := hA.sub ((.cons rfl (.cons rfl (.cons rfl (.cons rfl (.cons rfl (.cons rfl (.cons rfl (.cons rfl .nil)))))))))
     refine Ends.condT hA rfl ?_
     refine Ends.seq (Ends.seq (Ends.region ?_))
     refine S.val hA (R.move rfl) rfl ?_; clear hA a; intro a hA
     refine S.val hA (R.ff (R.neq rfl rfl) (by first | decide | simp | omega)) rfl ?_; clear hA a; intro a hA
     refine S.done ?_
     refine Ends.condF hA rfl ?_
     refine Ends.skip ?_
     refine Ends.exit rfl ?_
     replace hA : St 148 [(0, _), (3, _), (4, _), (5, _), (6, _)] a := hA.sub ((.cons rfl (.cons rfl (.cons rfl (.cons rfl (.cons rfl .nil))))))
     refine Ends.region ?_
     refine S.val hA (R.move rfl) rfl ?_; clear hA a; intro a hA
     refine S.val hA (R.addI rfl rfl (r := ((k : Int)) + 1) rfl (by omega)) rfl ?_; clear hA a; intro a hA
     refine S.val hA (R.assign rfl) rfl ?_; clear hA a; intro a hA
     refine S.done ?_
     replace hM := hM.front (k := 3) rfl
     replace hM := hM.front (k := 3) rfl
     replace hM := hM.front (k := 3) rfl
     replace hM := hM.front (k := 3) rfl
     replace hM := hM.firstN 4
     replace hM : Mem _ _ [pt b1 #[.int .i64 ((k + 1 : Int)), .slice la es.length lc] 39, own 64 5 (.slice la es.length lc) es.length (entV es), own 26 4 (.slice aa (((es.map enOp)).length) ac) (((es.map enOp)).length) (hopV ((es.map enOp))), own 4 1 (.slice ea (((es.map eB)).length) ec) (((es.map eB)).length) (boolV ((es.map eB)))] _ := hM
     exact hNext ((k + 1, la, lc, es, aa, ac, ea, ec)) _ _ ((by show 40 - (k + 1) < 40 - k; omega)) ⟨hA.sub ((.cons rfl (.cons rfl (.cons rfl (.cons rfl (.cons rfl .nil)))))), hM, (by omega), (by omega), (by first | omega | (simp only [List.length_append, List.length_set, List.length_cons, List.length_nil]; omega))⟩
    ·
     by_cases hs24 : (es.length : Int) ≤ ((n20 : Int)) - 2
     ·
      refine Ends.region ?_
      refine S.val hA (R.move rfl) rfl ?_; clear hA a; intro a hA
      refine S.val hA (R.move rfl) rfl ?_; clear hA a; intro a hA
      refine S.val hA (R.move rfl) rfl ?_; clear hA a; intro a hA
      refine S.call hA (R.callF Tryd.func11 rfl rfl rfl) rfl (end_bad21 b1 ((k : Int)) (by omega) la lc es (by omega) (((n20 : Int)) - 2) ((k : Int)) (bad_big hs24) _ (hM.hereN 2)) ?_; clear hA a
      rintro e w17 ⟨rfl, hn⟩
      replace hM : Mem _ _ [pt b1 #[.int .i64 (((k : Int)) + 1), .slice la es.length lc] 39, own 64 5 (.slice la es.length lc) es.length (entV es), own 26 4 (.slice aa (((es.map enOp)).length) ac) (((es.map enOp)).length) (hopV ((es.map enOp))), own 4 1 (.slice ea (((es.map eB)).length) ec) (((es.map eB)).length) (boolV ((es.map eB)))] _ := hM.callL 2 hn; clear hn
      refine ⟨.int .i64 11, rfl, fun a hA => ?_⟩
      refine S.val hA (R.assign rfl) rfl ?_; clear hA a; intro a hA
      refine S.done ?_
      replace hA : St 148 [(0, _), (3, _), (4, _), (5, _), (6, _), (8, _), (9, _)] a := hA.sub ((.cons rfl (.cons rfl (.cons rfl (.cons rfl (.cons rfl (.cons rfl (.cons rfl .nil))))))))
      refine Ends.seq (Ends.seq (Ends.region ?_))
      refine S.val hA (R.move rfl) rfl ?_; clear hA a; intro a hA
      refine S.val hA (R.ff (R.lss rfl rfl) (by omega)) rfl ?_; clear hA a; intro a hA
      refine S.val hA (R.move rfl) rfl ?_; clear hA a; intro a hA
      refine S.valg (dj := 86) hA (by kernel_rfl) rfl (R.move rfl) rfl ?_; clear hA a; intro a hA
      refine S.valg (dj := 86) hA (by kernel_rfl) rfl (R.move rfl) rfl ?_; clear hA a; intro a hA
      refine S.valg (dj := 86) hA (by kernel_rfl) rfl (R.lenS Tryd.underlying23 rfl rfl) rfl ?_; clear hA a; intro a hA
      refine S.valg (dj := 86) hA (by kernel_rfl) rfl (R.tt (R.geq rfl rfl) (by omega)) rfl ?_; clear hA a; intro a hA
      refine S.val hA (R.pickF rfl rfl) rfl ?_; clear hA a; intro a hA
      refine S.val hA (R.move rfl) rfl ?_; clear hA a; intro a hA
      refine S.no (dj := 92) hA (by kernel_rfl) rfl rfl rfl ?_; clear hA a; intro a hA
      refine S.no (dj := 92) hA (by kernel_rfl) rfl rfl rfl ?_; clear hA a; intro a hA
      refine S.no (dj := 92) hA (by kernel_rfl) rfl rfl rfl ?_; clear hA a; intro a hA
      refine S.no (dj := 92) hA (by kernel_rfl) rfl rfl rfl ?_; clear hA a; intro a hA
      refine S.val hA (R.pickT rfl rfl) rfl ?_; clear hA a; intro a hA
      refine S.done ?_
      replace hA : St 148 [(0, _), (3, _), (4, _), (5, _), (6, _), (8, _), (9, _), (97, _)] a := hA.sub ((.cons rfl (.cons rfl (.cons rfl (.cons rfl (.cons rfl (.cons rfl (.cons rfl (.cons rfl .nil)))))))))
      refine Ends.condT hA rfl ?_
      refine Ends.seq (Ends.seq (Ends.region ?_))
      refine S.val hA (R.move rfl) rfl ?_; clear hA a; intro a hA
      refine S.val hA (R.ff (R.neq rfl rfl) (by first | decide | simp | omega)) rfl ?_; clear hA a; intro a hA
      refine S.done ?_
      refine Ends.condF hA rfl ?_
      refine Ends.skip ?_
      refine Ends.exit rfl ?_
      replace hA : St 148 [(0, _), (3, _), (4, _), (5, _), (6, _)] a := hA.sub ((.cons rfl (.cons rfl (.cons rfl (.cons rfl (.cons rfl .nil))))))
      refine Ends.region ?_
      refine S.val hA (R.move rfl) rfl ?_; clear hA a; intro a hA
      refine S.val hA (R.addI rfl rfl (r := ((k : Int)) + 1) rfl (by omega)) rfl ?_; clear hA a; intro a hA
      refine S.val hA (R.assign rfl) rfl ?_; clear hA a; intro a hA
      refine S.done ?_
      replace hM := hM.front (k := 3) rfl
      replace hM := hM.front (k := 3) rfl
      replace hM := hM.front (k := 3) rfl
      replace hM := hM.front (k := 3) rfl
      replace hM := hM.firstN 4
      replace hM : Mem _ _ [pt b1 #[.int .i64 ((k + 1 : Int)), .slice la es.length lc] 39, own 64 5 (.slice la es.length lc) es.length (entV es), own 26 4 (.slice aa (((es.map enOp)).length) ac) (((es.map enOp)).length) (hopV ((es.map enOp))), own 4 1 (.slice ea (((es.map eB)).length) ec) (((es.map eB)).length) (boolV ((es.map eB)))] _ := hM
      exact hNext ((k + 1, la, lc, es, aa, ac, ea, ec)) _ _ ((by show 40 - (k + 1) < 40 - k; omega)) ⟨hA.sub ((.cons rfl (.cons rfl (.cons rfl (.cons rfl (.cons rfl .nil)))))), hM, (by omega), (by omega), (by first | omega | (simp only [List.length_append, List.length_set, List.length_cons, List.length_nil]; omega))⟩
     ·
      obtain ⟨m, hme⟩ : ∃ m : Nat, ((n20 : Int)) - 2 = (m : Int) := ⟨(((n20 : Int)) - 2).toNat, by omega⟩
      rw [hme] at hA
      have hml2 : m < es.length := by omega
      have hml3 : m < (es.map enOp).length := by rw [List.length_map]; exact hml2
      have hml4 : m < (es.map eB).length := by rw [List.length_map]; exact hml2
      by_cases hs25 : (ent es m).e = true
      ·
       obtain ⟨g26, hg26⟩ := hM.ownAt (k := 2) rfl (by omega)
       subst hg26
       replace hM : Mem _ _ [pt b1 #[.int .i64 ((k : Int)), .slice la es.length lc] 39, own 64 5 (.slice la es.length lc) es.length (entV es), own 26 4 (.slice ((some ⟨g26, 0, none⟩)) (((es.map enOp)).length) ac) (((es.map enOp)).length) (hopV ((es.map enOp))), own 4 1 (.slice ea (((es.map eB)).length) ec) (((es.map eB)).length) (boolV ((es.map eB)))] _ := hM
       obtain ⟨g27, hg27⟩ := hM.ownAt (k := 3) rfl (by omega)
       subst hg27
       replace hM : Mem _ _ [pt b1 #[.int .i64 ((k : Int)), .slice la es.length lc] 39, own 64 5 (.slice la es.length lc) es.length (entV es), own 26 4 (.slice ((some ⟨g26, 0, none⟩)) (((es.map enOp)).length) ac) (((es.map enOp)).length) (hopV ((es.map enOp))), own 4 1 (.slice ((some ⟨g27, 0, none⟩)) (((es.map eB)).length) ec) (((es.map eB)).length) (boolV ((es.map eB)))] _ := hM
       refine Ends.region ?_
       refine S.val hA (R.move rfl) rfl ?_; clear hA a; intro a hA
       refine S.val hA (R.move rfl) rfl ?_; clear hA a; intro a hA
       refine S.val hA (R.move rfl) rfl ?_; clear hA a; intro a hA
       refine S.call hA (R.callF Tryd.func11 rfl rfl rfl) rfl (end_bad21 b1 ((k : Int)) (by omega) la lc es (by omega) ((m : Int)) ((k : Int)) (bad_end hs25) _ (hM.hereN 2)) ?_; clear hA a
       rintro e w18 ⟨rfl, hn⟩
       replace hM : Mem _ _ [pt b1 #[.int .i64 (((k : Int)) + 1), .slice la es.length lc] 39, own 64 5 (.slice la es.length lc) es.length (entV es), own 26 4 (.slice ((some ⟨g26, 0, none⟩)) (((es.map enOp)).length) ac) (((es.map enOp)).length) (hopV ((es.map enOp))), own 4 1 (.slice ((some ⟨g27, 0, none⟩)) (((es.map eB)).length) ec) (((es.map eB)).length) (boolV ((es.map eB)))] _ := hM.callL 2 hn; clear hn
       refine ⟨.int .i64 11, rfl, fun a hA => ?_⟩
       refine S.val hA (R.assign rfl) rfl ?_; clear hA a; intro a hA
       refine S.done ?_
       replace hA : St 148 [(0, _), (3, _), (4, _), (5, _), (6, _), (8, _), (9, _)] a := hA.sub ((.cons rfl (.cons rfl (.cons rfl (.cons rfl (.cons rfl (.cons rfl (.cons rfl .nil))))))))
       refine Ends.seq (Ends.seq (Ends.region ?_))
       refine S.val hA (R.move rfl) rfl ?_; clear hA a; intro a hA
       refine S.val hA (R.ff (R.lss rfl rfl) (by omega)) rfl ?_; clear hA a; intro a hA
       refine S.val hA (R.move rfl) rfl ?_; clear hA a; intro a hA
       refine S.valg (dj := 86) hA (by kernel_rfl) rfl (R.move rfl) rfl ?_; clear hA a; intro a hA
       refine S.valg (dj := 86) hA (by kernel_rfl) rfl (R.move rfl) rfl ?_; clear hA a; intro a hA
       refine S.valg (dj := 86) hA (by kernel_rfl) rfl (R.lenS Tryd.underlying23 rfl rfl) rfl ?_; clear hA a; intro a hA
       refine S.valg (dj := 86) hA (by kernel_rfl) rfl (R.ff (R.geq rfl rfl) (by omega)) rfl ?_; clear hA a; intro a hA
       refine S.val hA (R.pickF rfl rfl) rfl ?_; clear hA a; intro a hA
       refine S.val hA (R.move rfl) rfl ?_; clear hA a; intro a hA
       refine S.valg (dj := 92) hA (by kernel_rfl) rfl (R.move rfl) rfl ?_; clear hA a; intro a hA
       refine S.valg (dj := 92) hA (by kernel_rfl) rfl (R.move rfl) rfl ?_; clear hA a; intro a hA
       refine S.valg (dj := 92) hA (by kernel_rfl) rfl (R.indexAddr (q := m) sl40 rfl rfl (by omega) (by omega)) rfl ?_; clear hA a; intro a hA
       refine S.valg (dj := 92) hA (by kernel_rfl) rfl (R.to (v := .bool true) (R.load sz4 rfl (hM.ownCell (k := 3) rfl (boolV_row hml4 0 _ rfl))) (congrArg Value.bool ((bb_map hml2).trans hs25))) rfl ?_; clear hA a; intro a hA
       refine S.val hA (R.pickF rfl rfl) rfl ?_; clear hA a; intro a hA
       refine S.done ?_
       replace hA : St 148 [(0, _), (3, _), (4, _), (5, _), (6, _), (8, _), (9, _), (97, _)] a := hA.sub ((.cons rfl (.cons rfl (.cons rfl (.cons rfl (.cons rfl (.cons rfl (.cons rfl (.cons rfl .nil)))))))))
       refine Ends.condT hA rfl ?_
       refine Ends.seq (Ends.seq (Ends.region ?_))
       refine S.val hA (R.move rfl) rfl ?_; clear hA a; intro a hA
       refine S.val hA (R.ff (R.neq rfl rfl) (by first | decide | simp | omega)) rfl ?_; clear hA a; intro a hA
       refine S.done ?_
       refine Ends.condF hA rfl ?_
       refine Ends.skip ?_
       refine Ends.exit rfl ?_
       replace hA : St 148 [(0, _), (3, _), (4, _), (5, _), (6, _)] a := hA.sub ((.cons rfl (.cons rfl (.cons rfl (.cons rfl (.cons rfl .nil))))))
       refine Ends.region ?_
       refine S.val hA (R.move rfl) rfl ?_; clear hA a; intro a hA
       refine S.val hA (R.addI rfl rfl (r := ((k : Int)) + 1) rfl (by omega)) rfl ?_; clear hA a; intro a hA
       refine S.val hA (R.assign rfl) rfl ?_; clear hA a; intro a hA
       refine S.done ?_
       replace hM := hM.front (k := 3) rfl
       replace hM := hM.front (k := 3) rfl
       replace hM := hM.front (k := 3) rfl
       replace hM := hM.front (k := 3) rfl
       replace hM := hM.firstN 4
       replace hM : Mem _ _ [pt b1 #[.int .i64 ((k + 1 : Int)), .slice la es.length lc] 39, own 64 5 (.slice la es.length lc) es.length (entV es), own 26 4 (.slice ((some ⟨g26, 0, none⟩)) (((es.map enOp)).length) ac) (((es.map enOp)).length) (hopV ((es.map enOp))), own 4 1 (.slice ((some ⟨g27, 0, none⟩)) (((es.map eB)).length) ec) (((es.map eB)).length) (boolV ((es.map eB)))] _ := hM
       exact hNext ((k + 1, la, lc, es, (some ⟨g26, 0, none⟩), ac, (some ⟨g27, 0, none⟩), ec)) _ _ ((by show 40 - (k + 1) < 40 - k; omega)) ⟨hA.sub ((.cons rfl (.cons rfl (.cons rfl (.cons rfl (.cons rfl .nil)))))), hM, (by omega), (by omega), (by first | omega | (simp only [List.length_append, List.length_set, List.length_cons, List.length_nil]; omega))⟩
      ·
       obtain ⟨g28, hg28⟩ := hM.ownAt (k := 2) rfl (by omega)
       subst hg28
       replace hM : Mem _ _ [pt b1 #[.int .i64 ((k : Int)), .slice la es.length lc] 39, own 64 5 (.slice la es.length lc) es.length (entV es), own 26 4 (.slice ((some ⟨g28, 0, none⟩)) (((es.map enOp)).length) ac) (((es.map enOp)).length) (hopV ((es.map enOp))), own 4 1 (.slice ea (((es.map eB)).length) ec) (((es.map eB)).length) (boolV ((es.map eB)))] _ := hM
       obtain ⟨g29, hg29⟩ := hM.ownAt (k := 3) rfl (by omega)
       subst hg29
       replace hM : Mem _ _ [pt b1 #[.int .i64 ((k : Int)), .slice la es.length lc] 39, own 64 5 (.slice la es.length lc) es.length (entV es), own 26 4 (.slice ((some ⟨g28, 0, none⟩)) (((es.map enOp)).length) ac) (((es.map enOp)).length) (hopV ((es.map enOp))), own 4 1 (.slice ((some ⟨g29, 0, none⟩)) (((es.map eB)).length) ec) (((es.map eB)).length) (boolV ((es.map eB)))] _ := hM
       have hopn : (ent es m).e = false := by simpa using hs25
       refine Ends.region ?_
       refine S.val hA (R.move rfl) rfl ?_; clear hA a; intro a hA
       refine S.val hA (R.move rfl) rfl ?_; clear hA a; intro a hA
       refine S.val hA (R.move rfl) rfl ?_; clear hA a; intro a hA
       refine S.call hA (R.callF Tryd.func11 rfl rfl rfl) rfl (end_ok21 b1 ((k : Int)) (by omega) la lc es (by omega) m ((k : Int)) (by omega) hopn _ (hM.hereN 2)) ?_; clear hA a
       rintro e w19 ⟨rfl, hn⟩
       replace hM : Mem _ _ [pt b1 #[.int .i64 (((k : Int)) + 1), .slice la es.length lc] 39, own 64 5 (.slice la es.length lc) es.length (entV ((es.set m ⟨(ent es m).k, (k : Int), (ent es m).f, (k : Int), true⟩))), own 26 4 (.slice ((some ⟨g28, 0, none⟩)) (((es.map enOp)).length) ac) (((es.map enOp)).length) (hopV ((es.map enOp))), own 4 1 (.slice ((some ⟨g29, 0, none⟩)) (((es.map eB)).length) ec) (((es.map eB)).length) (boolV ((es.map eB)))] _ := hM.callL 2 hn; clear hn
       refine ⟨.int .i64 0, rfl, fun a hA => ?_⟩
       refine S.val hA (R.assign rfl) rfl ?_; clear hA a; intro a hA
       refine S.done ?_
       replace hA : St 148 [(0, _), (3, _), (4, _), (5, _), (6, _), (8, _), (9, _)] a := hA.sub ((.cons rfl (.cons rfl (.cons rfl (.cons rfl (.cons rfl (.cons rfl (.cons rfl .nil))))))))
       refine Ends.seq (Ends.seq (Ends.region ?_))
       refine S.val hA (R.move rfl) rfl ?_; clear hA a; intro a hA
       refine S.val hA (R.ff (R.lss rfl rfl) (by omega)) rfl ?_; clear hA a; intro a hA
       refine S.val hA (R.move rfl) rfl ?_; clear hA a; intro a hA
       refine S.valg (dj := 86) hA (by kernel_rfl) rfl (R.move rfl) rfl ?_; clear hA a; intro a hA
       refine S.valg (dj := 86) hA (by kernel_rfl) rfl (R.move rfl) rfl ?_; clear hA a; intro a hA
       refine S.valg (dj := 86) hA (by kernel_rfl) rfl (R.lenS Tryd.underlying23 rfl rfl) rfl ?_; clear hA a; intro a hA
       refine S.valg (dj := 86) hA (by kernel_rfl) rfl (R.ff (R.geq rfl rfl) (by omega)) rfl ?_; clear hA a; intro a hA
       refine S.val hA (R.pickF rfl rfl) rfl ?_; clear hA a; intro a hA
       refine S.val hA (R.move rfl) rfl ?_; clear hA a; intro a hA
       refine S.valg (dj := 92) hA (by kernel_rfl) rfl (R.move rfl) rfl ?_; clear hA a; intro a hA
       refine S.valg (dj := 92) hA (by kernel_rfl) rfl (R.move rfl) rfl ?_; clear hA a; intro a hA
       refine S.valg (dj := 92) hA (by kernel_rfl) rfl (R.indexAddr (q := m) sl40 rfl rfl (by omega) (by omega)) rfl ?_; clear hA a; intro a hA
       refine S.valg (dj := 92) hA (by kernel_rfl) rfl (R.to (v := .bool false) (R.load sz4 rfl (hM.ownCell (k := 3) rfl (boolV_row hml4 0 _ rfl))) (congrArg Value.bool ((bb_map hml2).trans hopn))) rfl ?_; clear hA a; intro a hA
       refine S.val hA (R.pickF rfl rfl) rfl ?_; clear hA a; intro a hA
       refine S.done ?_
       replace hA : St 148 [(0, _), (3, _), (4, _), (5, _), (6, _), (8, _), (9, _), (97, _)] a := hA.sub ((.cons rfl (.cons rfl (.cons rfl (.cons rfl (.cons rfl (.cons rfl (.cons rfl (.cons rfl .nil)))))))))
       refine Ends.condF hA rfl ?_
       refine Ends.skip (Ends.seq (Ends.seq (Ends.region ?_)))
       refine S.val hA (R.move rfl) rfl ?_; clear hA a; intro a hA
       refine S.val hA (R.ff (R.neq rfl rfl) (by first | decide | simp | omega)) rfl ?_; clear hA a; intro a hA
       refine S.done ?_
       refine Ends.condF hA rfl ?_
       refine Ends.skip (Ends.region ?_)
       refine S.val hA (R.move rfl) rfl ?_; clear hA a; intro a hA
       refine S.val hA (R.move rfl) rfl ?_; clear hA a; intro a hA
       refine S.val hA (R.move rfl) rfl ?_; clear hA a; intro a hA
       refine S.val hA (R.move rfl) rfl ?_; clear hA a; intro a hA
       refine S.val hA (R.move rfl) rfl ?_; clear hA a; intro a hA
       refine S.val hA (R.move rfl) rfl ?_; clear hA a; intro a hA
       refine S.val hA (R.move rfl) rfl ?_; clear hA a; intro a hA
       refine S.val hA (R.move rfl) rfl ?_; clear hA a; intro a hA
       refine S.val hA (R.indexAddr (q := m * 4) sl23 rfl rfl (by omega) (by omega)) rfl ?_; clear hA a; intro a hA
       refine S.val hA (R.fieldAddr (q := m * 4 + 1) fi26_1 rfl rfl rfl) rfl ?_; clear hA a; intro a hA
       refine S.storeR (k := 2) hA hM sz3 rfl rfl rfl rfl (hopV_row (by first | omega | (simp only [List.length_set]; omega) | (simp; omega)) 1 _ rfl) (hopV_set (by first | omega | (simp only [List.length_set]; omega) | (simp; omega)) 1 _ (⟨(hop ((es.map enOp)) m).k, (k : Int), (hop ((es.map enOp)) m).f, (hop ((es.map enOp)) m).t⟩ : HOp) (by decide) rfl) ?_; clear hM; intro w20 hM
       replace hM : Mem _ _ [pt b1 #[.int .i64 (((k : Int)) + 1), .slice la es.length lc] 39, own 64 5 (.slice la es.length lc) es.length (entV ((es.set m ⟨(ent es m).k, (k : Int), (ent es m).f, (k : Int), true⟩))), own 26 4 (.slice ((some ⟨g28, 0, none⟩)) (((es.map enOp)).length) ac) (((es.map enOp)).length) (hopV (((es.map enOp).set m (⟨(hop ((es.map enOp)) m).k, (k : Int), (hop ((es.map enOp)) m).f, (hop ((es.map enOp)) m).t⟩ : HOp)))), own 4 1 (.slice ((some ⟨g29, 0, none⟩)) (((es.map eB)).length) ec) (((es.map eB)).length) (boolV ((es.map eB)))] _ := hM
       refine S.val hA (R.indexAddr (q := m * 4) sl23 rfl rfl (by omega) (by omega)) rfl ?_; clear hA a; intro a hA
       refine S.val hA (R.fieldAddr (q := m * 4 + 3) fi26_3 rfl rfl rfl) rfl ?_; clear hA a; intro a hA
       refine S.storeR (k := 2) hA hM sz3 rfl rfl rfl rfl (hopV_row (by first | omega | (simp only [List.length_set]; omega) | (simp; omega)) 3 _ rfl) (hopV_set (by first | omega | (simp only [List.length_set]; omega) | (simp; omega)) 3 _ (⟨(hop (((es.map enOp).set m (⟨(hop ((es.map enOp)) m).k, (k : Int), (hop ((es.map enOp)) m).f, (hop ((es.map enOp)) m).t⟩ : HOp))) m).k, (hop (((es.map enOp).set m (⟨(hop ((es.map enOp)) m).k, (k : Int), (hop ((es.map enOp)) m).f, (hop ((es.map enOp)) m).t⟩ : HOp))) m).i, (hop (((es.map enOp).set m (⟨(hop ((es.map enOp)) m).k, (k : Int), (hop ((es.map enOp)) m).f, (hop ((es.map enOp)) m).t⟩ : HOp))) m).f, (k : Int)⟩ : HOp) (by decide) rfl) ?_; clear hM; intro w21 hM
       replace hM : Mem _ _ [pt b1 #[.int .i64 (((k : Int)) + 1), .slice la es.length lc] 39, own 64 5 (.slice la es.length lc) es.length (entV ((es.set m ⟨(ent es m).k, (k : Int), (ent es m).f, (k : Int), true⟩))), own 26 4 (.slice ((some ⟨g28, 0, none⟩)) (((es.map enOp)).length) ac) (((es.map enOp)).length) (hopV ((((es.map enOp).set m (⟨(hop ((es.map enOp)) m).k, (k : Int), (hop ((es.map enOp)) m).f, (hop ((es.map enOp)) m).t⟩ : HOp)).set m (⟨(hop (((es.map enOp).set m (⟨(hop ((es.map enOp)) m).k, (k : Int), (hop ((es.map enOp)) m).f, (hop ((es.map enOp)) m).t⟩ : HOp))) m).k, (hop (((es.map enOp).set m (⟨(hop ((es.map enOp)) m).k, (k : Int), (hop ((es.map enOp)) m).f, (hop ((es.map enOp)) m).t⟩ : HOp))) m).i, (hop (((es.map enOp).set m (⟨(hop ((es.map enOp)) m).k, (k : Int), (hop ((es.map enOp)) m).f, (hop ((es.map enOp)) m).t⟩ : HOp))) m).f, (k : Int)⟩ : HOp)))), own 4 1 (.slice ((some ⟨g29, 0, none⟩)) (((es.map eB)).length) ec) (((es.map eB)).length) (boolV ((es.map eB)))] _ := hM
       refine S.val hA (R.indexAddr (q := m) sl40 rfl rfl (by omega) (by omega)) rfl ?_; clear hA a; intro a hA
       refine S.storeR (k := 3) hA hM sz4 rfl rfl rfl rfl (boolV_row (by first | omega | (simp only [List.length_set]; omega) | (simp; omega)) 0 _ rfl) (boolV_set (by first | omega | (simp only [List.length_set]; omega) | (simp; omega)) 0 _ (⟨true⟩ : BB) (by decide) rfl) ?_; clear hM; intro w22 hM
       replace hM : Mem _ _ [pt b1 #[.int .i64 (((k : Int)) + 1), .slice la es.length lc] 39, own 64 5 (.slice la es.length lc) es.length (entV ((es.set m ⟨(ent es m).k, (k : Int), (ent es m).f, (k : Int), true⟩))), own 26 4 (.slice ((some ⟨g28, 0, none⟩)) (((es.map enOp)).length) ac) (((es.map enOp)).length) (hopV ((((es.map enOp).set m (⟨(hop ((es.map enOp)) m).k, (k : Int), (hop ((es.map enOp)) m).f, (hop ((es.map enOp)) m).t⟩ : HOp)).set m (⟨(hop (((es.map enOp).set m (⟨(hop ((es.map enOp)) m).k, (k : Int), (hop ((es.map enOp)) m).f, (hop ((es.map enOp)) m).t⟩ : HOp))) m).k, (hop (((es.map enOp).set m (⟨(hop ((es.map enOp)) m).k, (k : Int), (hop ((es.map enOp)) m).f, (hop ((es.map enOp)) m).t⟩ : HOp))) m).i, (hop (((es.map enOp).set m (⟨(hop ((es.map enOp)) m).k, (k : Int), (hop ((es.map enOp)) m).f, (hop ((es.map enOp)) m).t⟩ : HOp))) m).f, (k : Int)⟩ : HOp)))), own 4 1 (.slice ((some ⟨g29, 0, none⟩)) (((es.map eB)).length) ec) (((es.map eB)).length) (boolV (((es.map eB).set m (⟨true⟩ : BB))))] _ := hM
       refine S.done ?_
       replace hA : St 148 [(0, _), (3, _), (4, _), (5, _), (6, _)] a := hA.sub ((.cons rfl (.cons rfl (.cons rfl (.cons rfl (.cons rfl .nil))))))
       refine Ends.inBlock (Ends.region ?_)
       refine S.val hA (R.move rfl) rfl ?_; clear hA a; intro a hA
       refine S.val hA (R.addI rfl rfl (r := ((k : Int)) + 1) rfl (by omega)) rfl ?_; clear hA a; intro a hA
       refine S.val hA (R.assign rfl) rfl ?_; clear hA a; intro a hA
       refine S.done ?_
       replace hM := hM.front (k := 3) rfl
       replace hM := hM.front (k := 3) rfl
       replace hM := hM.front (k := 3) rfl
       replace hM := hM.front (k := 3) rfl
       replace hM := hM.firstN 4
       have hx1 : (((es.map enOp).set m (⟨(hop ((es.map enOp)) m).k, (k : Int), (hop ((es.map enOp)) m).f, (hop ((es.map enOp)) m).t⟩ : HOp)).set m (⟨(hop (((es.map enOp).set m (⟨(hop ((es.map enOp)) m).k, (k : Int), (hop ((es.map enOp)) m).f, (hop ((es.map enOp)) m).t⟩ : HOp))) m).k, (hop (((es.map enOp).set m (⟨(hop ((es.map enOp)) m).k, (k : Int), (hop ((es.map enOp)) m).f, (hop ((es.map enOp)) m).t⟩ : HOp))) m).i, (hop (((es.map enOp).set m (⟨(hop ((es.map enOp)) m).k, (k : Int), (hop ((es.map enOp)) m).f, (hop ((es.map enOp)) m).t⟩ : HOp))) m).f, (k : Int)⟩ : HOp)) = ((es.set m ⟨(ent es m).k, (k : Int), (ent es m).f, (k : Int), true⟩)).map enOp := set2 hml2 _ _ rfl rfl rfl
       have hx2 : ((es.map eB).set m (⟨true⟩ : BB)) = ((es.set m ⟨(ent es m).k, (k : Int), (ent es m).f, (k : Int), true⟩)).map eB := map_put eB es m _ rfl
       have hx3 : es.length = ((es.set m ⟨(ent es m).k, (k : Int), (ent es m).f, (k : Int), true⟩)).length := by simp
       have hx4 : (es.map enOp).length = (((es.set m ⟨(ent es m).k, (k : Int), (ent es m).f, (k : Int), true⟩)).map enOp).length := by simp
       have hx5 : (es.map eB).length = (((es.set m ⟨(ent es m).k, (k : Int), (ent es m).f, (k : Int), true⟩)).map eB).length := by simp
       rw [hx1, hx2, hx3, hx4, hx5] at hM
       replace hM : Mem _ _ [pt b1 #[.int .i64 ((k + 1 : Int)), .slice la (((es.set m ⟨(ent es m).k, (k : Int), (ent es m).f, (k : Int), true⟩)).length) lc] 39, own 64 5 (.slice la (((es.set m ⟨(ent es m).k, (k : Int), (ent es m).f, (k : Int), true⟩)).length) lc) (((es.set m ⟨(ent es m).k, (k : Int), (ent es m).f, (k : Int), true⟩)).length) (entV ((es.set m ⟨(ent es m).k, (k : Int), (ent es m).f, (k : Int), true⟩))), own 26 4 (.slice ((some ⟨g28, 0, none⟩)) (((((es.set m ⟨(ent es m).k, (k : Int), (ent es m).f, (k : Int), true⟩)).map enOp)).length) ac) (((((es.set m ⟨(ent es m).k, (k : Int), (ent es m).f, (k : Int), true⟩)).map enOp)).length) (hopV ((((es.set m ⟨(ent es m).k, (k : Int), (ent es m).f, (k : Int), true⟩)).map enOp))), own 4 1 (.slice ((some ⟨g29, 0, none⟩)) (((((es.set m ⟨(ent es m).k, (k : Int), (ent es m).f, (k : Int), true⟩)).map eB)).length) ec) (((((es.set m ⟨(ent es m).k, (k : Int), (ent es m).f, (k : Int), true⟩)).map eB)).length) (boolV ((((es.set m ⟨(ent es m).k, (k : Int), (ent es m).f, (k : Int), true⟩)).map eB)))] _ := hM
       rw [hx4, hx5] at hA
       exact hNext ((k + 1, la, lc, (es.set m ⟨(ent es m).k, (k : Int), (ent es m).f, (k : Int), true⟩), (some ⟨g28, 0, none⟩), ac, (some ⟨g29, 0, none⟩), ec)) _ _ ((by show 40 - (k + 1) < 40 - k; omega)) ⟨hA.sub ((.cons rfl (.cons rfl (.cons rfl (.cons rfl (.cons rfl .nil)))))), hM, (by omega), (by omega), (by first | omega | (simp only [List.length_append, List.length_set, List.length_cons, List.length_nil]; omega))⟩
  ·
   refine Ends.exit rfl ?_
   refine Ends.seq (Ends.region ?_)
   refine S.val hA (R.move rfl) rfl ?_; clear hA a; intro a hA
   refine S.call hA (R.callF Tryd.func12 rfl rfl rfl) rfl (ops21 b1 ((k : Int)) (by omega) la lc es (by omega) _ (hM.hereN 2)) ?_; clear hA a
   rintro e w23 ⟨pa30, pc31, rfl, hn⟩
   replace hM : Mem _ _ [own 26 4 (.slice pa30 (((opsOf es)).length) pc31) (((opsOf es)).length) (hopV ((opsOf es))), pt b1 #[.int .i64 ((k : Int)), .slice la es.length lc] 39, own 64 5 (.slice la es.length lc) es.length (entV es), own 26 4 (.slice aa (((es.map enOp)).length) ac) (((es.map enOp)).length) (hopV ((es.map enOp))), own 4 1 (.slice ea (((es.map eB)).length) ec) (((es.map eB)).length) (boolV ((es.map eB)))] _ := hM.callL 2 hn; clear hn
   refine ⟨.slice pa30 (((opsOf es)).length) pc31, rfl, fun a hA => ?_⟩
   refine S.val hA (R.assign rfl) rfl ?_; clear hA a; intro a hA
   refine S.done ?_
   replace hA : St 148 [(3, _), (4, _), (5, _), (10, _)] a := hA.sub ((.cons rfl (.cons rfl (.cons rfl (.cons rfl .nil)))))
   refine Ends.seq (Ends.region ?_)
   refine S.val hA (R.assign rfl) rfl ?_; clear hA a; intro a hA
   refine S.done ?_
   refine Ends.seq (Ends.seq (Ends.region ?_))
   refine S.val hA (R.assign rfl) rfl ?_; clear hA a; intro a hA
   refine S.done ?_
   refine Ends.block ?_
   have hla : (es.map enOp).length = es.length := by simp
   have hle : (es.map eB).length = es.length := by simp
   refine Ends.loop (σ := Nat) (fun q (a : Act) (wv : World) => St 148 [(3, .pointer (some ⟨b1, 0, none⟩)), (4, .slice aa ((es.map enOp).length) ac), (5, .slice ea ((es.map eB).length) ec), (10, .slice pa30 (((opsOf es)).length) pc31), (11, .int .i64 ((((opsOf (es.take q)).length : Nat) : Int))), (12, .int .i64 ((q : Int)))] a ∧ Mem w nof [own 26 4 (.slice pa30 (((opsOf es)).length) pc31) (((opsOf es)).length) (hopV ((opsOf es))), pt b1 #[.int .i64 ((k : Int)), .slice la es.length lc] 39, own 64 5 (.slice la es.length lc) es.length (entV es), own 26 4 (.slice aa (((es.map enOp)).length) ac) (((es.map enOp)).length) (hopV ((es.map enOp))), own 4 1 (.slice ea (((es.map eB)).length) ec) (((es.map eB)).length) (boolV ((es.map eB)))] wv ∧ (q ≤ es.length)) (fun q => es.length - q) 0 ⟨hA.sub ((.cons rfl (.cons rfl (.cons rfl (.cons rfl (.cons rfl (.cons rfl .nil))))))), hM, (Nat.zero_le _)⟩ ?_
   clear hA hM a
   rintro q a w24 ⟨hA, hM, hk8⟩ hNext1
   refine Ends.seq (Ends.seq (Ends.region ?_))
   refine S.val hA (R.move rfl) rfl ?_; clear hA a; intro a hA
   refine S.val hA (R.move rfl) rfl ?_; clear hA a; intro a hA
   refine S.val hA (R.lenS Tryd.underlying23 rfl rfl) rfl ?_; clear hA a; intro a hA
   refine S.val hA (R.lss rfl rfl) rfl ?_; clear hA a; intro a hA
   refine S.done ?_
   refine Ends.ite hA rfl (fun hc32 => ?_) (fun hc32 => ?_)
   ·
    refine Ends.skip (Ends.seq (Ends.block (Ends.seq ?_)))
    have hoq := opsOf_le (es.take q)
    rw [List.length_take] at hoq
    have hkl2 : q < es.length := by omega
    have hkl3 : q < (es.map enOp).length := by omega
    have hkl4 : q < (es.map eB).length := by omega
    obtain ⟨g33, hg33⟩ := hM.ownAt (k := 4) rfl (by omega)
    subst hg33
    replace hM : Mem _ _ [own 26 4 (.slice pa30 (((opsOf es)).length) pc31) (((opsOf es)).length) (hopV ((opsOf es))), pt b1 #[.int .i64 ((k : Int)), .slice la es.length lc] 39, own 64 5 (.slice la es.length lc) es.length (entV es), own 26 4 (.slice aa (((es.map enOp)).length) ac) (((es.map enOp)).length) (hopV ((es.map enOp))), own 4 1 (.slice ((some ⟨g33, 0, none⟩)) (((es.map eB)).length) ec) (((es.map eB)).length) (boolV ((es.map eB)))] _ := hM
    by_cases hs34 : (ent es q).e = true
    ·
     have hen2 := hs34
     obtain ⟨hol9, hoe9⟩ := opsOf_at hkl2 hen2
     have hpos9 : 0 < (opsOf es).length := by omega
     obtain ⟨g35, hg35⟩ := hM.ownAt (k := 3) rfl (by omega)
     subst hg35
     replace hM : Mem _ _ [own 26 4 (.slice pa30 (((opsOf es)).length) pc31) (((opsOf es)).length) (hopV ((opsOf es))), pt b1 #[.int .i64 ((k : Int)), .slice la es.length lc] 39, own 64 5 (.slice la es.length lc) es.length (entV es), own 26 4 (.slice ((some ⟨g35, 0, none⟩)) (((es.map enOp)).length) ac) (((es.map enOp)).length) (hopV ((es.map enOp))), own 4 1 (.slice ((some ⟨g33, 0, none⟩)) (((es.map eB)).length) ec) (((es.map eB)).length) (boolV ((es.map eB)))] _ := hM
     obtain ⟨g36, hg36⟩ := hM.ownAt (k := 0) rfl (by omega)
     subst hg36
     replace hM : Mem _ _ [own 26 4 (.slice ((some ⟨g36, 0, none⟩)) (((opsOf es)).length) pc31) (((opsOf es)).length) (hopV ((opsOf es))), pt b1 #[.int .i64 ((k : Int)), .slice la es.length lc] 39, own 64 5 (.slice la es.length lc) es.length (entV es), own 26 4 (.slice ((some ⟨g35, 0, none⟩)) (((es.map enOp)).length) ac) (((es.map enOp)).length) (hopV ((es.map enOp))), own 4 1 (.slice ((some ⟨g33, 0, none⟩)) (((es.map eB)).length) ec) (((es.map eB)).length) (boolV ((es.map eB)))] _ := hM
     refine Ends.region ?_
     refine S.val hA (R.move rfl) rfl ?_; clear hA a; intro a hA
     refine S.val hA (R.move rfl) rfl ?_; clear hA a; intro a hA
     refine S.val hA (R.indexAddr (q := q) sl40 rfl rfl (by omega) (by omega)) rfl ?_; clear hA a; intro a hA
     refine S.val hA (R.to (v := .bool true) (R.load sz4 rfl (hM.ownCell (k := 4) rfl (boolV_row hkl4 0 _ rfl))) (congrArg Value.bool ((bb_map hkl2).trans hen2))) rfl ?_; clear hA a; intro a hA
     refine S.done ?_
     replace hA : St 148 [(3, _), (4, _), (5, _), (10, _), (11, _), (12, _), (126, _)] a := hA.sub ((.cons rfl (.cons rfl (.cons rfl (.cons rfl (.cons rfl (.cons rfl (.cons rfl .nil))))))))
     refine Ends.condT hA rfl ?_
     refine Ends.seq (Ends.seq ?_)
     refine Ends.drawn (Mem w nof [own 26 4 (.slice ((some ⟨g36, 0, none⟩)) (((opsOf es)).length) pc31) (((opsOf es)).length) (hopV ((opsOf es))), pt b1 #[.int .i64 ((k : Int)), .slice la es.length lc] 39, own 64 5 (.slice la es.length lc) es.length (entV es), own 26 4 (.slice ((some ⟨g35, 0, none⟩)) (((es.map enOp)).length) ac) (((es.map enOp)).length) (hopV ((es.map enOp))), own 4 1 (.slice ((some ⟨g33, 0, none⟩)) (((es.map eB)).length) ec) (((es.map eB)).length) (boolV ((es.map eB)))]) (.cons (0, true) (.cons (1, true) (.cons (2, true) (.cons (3, true) (.cons (4, true) (.cons (5, true) (.cons (6, true) (.cons (7, true) (.cons (8, true) (.cons (9, true) (.cons (10, true) (.cons (11, true) (.cons (12, true) (.cons (13, true) (.cons (14, true) .nil))))))))))))))) 15 mixed (by kernel_rfl) (by kernel_rfl) (by kernel_rfl) hM.drew ?_
     replace hM := hM.drew
     refine D.valF hA rfl (fun _ => R.move rfl) rfl ?_; clear hA a; intro a hA
     refine D.valF hA rfl (fun _ => R.move rfl) rfl ?_; clear hA a; intro a hA
     refine D.valF hA rfl (fun _ => R.lenS Tryd.underlying23 rfl rfl) rfl ?_; clear hA a; intro a hA
     refine D.valF hA rfl (fun _ => R.ff (R.geq rfl rfl) (by omega)) rfl ?_; clear hA a; intro a hA
     refine D.valF hA rfl (fun _ => R.move rfl) rfl ?_; clear hA a; intro a hA
     refine D.valgF (dj := 131) hA rfl (by kernel_rfl) rfl (fun _ => R.move rfl) rfl ?_; clear hA a; intro a hA
     refine D.valgF (dj := 131) hA rfl (by kernel_rfl) rfl (fun _ => R.move rfl) rfl ?_; clear hA a; intro a hA
     refine D.valgF (dj := 131) hA rfl (by kernel_rfl) rfl (fun _ => R.indexAddr (q := (opsOf (es.take q)).length * 4) sl23 rfl rfl (by omega) (by omega)) rfl ?_; clear hA a; intro a hA
     refine D.valg (dj := 131) hA rfl (by kernel_rfl) (by kernel_rfl) rfl (fun _ hM => R.loadA sz26 rfl (hM.ownRange (k := 0) rfl (o := (opsOf (es.take q)).length * 4) (cs := [.int .i64 ((hop ((opsOf es)) ((opsOf (es.take q)).length)).k), .int .i64 ((hop ((opsOf es)) ((opsOf (es.take q)).length)).i), .int .i64 ((hop ((opsOf es)) ((opsOf (es.take q)).length)).f), .int .i64 ((hop ((opsOf es)) ((opsOf (es.take q)).length)).t)]) (hopV_row (by first | omega | (simp only [List.length_set]; omega) | (simp; omega)))) rfl) rfl ?_; clear hA a; intro a hA
     refine D.valgF (dj := 131) hA rfl (by kernel_rfl) rfl (fun _ => R.move rfl) rfl ?_; clear hA a; intro a hA
     refine D.valgF (dj := 131) hA rfl (by kernel_rfl) rfl (fun _ => R.move rfl) rfl ?_; clear hA a; intro a hA
     refine D.valgF (dj := 131) hA rfl (by kernel_rfl) rfl (fun _ => R.indexAddr (q := q * 4) sl23 rfl rfl (by omega) (by omega)) rfl ?_; clear hA a; intro a hA
     refine D.valg (dj := 131) hA rfl (by kernel_rfl) (by kernel_rfl) rfl (fun _ hM => R.loadA sz26 rfl (hM.ownRange (k := 3) rfl (o := q * 4) (cs := [.int .i64 ((hop ((es.map enOp)) q).k), .int .i64 ((hop ((es.map enOp)) q).i), .int .i64 ((hop ((es.map enOp)) q).f), .int .i64 ((hop ((es.map enOp)) q).t)]) (hopV_row (by first | omega | (simp only [List.length_set]; omega) | (simp; omega)))) rfl) rfl ?_; clear hA a; intro a hA
     refine D.valgF (dj := 131) hA rfl (by kernel_rfl) rfl (fun _ => R.to (v := .bool false) (R.neqS (b := true) Tryd.eqGuardType26 (fun w => eq_op _ _ (hoe9.trans (hop_map hkl2).symm) w) rfl rfl) rfl) rfl ?_; clear hA a; intro a hA
     refine D.valF hA rfl (fun _ => R.pickF rfl rfl) rfl ?_; clear hA a; intro a hA
     refine D.done ?_
     replace hA : St 148 [(3, _), (4, _), (5, _), (10, _), (11, _), (12, _), (141, _)] a := hA.sub ((.cons rfl (.cons rfl (.cons rfl (.cons rfl (.cons rfl (.cons rfl (.cons rfl .nil))))))))
     refine Ends.condF hA rfl ?_
     refine Ends.skip (Ends.region ?_)
     refine S.val hA (R.move rfl) rfl ?_; clear hA a; intro a hA
     refine S.val hA (R.addI rfl rfl (r := ((((opsOf (es.take q)).length : Nat) : Int)) + 1) rfl (by omega)) rfl ?_; clear hA a; intro a hA
     refine S.val hA (R.assign rfl) rfl ?_; clear hA a; intro a hA
     refine S.done ?_
     refine Ends.inBlock (Ends.region ?_)
     refine S.val hA (R.move rfl) rfl ?_; clear hA a; intro a hA
     refine S.val hA (R.addI rfl rfl (r := ((q : Int)) + 1) rfl (by omega)) rfl ?_; clear hA a; intro a hA
     refine S.val hA (R.assign rfl) rfl ?_; clear hA a; intro a hA
     refine S.done ?_
     replace hA : St 148 [(3, _), (4, _), (5, _), (10, _), (11, _), (12, _)] a := hA.sub ((.cons rfl (.cons rfl (.cons rfl (.cons rfl (.cons rfl (.cons rfl .nil)))))))
     have hnx := opsOf_next hkl2
     rw [if_pos hen2] at hnx
     replace hA : St 148 [(3, .pointer (some ⟨b1, 0, none⟩)), (4, .slice ((some ⟨g35, 0, none⟩)) ((es.map enOp).length) ac), (5, .slice ((some ⟨g33, 0, none⟩)) ((es.map eB).length) ec), (10, .slice ((some ⟨g36, 0, none⟩)) (((opsOf es)).length) pc31), (11, .int .i64 ((((opsOf (es.take (q + 1))).length : Nat) : Int))), (12, .int .i64 (((q : Int)) + 1))] a := by rw [hnx]; first | exact hA.sub ((.cons rfl (.cons rfl (.cons rfl (.cons rfl (.cons rfl (.cons rfl .nil))))))) | (push_cast; exact hA.sub ((.cons rfl (.cons rfl (.cons rfl (.cons rfl (.cons rfl (.cons rfl .nil))))))))
     exact hNext1 ((q + 1)) _ _ ((by show es.length - (q + 1) < es.length - q; omega)) ⟨hA.sub ((.cons rfl (.cons rfl (.cons rfl (.cons rfl (.cons rfl (.cons rfl .nil))))))), hM, (by omega)⟩
    ·
     have hen2 : (ent es q).e = false := by simpa using hs34
     refine Ends.region ?_
     refine S.val hA (R.move rfl) rfl ?_; clear hA a; intro a hA
     refine S.val hA (R.move rfl) rfl ?_; clear hA a; intro a hA
     refine S.val hA (R.indexAddr (q := q) sl40 rfl rfl (by omega) (by omega)) rfl ?_; clear hA a; intro a hA
     refine S.val hA (R.to (v := .bool false) (R.load sz4 rfl (hM.ownCell (k := 4) rfl (boolV_row hkl4 0 _ rfl))) (congrArg Value.bool ((bb_map hkl2).trans hen2))) rfl ?_; clear hA a; intro a hA
     refine S.done ?_
     replace hA : St 148 [(3, _), (4, _), (5, _), (10, _), (11, _), (12, _), (126, _)] a := hA.sub ((.cons rfl (.cons rfl (.cons rfl (.cons rfl (.cons rfl (.cons rfl (.cons rfl .nil))))))))
     refine Ends.condF hA rfl ?_
     refine Ends.skip (Ends.inBlock (Ends.region ?_))
     refine S.val hA (R.move rfl) rfl ?_; clear hA a; intro a hA
     refine S.val hA (R.addI rfl rfl (r := ((q : Int)) + 1) rfl (by omega)) rfl ?_; clear hA a; intro a hA
     refine S.val hA (R.assign rfl) rfl ?_; clear hA a; intro a hA
     refine S.done ?_
     have hnx := opsOf_next hkl2
     rw [if_neg (by rw [hen2]; simp)] at hnx
     replace hA : St 148 [(3, .pointer (some ⟨b1, 0, none⟩)), (4, .slice aa ((es.map enOp).length) ac), (5, .slice ((some ⟨g33, 0, none⟩)) ((es.map eB).length) ec), (10, .slice pa30 (((opsOf es)).length) pc31), (11, .int .i64 ((((opsOf (es.take (q + 1))).length : Nat) : Int))), (12, .int .i64 (((q : Int)) + 1))] a := by rw [hnx]; first | exact hA.sub ((.cons rfl (.cons rfl (.cons rfl (.cons rfl (.cons rfl (.cons rfl .nil))))))) | (push_cast; exact hA.sub ((.cons rfl (.cons rfl (.cons rfl (.cons rfl (.cons rfl (.cons rfl .nil))))))))
     exact hNext1 ((q + 1)) _ _ ((by show es.length - (q + 1) < es.length - q; omega)) ⟨hA.sub ((.cons rfl (.cons rfl (.cons rfl (.cons rfl (.cons rfl (.cons rfl .nil))))))), hM, (by omega)⟩
   ·
    refine Ends.exit rfl ?_
    replace hA : St 148 [(3, _), (4, _), (5, _), (10, _), (11, _)] a := hA.sub ((.cons rfl (.cons rfl (.cons rfl (.cons rfl (.cons rfl .nil))))))
    refine Ends.seq (Ends.region ?_)
    refine S.val hA (R.move rfl) rfl ?_; clear hA a; intro a hA
    refine S.val hA (R.move rfl) rfl ?_; clear hA a; intro a hA
    refine S.val hA (R.lenS Tryd.underlying23 rfl rfl) rfl ?_; clear hA a; intro a hA
    refine S.val hA (R.tt (R.eql rfl rfl) (by rw [opsOf_all (by omega)])) rfl ?_; clear hA a; intro a hA
    refine S.val hA (R.assign rfl) rfl ?_; clear hA a; intro a hA
    refine S.done ?_
    replace hA : St 148 [(2, _), (3, _), (4, _), (5, _)] a := hA.sub ((.cons rfl (.cons rfl (.cons rfl (.cons rfl .nil)))))
    refine Ends.ret1 Tryd.func4 Tryd.results4 hA rfl ?_
    exact ⟨rfl, Mem.trans0 hbs hM.nilL⟩
 ·
  refine Ends.region ?_
  refine S.val hA (R.move rfl) rfl ?_; clear hA a; intro a hA
  refine S.val hA (R.move rfl) rfl ?_; clear hA a; intro a hA
  refine S.val hA (R.lenS Tryd.underlying22 rfl rfl) rfl ?_; clear hA a; intro a hA
  refine S.val hA (R.lss rfl rfl) rfl ?_; clear hA a; intro a hA
  refine S.val hA (R.move rfl) rfl ?_; clear hA a; intro a hA
  refine hA.split (d := 37) rfl ?_ ?_
  ·
   clear hA; intro hg37 hA
   refine S.valg (dj := 37) hA (by kernel_rfl) rfl (R.move rfl) rfl ?_; clear hA a; intro a hA
   refine S.valg (dj := 37) hA (by kernel_rfl) rfl (R.lss rfl rfl) rfl ?_; clear hA a; intro a hA
   refine S.val hA (R.pickT rfl rfl) rfl ?_; clear hA a; intro a hA
   refine S.done ?_
   replace hA : St 148 [(0, _), (3, _), (4, _), (5, _), (6, _), (40, _)] a := hA.sub ((.cons rfl (.cons rfl (.cons rfl (.cons rfl (.cons rfl (.cons rfl .nil)))))))
   exact hJ _ _ ⟨hA.sub (.cons rfl (.cons rfl (.cons rfl (.cons rfl (.cons rfl (.cons (by first | rfl | exact congrArg (fun b => some (Value.bool b)) (by first | exact decide_eq_decide.2 (by omega) | exact or_bool (by omega) | exact and_bool (by omega) | (simp; done) | (simp [hg37]; done) | (have h80 := hg37; (try simp at h80); simp [h80]; done) | exact (decide_eq_false (fun h9 => hg37 h9.1)).symm)) .nil)))))), hM⟩
  ·
   clear hA; intro hg37 hA
   refine S.no (dj := 37) hA (by kernel_rfl) rfl rfl rfl ?_; clear hA a; intro a hA
   refine S.no (dj := 37) hA (by kernel_rfl) rfl rfl rfl ?_; clear hA a; intro a hA
   refine S.val hA (R.pickF rfl rfl) rfl ?_; clear hA a; intro a hA
   refine S.done ?_
   replace hA : St 148 [(0, _), (3, _), (4, _), (5, _), (6, _), (40, _)] a := hA.sub ((.cons rfl (.cons rfl (.cons rfl (.cons rfl (.cons rfl (.cons rfl .nil)))))))
   exact hJ _ _ ⟨hA.sub (.cons rfl (.cons rfl (.cons rfl (.cons rfl (.cons rfl (.cons (by first | rfl | exact congrArg (fun b => some (Value.bool b)) (by first | exact decide_eq_decide.2 (by omega) | exact or_bool (by omega) | exact and_bool (by omega) | (simp; done) | (simp [hg37]; done) | (have h80 := hg37; (try simp at h80); simp [h80]; done) | exact (decide_eq_false (fun h9 => hg37 h9.1)).symm)) .nil)))))), hM⟩
theorem histRecords_any (v1 : Value) (Rw : List Int) (w : World) (h1 : IntSl w v1 Rw) (_g1 : ∀ x ∈ Rw, (Lit.int .i64 x).wf = true) (htab : Lib.TabIs Tryd.prog w "math/bits.deBruijn64tab" .u8 debT) :
    Calls Tryd.prog 4 #[v1] w fun e w' => e = .returned (.bool true) ∧ Below w.heap.size w w' := by
  obtain ⟨a1, c1, rfl⟩ := h1.form
  exact histRecords_w a1 Rw c1 w h1 htab
end Go.Proofs.YtjjbognomeplbaaDoor
namespace Go.Proofs.YtjjbognomeplbaaDoor
open Go.RowKit Go.WideShapes Go.ChangeShapes
section
variable {H : Type} {enc : TypeId × Value → H} {P : Program} {w : World} {base : Nat} {spare : Nat → Bool} {held : Bool}
theorem open_sli {r : Reach} {b0 : Nat} {t e : TypeId} {v : Value} {d : DataW H} {p : List MemPlace} (ht : P.underlying t = some (.slice e)) (he : P.underlying e = some (.int .i64)) (hce : P.cellsOf e = 1)
    (hv : Value.okWide P w r b0 t v) (h : DataW.Trod enc P w 0 (fun _ => true) held t v d p) :
    ∃ l : List Int, IntSl w v l ∧ ∀ x ∈ l, (Lit.int .i64 x).wf = true := by
  obtain ⟨a, len, cap, rfl⟩ := okWide_slice ht hv
  obtain ⟨fuel, hf⟩ := h
  rcases open_ints ht he hce hf with ⟨hcs, _⟩ | ⟨x, l, c, zs, hcs, _, hl, hm, hz, _, hcell, hwz⟩
  · simp [Value.cells] at hcs
    obtain ⟨rfl, rfl, rfl⟩ := hcs
    exact ⟨[], ⟨none, 0, rfl, Nat.le_refl _, Nat.zero_le _, fun _ => rfl, fun h => (h rfl).elim⟩, fun x hx => by cases hx⟩
  · simp [Value.cells] at hcs
    obtain ⟨rfl, rfl, rfl⟩ := hcs
    simp only [if_true] at hz
    refine ⟨zs.take len, ⟨some x, cap, by rw [List.length_take, Nat.min_eq_left (by omega)], by rw [List.length_take]; omega, hm, (fun h => nomatch h), fun hne => ?_⟩, fun y hy => hwz y (List.mem_of_mem_take hy)⟩
    have h0 : 0 < zs.length ∧ 0 < len := by
      rcases Nat.eq_zero_or_pos len with e | e
      · subst e; simp at hne
      · exact ⟨by omega, e⟩
    obtain ⟨b, off, spot⟩ := x
    have hs : spot = none := by
      have h1 := hcell 0 h0.1
      unfold Addr.add at h1
      simp only [if_true] at h1
      cases spot with
      | none => rfl
      | some s =>
        unfold World.cell? at h1
        split at h1 <;> simp at h1
    subst hs
    refine ⟨b, off, rfl, ?_, fun i hi => ?_⟩
    · have h1 := hcell 0 h0.1
      exact World.block_lt_of_cell? w _ h1
    · rw [List.length_take] at hi
      have h1 := hcell i (by omega)
      rw [Addr.add_lit] at h1
      rw [h1]
      congr 2
      simp only [List.getD_eq_getElem?_getD, List.getElem?_take]
      rw [if_pos (by omega)]
end
end Go.Proofs.YtjjbognomeplbaaDoor
