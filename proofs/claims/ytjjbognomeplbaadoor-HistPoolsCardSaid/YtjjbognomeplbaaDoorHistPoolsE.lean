/-
  HistPools, part 5 of 5: what the code computes, and plain laws; no condition beside those that each theorem tells.
-/
import Derived.Test.YtjjbognomeplbaaDoorHistPoolsD
import Derived.OpenShut
import Derived.ProofKit
namespace Go.Proofs.YtjjbognomeplbaaDoor
open Go.RowKit
set_option maxRecDepth 100000 in
set_option maxHeartbeats 4000000 in
theorem histPools_w (slots : Int) (ay : Option Addr) (Pk : List Int) (cy : Nat) (w : World) (hy : IntSl w (.slice ay Pk.length cy) Pk) (htab : Lib.TabIs Tryd.prog w "math/bits.deBruijn64tab" .u8 debT) :
  Calls Tryd.prog 5 #[.int .i64 slots, .slice ay Pk.length cy] w fun e w' => e = .returned (.bool true) ∧ Below w.heap.size w w' := by
 have hbs := Below.refl (B := w.heap.size) w
 have hly := hy.lenB
 have hM := Mem.start w
 refine Calls.of_ends (vs := [.int .i64 slots, .slice ay Pk.length cy]) Tryd.func5 rfl Tryd.ntmps5 rfl ?_
 intro a hA
 replace hA : St 153 [(0, _), (1, _)] a := hA
 refine Ends.seq (Ends.region ?_)
 refine S.val hA (R.assign rfl) rfl ?_; clear hA a; intro a hA
 refine S.done ?_
 refine Ends.seq (Ends.region ?_)
 refine S.val hA (R.move rfl) rfl ?_; clear hA a; intro a hA
 refine S.val hA (R.conv Tryd.underlying24 Tryd.underlying3 rfl) rfl ?_; clear hA a; intro a hA
 refine S.val hA (R.remI rfl rfl rfl ⟨u64_nn _, by decide⟩) rfl ?_; clear hA a; intro a hA
 obtain ⟨n1, hn2, en3⟩ := umod_ex slots 3 (by decide)
 refine S.val hA (R.to (v := .int .i64 (n1 : Int)) (R.conv Tryd.underlying3 Tryd.underlying24 rfl) (congrArg (Value.int .i64) en3)) rfl ?_; clear hA a; intro a hA
 refine S.val hA (R.addI rfl rfl (r := 1 + ((n1 : Int))) rfl (by omega)) rfl ?_; clear hA a; intro a hA
 refine S.val hA (R.assign rfl) rfl ?_; clear hA a; intro a hA
 refine S.done ?_
 obtain ⟨n, hn⟩ : ∃ n : Int, n = 1 + ((n1 : Int)) := ⟨_, rfl⟩
 rw [← hn] at hA
 replace hA : St 153 [(0, _), (1, _)] a := hA.sub ((.cons rfl (.cons rfl .nil)))
 refine Ends.seq (Ends.region ?_)
 refine S.val hA (R.move rfl) rfl ?_; clear hA a; intro a hA
 refine S.call hA (R.callF Tryd.func14 rfl rfl rfl) rfl (pcells_ok n (by omega) _) ?_; clear hA a
 rintro e w1 ⟨rfl, rfl⟩
 refine ⟨.int .i64 (n + 1), rfl, fun a hA => ?_⟩
 refine S.call hA (R.callF Tryd.func13 rfl rfl rfl) rfl (new_ok (n + 1) (by omega) (by omega) _) ?_; clear hA a
 rintro e w2 ⟨m4, c5, rfl, hm4c5, hn⟩
 replace hM : Mem _ _ [memO m4 c5 ((List.replicate (n + 1).toNat 0)) 0 ⟨0, 0, 0, 0, false⟩] _ := hM.call hn; clear hn
 refine ⟨.tuple #[.pointer (some ⟨m4, 0, none⟩), .int .i64 0], rfl, fun a hA => ?_⟩
 refine S.val hA (R.move rfl) rfl ?_; clear hA a; intro a hA
 refine S.val hA (R.extract (v := .pointer (some ⟨m4, 0, none⟩)) rfl rfl) rfl ?_; clear hA a; intro a hA
 refine S.val hA (R.extract (v := .int .i64 0) rfl rfl) rfl ?_; clear hA a; intro a hA
 refine S.val hA (R.assign rfl) rfl ?_; clear hA a; intro a hA
 refine S.val hA (R.assign rfl) rfl ?_; clear hA a; intro a hA
 refine S.done ?_
 replace hA : St 153 [(0, _), (1, _), (5, _), (6, _)] a := hA.sub ((.cons rfl (.cons rfl (.cons rfl (.cons rfl .nil)))))
 refine Ends.seq (Ends.region ?_)
 refine S.val hA (R.move rfl) rfl ?_; clear hA a; intro a hA
 refine S.val hA (R.move rfl) rfl ?_; clear hA a; intro a hA
 refine S.call hA (R.callF Tryd.func15 rfl rfl rfl) rfl (pnew_ok m4 c5 ((List.replicate (n + 1).toNat 0)) 0 ⟨0, 0, 0, 0, false⟩ hm4c5 0 n 3 (by rw [List.length_replicate]; omega) (by omega) (by omega) (by rw [List.length_replicate]; omega) (by omega) _ (hM.hereN 1)) ?_; clear hA a
 rintro e w3 ⟨p6, nb7, ob8, op9, rfl, hn⟩
 replace hM : Mem _ _ [pt p6 #[.pointer (some ⟨m4, 0, none⟩), .int .i64 0, .slice (some ⟨nb7, 0, none⟩) n.toNat n.toNat, .slice (some ⟨ob8, 0, none⟩) 3 3] 73, pt nb7 ((madeCells #[.slice none 0 0, .int .i64 0] (n.toNat * 2))) 115, pt ob8 ((vals (nils 3))) 22, memO m4 c5 ((linkL ((List.replicate (n + 1).toNat 0)) 0 n n.toNat)) (0 + 1 + n) op9] _ := hM.callL 1 hn; clear hn
 refine ⟨.tuple #[.pointer (some ⟨p6, 0, none⟩), .int .i64 0], rfl, fun a hA => ?_⟩
 refine S.val hA (R.move rfl) rfl ?_; clear hA a; intro a hA
 refine S.val hA (R.extract (v := .pointer (some ⟨p6, 0, none⟩)) rfl rfl) rfl ?_; clear hA a; intro a hA
 refine S.val hA (R.extract (v := .int .i64 0) rfl rfl) rfl ?_; clear hA a; intro a hA
 refine S.val hA (R.assign rfl) rfl ?_; clear hA a; intro a hA
 refine S.val hA (R.assign rfl) rfl ?_; clear hA a; intro a hA
 refine S.done ?_
 replace hA : St 153 [(0, _), (1, _), (6, _), (7, _), (8, _)] a := hA.sub ((.cons rfl (.cons rfl (.cons rfl (.cons rfl (.cons rfl .nil))))))
 refine Ends.seq (Ends.seq (Ends.region ?_))
 refine S.call hA (R.callF Tryd.func6 rfl rfl rfl) rfl (hists21 _ (tab_below htab (Mem.trans0 hbs hM.nilL))) ?_; clear hA a
 rintro e w4 ⟨rfl, hb⟩
 replace hM := hM.callB hb; clear hb
 refine ⟨.bool true, rfl, fun a hA => ?_⟩
 refine S.val hA (R.not rfl) rfl ?_; clear hA a; intro a hA
 refine S.val hA (R.move rfl) rfl ?_; clear hA a; intro a hA
 refine S.valg (dj := 39) hA (by kernel_rfl) rfl (R.move rfl) rfl ?_; clear hA a; intro a hA
 refine S.valg (dj := 39) hA (by kernel_rfl) rfl (R.ff (R.neq rfl rfl) (by first | decide | simp | omega)) rfl ?_; clear hA a; intro a hA
 refine S.val hA (R.pickF rfl rfl) rfl ?_; clear hA a; intro a hA
 refine S.val hA (R.move rfl) rfl ?_; clear hA a; intro a hA
 refine S.valg (dj := 43) hA (by kernel_rfl) rfl (R.move rfl) rfl ?_; clear hA a; intro a hA
 refine S.valg (dj := 43) hA (by kernel_rfl) rfl (R.ff (R.neq rfl rfl) (by first | decide | simp | omega)) rfl ?_; clear hA a; intro a hA
 refine S.val hA (R.pickF rfl rfl) rfl ?_; clear hA a; intro a hA
 refine S.done ?_
 replace hA : St 153 [(0, _), (1, _), (7, _), (46, _)] a := hA.sub ((.cons rfl (.cons rfl (.cons rfl (.cons rfl .nil)))))
 refine Ends.condF hA rfl ?_
 refine Ends.skip (Ends.seq (Ends.region ?_))
 refine S.alloc hA hM info50 rfl rfl ?_; clear hA hM a; intro b10 w5 hb11 hM a hA
 replace hM : Mem _ _ [pt b10 #[.pointer none, .pointer none, .pointer none] 50, pt p6 #[.pointer (some ⟨m4, 0, none⟩), .int .i64 0, .slice (some ⟨nb7, 0, none⟩) n.toNat n.toNat, .slice (some ⟨ob8, 0, none⟩) 3 3] 73, pt nb7 ((madeCells #[.slice none 0 0, .int .i64 0] (n.toNat * 2))) 115, pt ob8 ((vals (nils 3))) 22, memO m4 c5 ((linkL ((List.replicate (n + 1).toNat 0)) 0 n n.toNat)) (0 + 1 + n) op9] _ := hM
 refine S.done ?_
 refine Ends.seq (Ends.region ?_)
 refine S.alloc hA hM info51 rfl rfl ?_; clear hA hM a; intro b12 w6 hb13 hM a hA
 replace hM : Mem _ _ [pt b12 #[.int .i64 0, .int .i64 0, .int .i64 0] 51, pt b10 #[.pointer none, .pointer none, .pointer none] 50, pt p6 #[.pointer (some ⟨m4, 0, none⟩), .int .i64 0, .slice (some ⟨nb7, 0, none⟩) n.toNat n.toNat, .slice (some ⟨ob8, 0, none⟩) 3 3] 73, pt nb7 ((madeCells #[.slice none 0 0, .int .i64 0] (n.toNat * 2))) 115, pt ob8 ((vals (nils 3))) 22, memO m4 c5 ((linkL ((List.replicate (n + 1).toNat 0)) 0 n n.toNat)) (0 + 1 + n) op9] _ := hM
 refine S.done ?_
 refine Ends.seq (Ends.region ?_)
 refine S.alloc hA hM info51 rfl rfl ?_; clear hA hM a; intro b14 w7 hb15 hM a hA
 replace hM : Mem _ _ [pt b14 #[.int .i64 0, .int .i64 0, .int .i64 0] 51, pt b12 #[.int .i64 0, .int .i64 0, .int .i64 0] 51, pt b10 #[.pointer none, .pointer none, .pointer none] 50, pt p6 #[.pointer (some ⟨m4, 0, none⟩), .int .i64 0, .slice (some ⟨nb7, 0, none⟩) n.toNat n.toNat, .slice (some ⟨ob8, 0, none⟩) 3 3] 73, pt nb7 ((madeCells #[.slice none 0 0, .int .i64 0] (n.toNat * 2))) 115, pt ob8 ((vals (nils 3))) 22, memO m4 c5 ((linkL ((List.replicate (n + 1).toNat 0)) 0 n n.toNat)) (0 + 1 + n) op9] _ := hM
 refine S.done ?_
 refine Ends.seq (Ends.region ?_)
 refine S.val hA (R.build (cells := #[.int .i64 0, .slice none 0 0]) rfl (by kernel_rfl)) rfl ?_; clear hA a; intro a hA
 refine S.box hA hM rfl rfl ?_; clear hA hM a; intro b16 w8 hb17 hM a hA
 replace hM : Mem _ _ [pt b16 #[.int .i64 0, .slice none 0 0] 39, pt b14 #[.int .i64 0, .int .i64 0, .int .i64 0] 51, pt b12 #[.int .i64 0, .int .i64 0, .int .i64 0] 51, pt b10 #[.pointer none, .pointer none, .pointer none] 50, pt p6 #[.pointer (some ⟨m4, 0, none⟩), .int .i64 0, .slice (some ⟨nb7, 0, none⟩) n.toNat n.toNat, .slice (some ⟨ob8, 0, none⟩) 3 3] 73, pt nb7 ((madeCells #[.slice none 0 0, .int .i64 0] (n.toNat * 2))) 115, pt ob8 ((vals (nils 3))) 22, memO m4 c5 ((linkL ((List.replicate (n + 1).toNat 0)) 0 n n.toNat)) (0 + 1 + n) op9] _ := hM
 refine S.val hA (R.assign rfl) rfl ?_; clear hA a; intro a hA
 refine S.done ?_
 refine Ends.seq (Ends.region ?_)
 refine S.val hA (R.assign rfl) rfl ?_; clear hA a; intro a hA
 refine S.done ?_
 refine Ends.seq (Ends.seq (Ends.region ?_))
 refine S.val hA (R.assign rfl) rfl ?_; clear hA a; intro a hA
 refine S.done ?_
 refine Ends.block ?_
 replace hM := hM.ownNil 3 1
 replace hM : Mem _ _ [own 3 1 (.slice none (((iof 0 0)).length) 0) (((iof 0 0)).length) (((iof 0 0)).map (Value.int .i64)), pt b16 #[.int .i64 0, .slice none 0 0] 39, pt b14 #[.int .i64 0, .int .i64 0, .int .i64 0] 51, pt b12 #[.int .i64 0, .int .i64 0, .int .i64 0] 51, pt b10 #[.pointer none, .pointer none, .pointer none] 50, pt p6 #[.pointer (some ⟨m4, 0, none⟩), .int .i64 0, .slice (some ⟨nb7, 0, none⟩) n.toNat n.toNat, .slice (some ⟨ob8, 0, none⟩) 3 3] 73, pt nb7 ((madeCells #[.slice none 0 0, .int .i64 0] (n.toNat * 2))) 115, pt ob8 ((vals (nils 3))) 22, memO m4 c5 ((linkL ((List.replicate (n + 1).toNat 0)) 0 n n.toNat)) (0 + 1 + n) op9] _ := hM
 replace hA : St 153 [(0, .int .i64 n), (1, .slice ay Pk.length cy), (7, .pointer (some ⟨p6, 0, none⟩)), (9, .pointer (some ⟨b10, 0, none⟩)), (10, .pointer (some ⟨b12, 0, none⟩)), (11, .pointer (some ⟨b14, 0, none⟩)), (12, .pointer (some ⟨b16, 0, none⟩)), (13, .slice none (((iof 0 0)).length) 0), (14, .int .i64 0), (46, .bool false), (47, .agg #[.int .i64 0, .slice none 0 0]), (48, .pointer (some ⟨b16, 0, none⟩))] a := hA.sub ((.cons rfl (.cons rfl (.cons rfl (.cons rfl (.cons rfl (.cons rfl (.cons rfl (.cons rfl (.cons rfl (.cons rfl (.cons rfl (.cons rfl .nil)))))))))))))
 refine Ends.loop (σ := Nat × Option Addr × Nat) (fun (k, sa, sc) (a : Act) (wv : World) => St 153 [(0, .int .i64 n), (1, .slice ay Pk.length cy), (7, .pointer (some ⟨p6, 0, none⟩)), (9, .pointer (some ⟨b10, 0, none⟩)), (10, .pointer (some ⟨b12, 0, none⟩)), (11, .pointer (some ⟨b14, 0, none⟩)), (12, .pointer (some ⟨b16, 0, none⟩)), (13, .slice sa ((iof 0 k).length) sc), (14, .int .i64 ((k : Int)))] a ∧ Mem w nof [own 3 1 (.slice sa (((iof 0 k)).length) sc) (((iof 0 k)).length) (((iof 0 k)).map (Value.int .i64)), pt b16 #[.int .i64 0, .slice none 0 0] 39, pt b14 #[.int .i64 0, .int .i64 0, .int .i64 0] 51, pt b12 #[.int .i64 0, .int .i64 0, .int .i64 0] 51, pt b10 #[.pointer none, .pointer none, .pointer none] 50, pt p6 #[.pointer (some ⟨m4, 0, none⟩), .int .i64 0, .slice (some ⟨nb7, 0, none⟩) n.toNat n.toNat, .slice (some ⟨ob8, 0, none⟩) 3 3] 73, pt nb7 ((madeCells #[.slice none 0 0, .int .i64 0] (n.toNat * 2))) 115, pt ob8 ((vals (nils 3))) 22, memO m4 c5 ((linkL ((List.replicate (n + 1).toNat 0)) 0 n n.toNat)) (0 + 1 + n) op9] wv ∧ (k ≤ n.toNat)) (fun (k, sa, sc) => n.toNat - k) ((0, none, 0)) ⟨hA.sub ((.cons rfl (.cons rfl (.cons rfl (.cons rfl (.cons rfl (.cons rfl (.cons rfl (.cons rfl (.cons rfl .nil)))))))))), hM, (Nat.zero_le _)⟩ ?_
 clear hA hM a
 rintro ⟨k, sa, sc⟩ a w9 ⟨hA, hM, hkn⟩ hNext
 refine Ends.seq (Ends.seq (Ends.region ?_))
 refine S.val hA (R.move rfl) rfl ?_; clear hA a; intro a hA
 refine S.val hA (R.move rfl) rfl ?_; clear hA a; intro a hA
 refine S.val hA (R.lss rfl rfl) rfl ?_; clear hA a; intro a hA
 refine S.done ?_
 refine Ends.ite hA rfl (fun hc18 => ?_) (fun hc18 => ?_)
 ·
  have hil9 := iof_len k 0
  refine Ends.skip (Ends.seq (Ends.block (Ends.region ?_)))
  refine S.val hA (R.move rfl) rfl ?_; clear hA a; intro a hA
  refine S.val hA (R.move rfl) rfl ?_; clear hA a; intro a hA
  refine S.buildSl (cells := #[.int .i64 ((k : Int))]) hA hM Tryd.underlying22 info3 rfl rfl rfl rfl (by kernel_rfl) rfl ?_; clear hA hM a; intro b19 w10 hb20 hM a hA
  replace hM : Mem _ _ [pt b19 #[.int .i64 ((k : Int))] 3, own 3 1 (.slice sa (((iof 0 k)).length) sc) (((iof 0 k)).length) (((iof 0 k)).map (Value.int .i64)), pt b16 #[.int .i64 0, .slice none 0 0] 39, pt b14 #[.int .i64 0, .int .i64 0, .int .i64 0] 51, pt b12 #[.int .i64 0, .int .i64 0, .int .i64 0] 51, pt b10 #[.pointer none, .pointer none, .pointer none] 50, pt p6 #[.pointer (some ⟨m4, 0, none⟩), .int .i64 0, .slice (some ⟨nb7, 0, none⟩) n.toNat n.toNat, .slice (some ⟨ob8, 0, none⟩) 3 3] 73, pt nb7 ((madeCells #[.slice none 0 0, .int .i64 0] (n.toNat * 2))) 115, pt ob8 ((vals (nils 3))) 22, memO m4 c5 ((linkL ((List.replicate (n + 1).toNat 0)) 0 n n.toNat)) (0 + 1 + n) op9] _ := hM
  refine S.append (k := 1) (k2 := 0) hA hM rfl rfl Tryd.underlying22 info3 rfl rfl rfl rfl rfl rfl rfl rfl rfl (by first | (show (_ + 1) * 8 ≤ (140737488355328 : Nat); omega) | (unfold maxLen; omega)) (by first | (show (_ + 1) * 8 ≤ (140737488355328 : Nat); omega) | (unfold maxLen; omega)) rfl ?_; clear hA hM a; intro a21 c22 w11 hM a hA
  replace hM : Mem _ _ [pt b19 #[.int .i64 ((k : Int))] 3, own 3 1 (.slice a21 ((((iof 0 k)).length) + 1) c22) ((((iof 0 k)).length) + 1) (((iof 0 k)).map (Value.int .i64) ++ [.int .i64 ((k : Int))]), pt b16 #[.int .i64 0, .slice none 0 0] 39, pt b14 #[.int .i64 0, .int .i64 0, .int .i64 0] 51, pt b12 #[.int .i64 0, .int .i64 0, .int .i64 0] 51, pt b10 #[.pointer none, .pointer none, .pointer none] 50, pt p6 #[.pointer (some ⟨m4, 0, none⟩), .int .i64 0, .slice (some ⟨nb7, 0, none⟩) n.toNat n.toNat, .slice (some ⟨ob8, 0, none⟩) 3 3] 73, pt nb7 ((madeCells #[.slice none 0 0, .int .i64 0] (n.toNat * 2))) 115, pt ob8 ((vals (nils 3))) 22, memO m4 c5 ((linkL ((List.replicate (n + 1).toNat 0)) 0 n n.toNat)) (0 + 1 + n) op9] _ := hM
  have hl23 : (((iof 0 k)).length) + 1 = ((iof 0 k) ++ [(k : Int)]).length := by simp
  rw [hl23, show ((iof 0 k)).map (Value.int .i64) ++ [.int .i64 ((k : Int))] = ((iof 0 k) ++ [(k : Int)]).map (Value.int .i64) by simp] at hM; rw [hl23] at hA
  clear hl23
  replace hM := hM.drop 0
  replace hM : Mem _ _ [own 3 1 (.slice a21 ((((iof 0 k) ++ [(k : Int)])).length) c22) ((((iof 0 k) ++ [(k : Int)])).length) ((((iof 0 k) ++ [(k : Int)])).map (Value.int .i64)), pt b16 #[.int .i64 0, .slice none 0 0] 39, pt b14 #[.int .i64 0, .int .i64 0, .int .i64 0] 51, pt b12 #[.int .i64 0, .int .i64 0, .int .i64 0] 51, pt b10 #[.pointer none, .pointer none, .pointer none] 50, pt p6 #[.pointer (some ⟨m4, 0, none⟩), .int .i64 0, .slice (some ⟨nb7, 0, none⟩) n.toNat n.toNat, .slice (some ⟨ob8, 0, none⟩) 3 3] 73, pt nb7 ((madeCells #[.slice none 0 0, .int .i64 0] (n.toNat * 2))) 115, pt ob8 ((vals (nils 3))) 22, memO m4 c5 ((linkL ((List.replicate (n + 1).toNat 0)) 0 n n.toNat)) (0 + 1 + n) op9] _ := hM
  refine S.val hA (R.assign rfl) rfl ?_; clear hA a; intro a hA
  refine S.done ?_
  replace hA : St 153 [(0, _), (1, _), (7, _), (9, _), (10, _), (11, _), (12, _), (13, _), (14, _)] a := hA.sub ((.cons rfl (.cons rfl (.cons rfl (.cons rfl (.cons rfl (.cons rfl (.cons rfl (.cons rfl (.cons rfl .nil))))))))))
  refine Ends.inBlock (Ends.region ?_)
  refine S.val hA (R.move rfl) rfl ?_; clear hA a; intro a hA
  refine S.val hA (R.addI rfl rfl (r := ((k : Int)) + 1) rfl (by omega)) rfl ?_; clear hA a; intro a hA
  refine S.val hA (R.assign rfl) rfl ?_; clear hA a; intro a hA
  refine S.done ?_
  replace hM := hM.front (k := 8) rfl
  replace hM := hM.front (k := 8) rfl
  replace hM := hM.front (k := 8) rfl
  replace hM := hM.front (k := 8) rfl
  replace hM := hM.front (k := 8) rfl
  replace hM := hM.front (k := 8) rfl
  replace hM := hM.front (k := 8) rfl
  replace hM := hM.front (k := 8) rfl
  replace hM := hM.front (k := 8) rfl
  replace hM := hM.firstN 9
  have hio : iof 0 k ++ [(k : Int)] = iof 0 (k + 1) := by have := iof_snoc k 0; rwa [Nat.zero_add] at this
  rw [hio] at hM hA
  exact hNext ((k + 1, a21, c22)) _ _ ((by show n.toNat - (k + 1) < n.toNat - k; omega)) ⟨hA.sub ((.cons rfl (.cons rfl (.cons rfl (.cons rfl (.cons rfl (.cons rfl (.cons rfl (.cons rfl (.cons rfl .nil)))))))))), hM, (by omega)⟩
 ·
  refine Ends.exit rfl ?_
  replace hA : St 153 [(0, _), (1, _), (7, _), (9, _), (10, _), (11, _), (12, _), (13, _)] a := hA.sub ((.cons rfl (.cons rfl (.cons rfl (.cons rfl (.cons rfl (.cons rfl (.cons rfl (.cons rfl .nil)))))))))
  refine Ends.seq (Ends.seq ?_)
  have hkn2 : k = n.toNat := by omega
  subst hkn2
  replace hM : Mem _ _ [own 3 1 (.slice sa (((iof 0 n.toNat)).length) sc) (((iof 0 n.toNat)).length) (((iof 0 n.toNat)).map (Value.int .i64)), pt b16 #[.int .i64 0, .slice none 0 0] 39, pt b14 #[.int .i64 0, .int .i64 0, .int .i64 0] 51, pt b12 #[.int .i64 0, .int .i64 0, .int .i64 0] 51, pt b10 #[.pointer none, .pointer none, .pointer none] 50, pt p6 #[.pointer (some ⟨m4, 0, none⟩), .int .i64 0, .slice (some ⟨nb7, 0, none⟩) n.toNat n.toNat, .slice (some ⟨ob8, 0, none⟩) 3 3] 73, pt nb7 ((madeCells #[.slice none 0 0, .int .i64 0] (n.toNat * 2))) 115, pt ob8 ((vals (nils 3))) 22, memO m4 c5 ((linkL ((List.replicate (n + 1).toNat 0)) 0 n n.toNat)) (0 + 1 + n) op9] _ := hM
  refine Ends.region ?_
  refine S.val hA (R.assign rfl) rfl ?_; clear hA a; intro a hA
  refine S.done ?_
  refine Ends.block ?_
  replace hM := ((hM.owNone).waNone p6).ownNil 64 5
  replace hM : Mem _ _ [own 64 5 (.slice none ((([] : List HEnt)).length) 0) ((([] : List HEnt)).length) (entV (([] : List HEnt))), bundle ((([none, none, none] : List (Option WA))).map (waC p6)), bundle ((([(none, 0), (none, 0), (none, 0)] : List Ow0)).map ow0C), own 3 1 (.slice sa (((iof 0 n.toNat)).length) sc) (((iof 0 n.toNat)).length) (((iof 0 n.toNat)).map (Value.int .i64)), pt b16 #[.int .i64 0, .slice none 0 0] 39, pt b14 #[.int .i64 0, .int .i64 0, .int .i64 0] 51, pt b12 #[.int .i64 0, .int .i64 0, .int .i64 0] 51, pt b10 #[.pointer none, .pointer none, .pointer none] 50, pt p6 #[.pointer (some ⟨m4, 0, none⟩), .int .i64 0, .slice (some ⟨nb7, 0, none⟩) n.toNat n.toNat, .slice (some ⟨ob8, 0, none⟩) 3 3] 73, pt nb7 ((madeCells #[.slice none 0 0, .int .i64 0] (n.toNat * 2))) 115, pt ob8 ((vals (nils 3))) 22, memO m4 c5 ((linkL ((List.replicate (n + 1).toNat 0)) 0 n n.toNat)) (0 + 1 + n) op9] _ := hM
  replace hM := hM.front (k := 3) rfl
  replace hM := hM.front (k := 2) rfl
  replace hM := hM.front (k := 11) rfl
  replace hM := hM.front (k := 4) rfl
  replace hM := hM.front (k := 11) rfl
  replace hM := hM.front (k := 10) rfl
  replace hM := hM.front (k := 6) rfl
  replace hM := hM.front (k := 7) rfl
  replace hM := hM.front (k := 8) rfl
  replace hM := hM.front (k := 9) rfl
  replace hM := hM.front (k := 10) rfl
  replace hM := hM.firstN 11
  replace hM : Mem _ _ [pt b10 ((vals ((([none, none, none] : List (Option WA))).map waV))) 50, pt b12 ((ints (([0, 0, 0] : List Int)))) 51, pt b14 ((ints (([0, 0, 0] : List Int)))) 51, pt b16 #[.int .i64 (((0 : Nat) : Int)), .slice none ((([] : List HEnt)).length) 0] 39, own 64 5 (.slice none ((([] : List HEnt)).length) 0) ((([] : List HEnt)).length) (entV (([] : List HEnt))), pt p6 #[.pointer (some ⟨m4, 0, none⟩), .int .i64 0, .slice (some ⟨nb7, 0, none⟩) n.toNat n.toNat, .slice (some ⟨ob8, 0, none⟩) 3 3] 73, pt ob8 ((vals ((([(none, 0), (none, 0), (none, 0)] : List Ow0)).map ow0V))) 22, bundle ((([(none, 0), (none, 0), (none, 0)] : List Ow0)).map ow0C), memO m4 c5 ((linkL ((List.replicate (n + 1).toNat 0)) 0 n n.toNat)) (0 + 1 + n) op9, bundle ((([none, none, none] : List (Option WA))).map (waC p6)), own 3 1 (.slice sa (((iof 0 n.toNat)).length) sc) (((iof 0 n.toNat)).length) (((iof 0 n.toNat)).map (Value.int .i64))] _ := hM
  refine Ends.loop (σ := Nat × List Ow0 × List (Option WA) × List Int × List Int × List Int × Int × CellOp × List Int × List Int × List Nat × Option Addr × Nat × List HEnt × Nat) (fun (k, gs, ws, num, bgl, l, s, op, H, xs, ord, la, lc, es, now) (a : Act) (wv : World) => St 153 [(0, .int .i64 n), (1, .slice ay Pk.length cy), (7, .pointer (some ⟨p6, 0, none⟩)), (9, .pointer (some ⟨b10, 0, none⟩)), (10, .pointer (some ⟨b12, 0, none⟩)), (11, .pointer (some ⟨b14, 0, none⟩)), (12, .pointer (some ⟨b16, 0, none⟩)), (13, .slice sa (((iof 0 n.toNat)).length) sc), (15, .int .i64 ((k : Int)))] a ∧ Mem w nof [pt b10 ((vals (ws.map waV))) 50, pt b12 ((ints num)) 51, pt b14 ((ints bgl)) 51, pt b16 #[.int .i64 ((now : Int)), .slice la es.length lc] 39, own 64 5 (.slice la es.length lc) es.length (entV es), pt p6 #[.pointer (some ⟨m4, 0, none⟩), .int .i64 0, .slice (some ⟨nb7, 0, none⟩) n.toNat n.toNat, .slice (some ⟨ob8, 0, none⟩) 3 3] 73, pt ob8 ((vals (gs.map ow0V))) 22, bundle (gs.map ow0C), memO m4 c5 l s op, bundle (ws.map (waC p6)), own 3 1 (.slice sa (((iof 0 n.toNat)).length) sc) (((iof 0 n.toNat)).length) (((iof 0 n.toNat)).map (Value.int .i64))] wv ∧ (k ≤ 60) ∧ (k ≤ Pk.length) ∧ (gs.length = 3) ∧ (bgl.length = 3) ∧ (∀ j : Nat, j < 3 → 0 ≤ bgl.getD j 0) ∧ (0 ≤ s ∧ s ≤ 1000 + k) ∧ (now ≤ k) ∧ (HPI n k l H xs ws num es now ord)) (fun (k, gs, ws, num, bgl, l, s, op, H, xs, ord, la, lc, es, now) => 60 - k) ((0, [(none, 0), (none, 0), (none, 0)], [none, none, none], [0, 0, 0], [0, 0, 0], (linkL ((List.replicate (n + 1).toNat 0)) 0 n n.toNat), 0 + 1 + n, op9, List.replicate n.toNat (-1), (List.range' 0 n.toNat).map Int.ofNat, [], none, 0, [], 0)) ⟨hA.sub ((.cons rfl (.cons rfl (.cons rfl (.cons rfl (.cons rfl (.cons rfl (.cons rfl (.cons rfl (.cons rfl .nil)))))))))), hM, (Nat.zero_le _), (Nat.zero_le _), rfl, rfl, (fun j hj => by match j, hj with | 0, _ => decide | 1, _ => decide | 2, _ => decide), (by omega), (Nat.zero_le _), (hp_new (by omega) rfl)⟩ ?_
  clear hA hM a
  rintro ⟨k, gs, ws, num, bgl, l, s, op, H, xs, ord, la, lc, es, now⟩ a w12 ⟨hA, hM, hk60, hkp, hgl, hbl, hbp, hs9, hnk, hP⟩ hNext1
  refine Ends.seq (Ends.seq ?_)
  refine Ends.cut (fun (a : Act) (wv : World) => St 153 [(0, .int .i64 n), (1, .slice ay Pk.length cy), (7, .pointer (some ⟨p6, 0, none⟩)), (9, .pointer (some ⟨b10, 0, none⟩)), (10, .pointer (some ⟨b12, 0, none⟩)), (11, .pointer (some ⟨b14, 0, none⟩)), (12, .pointer (some ⟨b16, 0, none⟩)), (13, .slice sa (((iof 0 n.toNat)).length) sc), (15, .int .i64 ((k : Int))), (65, .bool (decide ((((k : Int)) < ((Pk.length : Int)) ∧ ((k : Int)) < 60))))] a ∧ Mem w nof [pt b10 ((vals (ws.map waV))) 50, pt b12 ((ints num)) 51, pt b14 ((ints bgl)) 51, pt b16 #[.int .i64 ((now : Int)), .slice la es.length lc] 39, own 64 5 (.slice la es.length lc) es.length (entV es), pt p6 #[.pointer (some ⟨m4, 0, none⟩), .int .i64 0, .slice (some ⟨nb7, 0, none⟩) n.toNat n.toNat, .slice (some ⟨ob8, 0, none⟩) 3 3] 73, pt ob8 ((vals (gs.map ow0V))) 22, bundle (gs.map ow0C), memO m4 c5 l s op, bundle (ws.map (waC p6)), own 3 1 (.slice sa (((iof 0 n.toNat)).length) sc) (((iof 0 n.toNat)).length) (((iof 0 n.toNat)).map (Value.int .i64))] wv) ?_ (fun k2 hJ => ?_)
  ·
   clear hA hM a; rintro a w13 ⟨hA, hM⟩
   refine Ends.ite hA rfl (fun hc24 => ?_) (fun hc24 => ?_)
   ·
    refine Ends.skip (Ends.seq (Ends.block (Ends.seq (Ends.region ?_))))
    refine S.val hA (R.move rfl) rfl ?_; clear hA a; intro a hA
    refine S.val hA (R.move rfl) rfl ?_; clear hA a; intro a hA
    refine S.val hA (R.idxI hy (j := k) sl22 rfl rfl (by omega) (rfl)) rfl ?_; clear hA a; intro a hA
    refine S.val hA (R.loadI (hy.mem hM) sz3 rfl (by omega)) rfl ?_; clear hA a; intro a hA
    refine S.val hA (R.conv Tryd.underlying24 Tryd.underlying3 rfl) rfl ?_; clear hA a; intro a hA
    refine S.val hA (R.remI rfl rfl rfl ⟨u64_nn _, by decide⟩) rfl ?_; clear hA a; intro a hA
    obtain ⟨n25, hn26, en27⟩ := umod_ex (Pk.getD k 0) 3 (by decide)
    refine S.val hA (R.to (v := .int .i64 (n25 : Int)) (R.conv Tryd.underlying3 Tryd.underlying24 rfl) (congrArg (Value.int .i64) en27)) rfl ?_; clear hA a; intro a hA
    refine S.val hA (R.assign rfl) rfl ?_; clear hA a; intro a hA
    refine S.done ?_
    replace hA : St 153 [(0, _), (1, _), (7, _), (9, _), (10, _), (11, _), (12, _), (13, _), (15, _), (16, _)] a := hA.sub ((.cons rfl (.cons rfl (.cons rfl (.cons rfl (.cons rfl (.cons rfl (.cons rfl (.cons rfl (.cons rfl (.cons rfl .nil)))))))))))
    refine Ends.seq (Ends.seq ?_)
    by_cases hs28 : ws[n25]? = some none
    ·
     replace hM := hM.front (k := 9) rfl
     have hwl := hP.wl
     have hnl := hP.nl
     have hel := hP.el
     have hwa := hs28
     replace hM := (hM.openB hwa).drop 0
     replace hM : Mem _ _ [bundle ((ws.eraseIdx n25).map (waC p6)), pt b10 ((vals (ws.map waV))) 50, pt b12 ((ints num)) 51, pt b14 ((ints bgl)) 51, pt b16 #[.int .i64 ((now : Int)), .slice la es.length lc] 39, own 64 5 (.slice la es.length lc) es.length (entV es), pt p6 #[.pointer (some ⟨m4, 0, none⟩), .int .i64 0, .slice (some ⟨nb7, 0, none⟩) n.toNat n.toNat, .slice (some ⟨ob8, 0, none⟩) 3 3] 73, pt ob8 ((vals (gs.map ow0V))) 22, bundle (gs.map ow0C), memO m4 c5 l s op, own 3 1 (.slice sa (((iof 0 n.toNat)).length) sc) (((iof 0 n.toNat)).length) (((iof 0 n.toNat)).map (Value.int .i64))] _ := hM
     refine Ends.region ?_
     refine S.val hA (R.move rfl) rfl ?_; clear hA a; intro a hA
     refine S.val hA (R.indexAddrA (q := n25) ar50 rfl rfl (by omega) (by omega)) rfl ?_; clear hA a; intro a hA
     refine S.val hA (R.load sz49 rfl (hM.cell (k := 1) rfl (vals_at _ _ _ (waV_at hwa)))) rfl ?_; clear hA a; intro a hA
     refine S.val hA (R.eqlNil Tryd.underlying49 rfl rfl) rfl ?_; clear hA a; intro a hA
     refine S.done ?_
     refine Ends.condT hA rfl ?_
     refine Ends.seq (Ends.seq (Ends.region ?_))
     refine S.val hA (R.move rfl) rfl ?_; clear hA a; intro a hA
     refine S.val hA (R.indexAddrA (q := n25) ar51 rfl rfl (by omega) (by omega)) rfl ?_; clear hA a; intro a hA
     refine S.val hA (R.load sz3 rfl (hM.cell (k := 3) rfl (ints_getD bgl _ (by omega)))) rfl ?_; clear hA a; intro a hA
     refine S.val hA (R.geq rfl rfl) rfl ?_; clear hA a; intro a hA
     refine S.done ?_
     replace hA : St 153 [(0, _), (1, _), (7, _), (9, _), (10, _), (11, _), (12, _), (13, _), (15, _), (16, _), (82, _)] a := hA.sub ((.cons rfl (.cons rfl (.cons rfl (.cons rfl (.cons rfl (.cons rfl (.cons rfl (.cons rfl (.cons rfl (.cons rfl (.cons rfl .nil))))))))))))
     refine Ends.ite hA rfl (fun hc29 => ?_) (fun hc29 => ?_)
     ·
      refine Ends.exit rfl ?_
      refine Ends.region ?_
      refine S.val hA (R.move rfl) rfl ?_; clear hA a; intro a hA
      refine S.val hA (R.addI rfl rfl (r := ((k : Int)) + 1) rfl (by omega)) rfl ?_; clear hA a; intro a hA
      refine S.val hA (R.assign rfl) rfl ?_; clear hA a; intro a hA
      refine S.done ?_
      replace hA : St 153 [(0, _), (1, _), (7, _), (9, _), (10, _), (11, _), (12, _), (13, _), (15, _)] a := hA.sub ((.cons rfl (.cons rfl (.cons rfl (.cons rfl (.cons rfl (.cons rfl (.cons rfl (.cons rfl (.cons rfl .nil))))))))))
      replace hM := hM.consNo (c := emp) trivial (fun _ h => h)
      replace hM : Mem _ _ [emp, bundle ((ws.eraseIdx n25).map (waC p6)), pt b10 ((vals (ws.map waV))) 50, pt b12 ((ints num)) 51, pt b14 ((ints bgl)) 51, pt b16 #[.int .i64 ((now : Int)), .slice la es.length lc] 39, own 64 5 (.slice la es.length lc) es.length (entV es), pt p6 #[.pointer (some ⟨m4, 0, none⟩), .int .i64 0, .slice (some ⟨nb7, 0, none⟩) n.toNat n.toNat, .slice (some ⟨ob8, 0, none⟩) 3 3] 73, pt ob8 ((vals (gs.map ow0V))) 22, bundle (gs.map ow0C), memO m4 c5 l s op, own 3 1 (.slice sa (((iof 0 n.toNat)).length) sc) (((iof 0 n.toNat)).length) (((iof 0 n.toNat)).map (Value.int .i64))] _ := hM
      replace hM := hM.front (k := 1) rfl
      replace hM := hM.front (k := 1) rfl
      replace hM : Mem _ _ (waC p6 (none) :: bundle ((ws.eraseIdx n25).map (waC p6)) :: [pt b10 ((vals (ws.map waV))) 50, pt b12 ((ints num)) 51, pt b14 ((ints bgl)) 51, pt b16 #[.int .i64 ((now : Int)), .slice la es.length lc] 39, own 64 5 (.slice la es.length lc) es.length (entV es), pt p6 #[.pointer (some ⟨m4, 0, none⟩), .int .i64 0, .slice (some ⟨nb7, 0, none⟩) n.toNat n.toNat, .slice (some ⟨ob8, 0, none⟩) 3 3] 73, pt ob8 ((vals (gs.map ow0V))) 22, bundle (gs.map ow0C), memO m4 c5 l s op, own 3 1 (.slice sa (((iof 0 n.toNat)).length) sc) (((iof 0 n.toNat)).length) (((iof 0 n.toNat)).map (Value.int .i64))]) _ := hM
      replace hM := hM.closeB (y := none) hwa
      rw [set_self hwa] at hM
      replace hM : Mem _ _ [bundle (ws.map (waC p6)), pt b10 ((vals (ws.map waV))) 50, pt b12 ((ints num)) 51, pt b14 ((ints bgl)) 51, pt b16 #[.int .i64 ((now : Int)), .slice la es.length lc] 39, own 64 5 (.slice la es.length lc) es.length (entV es), pt p6 #[.pointer (some ⟨m4, 0, none⟩), .int .i64 0, .slice (some ⟨nb7, 0, none⟩) n.toNat n.toNat, .slice (some ⟨ob8, 0, none⟩) 3 3] 73, pt ob8 ((vals (gs.map ow0V))) 22, bundle (gs.map ow0C), memO m4 c5 l s op, own 3 1 (.slice sa (((iof 0 n.toNat)).length) sc) (((iof 0 n.toNat)).length) (((iof 0 n.toNat)).map (Value.int .i64))] _ := hM
      replace hM := hM.front (k := 10) rfl
      replace hM := hM.front (k := 1) rfl
      replace hM := hM.front (k := 10) rfl
      replace hM := hM.front (k := 10) rfl
      replace hM := hM.front (k := 10) rfl
      replace hM := hM.front (k := 10) rfl
      replace hM := hM.front (k := 10) rfl
      replace hM := hM.front (k := 10) rfl
      replace hM := hM.front (k := 10) rfl
      replace hM := hM.front (k := 10) rfl
      replace hM := hM.front (k := 10) rfl
      replace hM := hM.firstN 11
      replace hM : Mem _ _ [pt b10 ((vals (ws.map waV))) 50, pt b12 ((ints num)) 51, pt b14 ((ints bgl)) 51, pt b16 #[.int .i64 ((now : Int)), .slice la es.length lc] 39, own 64 5 (.slice la es.length lc) es.length (entV es), pt p6 #[.pointer (some ⟨m4, 0, none⟩), .int .i64 0, .slice (some ⟨nb7, 0, none⟩) n.toNat n.toNat, .slice (some ⟨ob8, 0, none⟩) 3 3] 73, pt ob8 ((vals (gs.map ow0V))) 22, bundle (gs.map ow0C), memO m4 c5 l s op, bundle (ws.map (waC p6)), own 3 1 (.slice sa (((iof 0 n.toNat)).length) sc) (((iof 0 n.toNat)).length) (((iof 0 n.toNat)).map (Value.int .i64))] _ := hM
      exact hNext1 ((k + 1, gs, ws, num, bgl, l, s, op, H, xs, ord, la, lc, es, now)) _ _ ((by show 60 - (k + 1) < 60 - k; omega)) ⟨hA.sub ((.cons rfl (.cons rfl (.cons rfl (.cons rfl (.cons rfl (.cons rfl (.cons rfl (.cons rfl (.cons rfl .nil)))))))))), hM, (by omega), (by omega), (by first | exact hgl | (rw [List.length_set]; exact hgl)), (by first | exact hbl | (rw [List.length_set]; exact hbl)), hbp, (by omega), (by omega), (hP.more (by omega))⟩
     ·
      have hb0 := hbp n25 (by omega)
      refine Ends.skip (Ends.seq (Ends.region ?_))
      refine S.val hA (R.move rfl) rfl ?_; clear hA a; intro a hA
      refine S.val hA (R.indexAddrA (q := n25) ar51 rfl rfl (by omega) (by omega)) rfl ?_; clear hA a; intro a hA
      refine S.val hA (R.load sz3 rfl (hM.cell (k := 3) rfl (ints_getD bgl _ (by omega)))) rfl ?_; clear hA a; intro a hA
      refine S.val hA (R.addI rfl rfl (r := (bgl.getD n25 0) + 1) rfl (by omega)) rfl ?_; clear hA a; intro a hA
      refine S.val hA (R.indexAddrA (q := n25) ar51 rfl rfl (by omega) (by omega)) rfl ?_; clear hA a; intro a hA
      refine S.store (k := 3) hA hM sz3 rfl rfl rfl rfl (ints_getD bgl _ (by omega)) ?_; clear hM
      intro w14 hM
      rw [ints_set] at hM
      replace hM : Mem _ _ [bundle ((ws.eraseIdx n25).map (waC p6)), pt b10 ((vals (ws.map waV))) 50, pt b12 ((ints num)) 51, pt b14 ((ints (bgl.set n25 ((bgl.getD n25 0) + 1)))) 51, pt b16 #[.int .i64 ((now : Int)), .slice la es.length lc] 39, own 64 5 (.slice la es.length lc) es.length (entV es), pt p6 #[.pointer (some ⟨m4, 0, none⟩), .int .i64 0, .slice (some ⟨nb7, 0, none⟩) n.toNat n.toNat, .slice (some ⟨ob8, 0, none⟩) 3 3] 73, pt ob8 ((vals (gs.map ow0V))) 22, bundle (gs.map ow0C), memO m4 c5 l s op, own 3 1 (.slice sa (((iof 0 n.toNat)).length) sc) (((iof 0 n.toNat)).length) (((iof 0 n.toNat)).map (Value.int .i64))] _ := hM
      refine S.done ?_
      replace hA : St 153 [(0, _), (1, _), (7, _), (9, _), (10, _), (11, _), (12, _), (13, _), (15, _), (16, _)] a := hA.sub ((.cons rfl (.cons rfl (.cons rfl (.cons rfl (.cons rfl (.cons rfl (.cons rfl (.cons rfl (.cons rfl (.cons rfl .nil)))))))))))
      refine Ends.seq (Ends.region ?_)
      refine S.val hA (R.move rfl) rfl ?_; clear hA a; intro a hA
      refine S.val hA (R.move rfl) rfl ?_; clear hA a; intro a hA
      refine S.val hA (R.move rfl) rfl ?_; clear hA a; intro a hA
      refine S.call hA (R.callF Tryd.func16 rfl rfl rfl) rfl (ptake_ok p6 m4 nb7 ob8 n.toNat 3 0 ((n25 : Int)) (by omega) _ (hM.block (k := 6) rfl)) ?_; clear hA a
      rintro e w15 ⟨r30, rfl, hn⟩
      replace hM : Mem _ _ [pt r30 #[.pointer (some ⟨p6, 0, none⟩), .int .i64 ((n25 : Int)), .bool false, .int .i64 (-1), .int .i64 0, .int .i64 0, .int .i64 0] 76, bundle ((ws.eraseIdx n25).map (waC p6)), pt b10 ((vals (ws.map waV))) 50, pt b12 ((ints num)) 51, pt b14 ((ints (bgl.set n25 ((bgl.getD n25 0) + 1)))) 51, pt b16 #[.int .i64 ((now : Int)), .slice la es.length lc] 39, own 64 5 (.slice la es.length lc) es.length (entV es), pt p6 #[.pointer (some ⟨m4, 0, none⟩), .int .i64 0, .slice (some ⟨nb7, 0, none⟩) n.toNat n.toNat, .slice (some ⟨ob8, 0, none⟩) 3 3] 73, pt ob8 ((vals (gs.map ow0V))) 22, bundle (gs.map ow0C), memO m4 c5 l s op, own 3 1 (.slice sa (((iof 0 n.toNat)).length) sc) (((iof 0 n.toNat)).length) (((iof 0 n.toNat)).map (Value.int .i64))] _ := hM.call hn; clear hn
      refine ⟨.pointer (some ⟨r30, 0, none⟩), rfl, fun a hA => ?_⟩
      refine S.val hA (R.indexAddrA (q := n25) ar50 rfl rfl (by omega) (by omega)) rfl ?_; clear hA a; intro a hA
      refine S.store (k := 2) hA hM sz49 rfl rfl rfl rfl (vals_get _ _ (by first | omega | (rw [List.length_map]; omega) | (simp; omega))) ?_; clear hM
      intro w16 hM
      rw [vals_set] at hM
      replace hM : Mem _ _ [pt r30 #[.pointer (some ⟨p6, 0, none⟩), .int .i64 ((n25 : Int)), .bool false, .int .i64 (-1), .int .i64 0, .int .i64 0, .int .i64 0] 76, bundle ((ws.eraseIdx n25).map (waC p6)), pt b10 ((vals (((ws.map waV)).set n25 (.pointer (some ⟨r30, 0, none⟩))))) 50, pt b12 ((ints num)) 51, pt b14 ((ints (bgl.set n25 ((bgl.getD n25 0) + 1)))) 51, pt b16 #[.int .i64 ((now : Int)), .slice la es.length lc] 39, own 64 5 (.slice la es.length lc) es.length (entV es), pt p6 #[.pointer (some ⟨m4, 0, none⟩), .int .i64 0, .slice (some ⟨nb7, 0, none⟩) n.toNat n.toNat, .slice (some ⟨ob8, 0, none⟩) 3 3] 73, pt ob8 ((vals (gs.map ow0V))) 22, bundle (gs.map ow0C), memO m4 c5 l s op, own 3 1 (.slice sa (((iof 0 n.toNat)).length) sc) (((iof 0 n.toNat)).length) (((iof 0 n.toNat)).map (Value.int .i64))] _ := hM
      refine S.done ?_
      replace hA : St 153 [(0, _), (1, _), (7, _), (9, _), (10, _), (11, _), (12, _), (13, _), (15, _), (16, _)] a := hA.sub ((.cons rfl (.cons rfl (.cons rfl (.cons rfl (.cons rfl (.cons rfl (.cons rfl (.cons rfl (.cons rfl (.cons rfl .nil)))))))))))
      refine Ends.seq (Ends.region ?_)
      refine S.val hA (R.move rfl) rfl ?_; clear hA a; intro a hA
      refine S.val hA (R.move rfl) rfl ?_; clear hA a; intro a hA
      replace hM := hM.front (k := 6) rfl
      replace hM := hM.front (k := 6) rfl
      replace hM : Mem _ _ [pt b16 #[.int .i64 ((now : Int)), .slice la es.length lc] 39, own 64 5 (.slice la es.length lc) es.length (entV es), pt r30 #[.pointer (some ⟨p6, 0, none⟩), .int .i64 ((n25 : Int)), .bool false, .int .i64 (-1), .int .i64 0, .int .i64 0, .int .i64 0] 76, bundle ((ws.eraseIdx n25).map (waC p6)), pt b10 ((vals (((ws.map waV)).set n25 (.pointer (some ⟨r30, 0, none⟩))))) 50, pt b12 ((ints num)) 51, pt b14 ((ints (bgl.set n25 ((bgl.getD n25 0) + 1)))) 51, pt p6 #[.pointer (some ⟨m4, 0, none⟩), .int .i64 0, .slice (some ⟨nb7, 0, none⟩) n.toNat n.toNat, .slice (some ⟨ob8, 0, none⟩) 3 3] 73, pt ob8 ((vals (gs.map ow0V))) 22, bundle (gs.map ow0C), memO m4 c5 l s op, own 3 1 (.slice sa (((iof 0 n.toNat)).length) sc) (((iof 0 n.toNat)).length) (((iof 0 n.toNat)).map (Value.int .i64))] _ := hM
      refine S.call hA (R.callF Tryd.func10 rfl rfl rfl) rfl (begin21 b16 ((now : Int)) (by omega) la lc es (by omega) 2 (-1) _ (hM.hereN 2)) ?_; clear hA a
      rintro e w17 ⟨la31, lc32, rfl, hn⟩
      replace hM : Mem _ _ [pt b16 #[.int .i64 (((now : Int)) + 1), .slice la31 (((es ++ [(⟨2, -1, (now : Int), 0, false⟩ : HEnt)])).length) lc32] 39, own 64 5 (.slice la31 (((es ++ [(⟨2, -1, (now : Int), 0, false⟩ : HEnt)])).length) lc32) (((es ++ [(⟨2, -1, (now : Int), 0, false⟩ : HEnt)])).length) (entV ((es ++ [(⟨2, -1, (now : Int), 0, false⟩ : HEnt)]))), pt r30 #[.pointer (some ⟨p6, 0, none⟩), .int .i64 ((n25 : Int)), .bool false, .int .i64 (-1), .int .i64 0, .int .i64 0, .int .i64 0] 76, bundle ((ws.eraseIdx n25).map (waC p6)), pt b10 ((vals (((ws.map waV)).set n25 (.pointer (some ⟨r30, 0, none⟩))))) 50, pt b12 ((ints num)) 51, pt b14 ((ints (bgl.set n25 ((bgl.getD n25 0) + 1)))) 51, pt p6 #[.pointer (some ⟨m4, 0, none⟩), .int .i64 0, .slice (some ⟨nb7, 0, none⟩) n.toNat n.toNat, .slice (some ⟨ob8, 0, none⟩) 3 3] 73, pt ob8 ((vals (gs.map ow0V))) 22, bundle (gs.map ow0C), memO m4 c5 l s op, own 3 1 (.slice sa (((iof 0 n.toNat)).length) sc) (((iof 0 n.toNat)).length) (((iof 0 n.toNat)).map (Value.int .i64))] _ := hM.callL 2 hn; clear hn
      refine ⟨.int .i64 ((es.length : Int)), rfl, fun a hA => ?_⟩
      refine S.val hA (R.indexAddrA (q := n25) ar51 rfl rfl (by omega) (by omega)) rfl ?_; clear hA a; intro a hA
      refine S.store (k := 5) hA hM sz3 rfl rfl rfl rfl (ints_getD num _ (by omega)) ?_; clear hM
      intro w18 hM
      rw [ints_set] at hM
      replace hM : Mem _ _ [pt b16 #[.int .i64 (((now : Int)) + 1), .slice la31 (((es ++ [(⟨2, -1, (now : Int), 0, false⟩ : HEnt)])).length) lc32] 39, own 64 5 (.slice la31 (((es ++ [(⟨2, -1, (now : Int), 0, false⟩ : HEnt)])).length) lc32) (((es ++ [(⟨2, -1, (now : Int), 0, false⟩ : HEnt)])).length) (entV ((es ++ [(⟨2, -1, (now : Int), 0, false⟩ : HEnt)]))), pt r30 #[.pointer (some ⟨p6, 0, none⟩), .int .i64 ((n25 : Int)), .bool false, .int .i64 (-1), .int .i64 0, .int .i64 0, .int .i64 0] 76, bundle ((ws.eraseIdx n25).map (waC p6)), pt b10 ((vals (((ws.map waV)).set n25 (.pointer (some ⟨r30, 0, none⟩))))) 50, pt b12 ((ints (num.set n25 ((es.length : Int))))) 51, pt b14 ((ints (bgl.set n25 ((bgl.getD n25 0) + 1)))) 51, pt p6 #[.pointer (some ⟨m4, 0, none⟩), .int .i64 0, .slice (some ⟨nb7, 0, none⟩) n.toNat n.toNat, .slice (some ⟨ob8, 0, none⟩) 3 3] 73, pt ob8 ((vals (gs.map ow0V))) 22, bundle (gs.map ow0C), memO m4 c5 l s op, own 3 1 (.slice sa (((iof 0 n.toNat)).length) sc) (((iof 0 n.toNat)).length) (((iof 0 n.toNat)).map (Value.int .i64))] _ := hM
      refine S.done ?_
      replace hA : St 153 [(0, _), (1, _), (7, _), (9, _), (10, _), (11, _), (12, _), (13, _), (15, _), (16, _)] a := hA.sub ((.cons rfl (.cons rfl (.cons rfl (.cons rfl (.cons rfl (.cons rfl (.cons rfl (.cons rfl (.cons rfl (.cons rfl .nil)))))))))))
      refine Ends.exit rfl ?_
      refine Ends.region ?_
      refine S.val hA (R.move rfl) rfl ?_; clear hA a; intro a hA
      refine S.val hA (R.addI rfl rfl (r := ((k : Int)) + 1) rfl (by omega)) rfl ?_; clear hA a; intro a hA
      refine S.val hA (R.assign rfl) rfl ?_; clear hA a; intro a hA
      refine S.done ?_
      replace hM := hM.front (k := 3) rfl
      replace hM := hM.front (k := 3) rfl
      replace hM : Mem _ _ (waC p6 (some ⟨r30, (n25 : Int), ⟨false, -1, 0, 0, 0⟩⟩) :: bundle ((ws.eraseIdx n25).map (waC p6)) :: [pt b16 #[.int .i64 (((now : Int)) + 1), .slice la31 (((es ++ [(⟨2, -1, (now : Int), 0, false⟩ : HEnt)])).length) lc32] 39, own 64 5 (.slice la31 (((es ++ [(⟨2, -1, (now : Int), 0, false⟩ : HEnt)])).length) lc32) (((es ++ [(⟨2, -1, (now : Int), 0, false⟩ : HEnt)])).length) (entV ((es ++ [(⟨2, -1, (now : Int), 0, false⟩ : HEnt)]))), pt b10 ((vals (((ws.map waV)).set n25 (.pointer (some ⟨r30, 0, none⟩))))) 50, pt b12 ((ints (num.set n25 ((es.length : Int))))) 51, pt b14 ((ints (bgl.set n25 ((bgl.getD n25 0) + 1)))) 51, pt p6 #[.pointer (some ⟨m4, 0, none⟩), .int .i64 0, .slice (some ⟨nb7, 0, none⟩) n.toNat n.toNat, .slice (some ⟨ob8, 0, none⟩) 3 3] 73, pt ob8 ((vals (gs.map ow0V))) 22, bundle (gs.map ow0C), memO m4 c5 l s op, own 3 1 (.slice sa (((iof 0 n.toNat)).length) sc) (((iof 0 n.toNat)).length) (((iof 0 n.toNat)).map (Value.int .i64))]) _ := hM
      replace hM := hM.closeB (y := some ⟨r30, (n25 : Int), ⟨false, -1, 0, 0, 0⟩⟩) hwa
      replace hM : Mem _ _ [bundle ((ws.set n25 (some ⟨r30, (n25 : Int), ⟨false, -1, 0, 0, 0⟩⟩)).map (waC p6)), pt b16 #[.int .i64 (((now : Int)) + 1), .slice la31 (((es ++ [(⟨2, -1, (now : Int), 0, false⟩ : HEnt)])).length) lc32] 39, own 64 5 (.slice la31 (((es ++ [(⟨2, -1, (now : Int), 0, false⟩ : HEnt)])).length) lc32) (((es ++ [(⟨2, -1, (now : Int), 0, false⟩ : HEnt)])).length) (entV ((es ++ [(⟨2, -1, (now : Int), 0, false⟩ : HEnt)]))), pt b10 ((vals (((ws.map waV)).set n25 (.pointer (some ⟨r30, 0, none⟩))))) 50, pt b12 ((ints (num.set n25 ((es.length : Int))))) 51, pt b14 ((ints (bgl.set n25 ((bgl.getD n25 0) + 1)))) 51, pt p6 #[.pointer (some ⟨m4, 0, none⟩), .int .i64 0, .slice (some ⟨nb7, 0, none⟩) n.toNat n.toNat, .slice (some ⟨ob8, 0, none⟩) 3 3] 73, pt ob8 ((vals (gs.map ow0V))) 22, bundle (gs.map ow0C), memO m4 c5 l s op, own 3 1 (.slice sa (((iof 0 n.toNat)).length) sc) (((iof 0 n.toNat)).length) (((iof 0 n.toNat)).map (Value.int .i64))] _ := hM
      replace hM := hM.front (k := 10) rfl
      replace hM := hM.front (k := 1) rfl
      replace hM := hM.front (k := 10) rfl
      replace hM := hM.front (k := 10) rfl
      replace hM := hM.front (k := 10) rfl
      replace hM := hM.front (k := 10) rfl
      replace hM := hM.front (k := 7) rfl
      replace hM := hM.front (k := 7) rfl
      replace hM := hM.front (k := 10) rfl
      replace hM := hM.front (k := 10) rfl
      replace hM := hM.front (k := 10) rfl
      replace hM := hM.firstN 11
      have hx1 : (ws.map waV).set n25 (.pointer (some ⟨r30, 0, none⟩)) = (ws.set n25 (some ⟨r30, (n25 : Int), ⟨false, -1, 0, 0, 0⟩⟩)).map waV := by rw [List.map_set]; rfl
      rw [hx1] at hM
      replace hM : Mem _ _ [pt b10 ((vals (((ws.set n25 (some ⟨r30, (n25 : Int), ⟨false, -1, 0, 0, 0⟩⟩))).map waV))) 50, pt b12 ((ints ((num.set n25 ((es.length : Int)))))) 51, pt b14 ((ints ((bgl.set n25 ((bgl.getD n25 0) + 1))))) 51, pt b16 #[.int .i64 (((now + 1 : Nat) : Int)), .slice la31 (((es ++ [(⟨2, -1, (now : Int), 0, false⟩ : HEnt)])).length) lc32] 39, own 64 5 (.slice la31 (((es ++ [(⟨2, -1, (now : Int), 0, false⟩ : HEnt)])).length) lc32) (((es ++ [(⟨2, -1, (now : Int), 0, false⟩ : HEnt)])).length) (entV ((es ++ [(⟨2, -1, (now : Int), 0, false⟩ : HEnt)]))), pt p6 #[.pointer (some ⟨m4, 0, none⟩), .int .i64 0, .slice (some ⟨nb7, 0, none⟩) n.toNat n.toNat, .slice (some ⟨ob8, 0, none⟩) 3 3] 73, pt ob8 ((vals (gs.map ow0V))) 22, bundle (gs.map ow0C), memO m4 c5 l s op, bundle (((ws.set n25 (some ⟨r30, (n25 : Int), ⟨false, -1, 0, 0, 0⟩⟩))).map (waC p6)), own 3 1 (.slice sa (((iof 0 n.toNat)).length) sc) (((iof 0 n.toNat)).length) (((iof 0 n.toNat)).map (Value.int .i64))] _ := hM
      exact hNext1 ((k + 1, gs, (ws.set n25 (some ⟨r30, (n25 : Int), ⟨false, -1, 0, 0, 0⟩⟩)), (num.set n25 ((es.length : Int))), (bgl.set n25 ((bgl.getD n25 0) + 1)), l, s, op, H, xs, ord, la31, lc32, (es ++ [(⟨2, -1, (now : Int), 0, false⟩ : HEnt)]), (now + 1))) _ _ ((by show 60 - (k + 1) < 60 - k; omega)) ⟨hA.sub ((.cons rfl (.cons rfl (.cons rfl (.cons rfl (.cons rfl (.cons rfl (.cons rfl (.cons rfl (.cons rfl .nil)))))))))), hM, (by omega), (by omega), (by first | exact hgl | (rw [List.length_set]; exact hgl)), (by first | exact hbl | (rw [List.length_set]; exact hbl)), (fun j hj => by have := hbp j hj; by_cases e : n25 = j; subst e; rw [getD_set_at _ _ _ (by omega)]; omega; rw [getD_set_ne _ _ _ _ e]; exact this), (by omega), (by omega), ((hp_begin hP hwa r30).more (by omega))⟩
    ·
     replace hM := hM.front (k := 9) rfl
     have hwl := hP.wl
     have hnl := hP.nl
     have hel := hP.el
     obtain ⟨ga, hwa⟩ := wa_some (by omega) hs28
     replace hM := hM.openB hwa
     replace hM : Mem _ _ [pt ga.p #[.pointer (some ⟨p6, 0, none⟩), .int .i64 ga.w, .bool ga.t.give, .int .i64 ga.t.slot, .int .i64 ga.t.ph, .int .i64 ga.t.top, .int .i64 ga.t.next] 76, bundle ((ws.eraseIdx n25).map (waC p6)), pt b10 ((vals (ws.map waV))) 50, pt b12 ((ints num)) 51, pt b14 ((ints bgl)) 51, pt b16 #[.int .i64 ((now : Int)), .slice la es.length lc] 39, own 64 5 (.slice la es.length lc) es.length (entV es), pt p6 #[.pointer (some ⟨m4, 0, none⟩), .int .i64 0, .slice (some ⟨nb7, 0, none⟩) n.toNat n.toNat, .slice (some ⟨ob8, 0, none⟩) 3 3] 73, pt ob8 ((vals (gs.map ow0V))) 22, bundle (gs.map ow0C), memO m4 c5 l s op, own 3 1 (.slice sa (((iof 0 n.toNat)).length) sc) (((iof 0 n.toNat)).length) (((iof 0 n.toNat)).map (Value.int .i64))] _ := hM
     have hwr := hP.wr n25 ga hwa
     rw [hwr] at hM
     replace hM : Mem _ _ [pt ga.p #[.pointer (some ⟨p6, 0, none⟩), .int .i64 ((n25 : Int)), .bool ga.t.give, .int .i64 ga.t.slot, .int .i64 ga.t.ph, .int .i64 ga.t.top, .int .i64 ga.t.next] 76, bundle ((ws.eraseIdx n25).map (waC p6)), pt b10 ((vals (ws.map waV))) 50, pt b12 ((ints num)) 51, pt b14 ((ints bgl)) 51, pt b16 #[.int .i64 ((now : Int)), .slice la es.length lc] 39, own 64 5 (.slice la es.length lc) es.length (entV es), pt p6 #[.pointer (some ⟨m4, 0, none⟩), .int .i64 0, .slice (some ⟨nb7, 0, none⟩) n.toNat n.toNat, .slice (some ⟨ob8, 0, none⟩) 3 3] 73, pt ob8 ((vals (gs.map ow0V))) 22, bundle (gs.map ow0C), memO m4 c5 l s op, own 3 1 (.slice sa (((iof 0 n.toNat)).length) sc) (((iof 0 n.toNat)).length) (((iof 0 n.toNat)).map (Value.int .i64))] _ := hM
     refine Ends.region ?_
     refine S.val hA (R.move rfl) rfl ?_; clear hA a; intro a hA
     refine S.val hA (R.indexAddrA (q := n25) ar50 rfl rfl (by omega) (by omega)) rfl ?_; clear hA a; intro a hA
     refine S.val hA (R.load sz49 rfl (hM.cell (k := 2) rfl (vals_at _ _ _ (waV_at hwa)))) rfl ?_; clear hA a; intro a hA
     refine S.val hA (R.eqlNil Tryd.underlying49 rfl rfl) rfl ?_; clear hA a; intro a hA
     refine S.done ?_
     refine Ends.condF hA rfl ?_
     refine Ends.skip (Ends.seq (Ends.seq (Ends.region ?_)))
     refine S.val hA (R.move rfl) rfl ?_; clear hA a; intro a hA
     refine S.val hA (R.indexAddrA (q := n25) ar50 rfl rfl (by omega) (by omega)) rfl ?_; clear hA a; intro a hA
     refine S.val hA (R.load sz49 rfl (hM.cell (k := 2) rfl (vals_at _ _ _ (waV_at hwa)))) rfl ?_; clear hA a; intro a hA
     refine S.call hA (R.callF Tryd.func17 rfl rfl rfl) rfl (pact_over ga.p p6 (n25 : Int) ga.t _ (hM.block (k := 0) rfl)) ?_; clear hA a
     rintro e w19 ⟨rfl, rfl⟩
     refine ⟨.bool (decide (ga.t.ph = 3)), rfl, fun a hA => ?_⟩
     refine S.done ?_
     replace hA : St 153 [(0, _), (1, _), (7, _), (9, _), (10, _), (11, _), (12, _), (13, _), (15, _), (16, _), (100, _)] a := hA.sub ((.cons rfl (.cons rfl (.cons rfl (.cons rfl (.cons rfl (.cons rfl (.cons rfl (.cons rfl (.cons rfl (.cons rfl (.cons rfl .nil))))))))))))
     refine Ends.ite hA rfl (fun hc33 => ?_) (fun hc33 => ?_)
     ·
      have hph3 := hc33
      refine Ends.exit rfl ?_
      refine Ends.region ?_
      refine S.val hA (R.move rfl) rfl ?_; clear hA a; intro a hA
      refine S.val hA (R.addI rfl rfl (r := ((k : Int)) + 1) rfl (by omega)) rfl ?_; clear hA a; intro a hA
      refine S.val hA (R.assign rfl) rfl ?_; clear hA a; intro a hA
      refine S.done ?_
      replace hA : St 153 [(0, _), (1, _), (7, _), (9, _), (10, _), (11, _), (12, _), (13, _), (15, _)] a := hA.sub ((.cons rfl (.cons rfl (.cons rfl (.cons rfl (.cons rfl (.cons rfl (.cons rfl (.cons rfl (.cons rfl .nil))))))))))
      replace hM := hM.front (k := 1) rfl
      replace hM := hM.front (k := 1) rfl
      rw [← hP.wr n25 ga hwa] at hM
      replace hM : Mem _ _ (waC p6 (some ga) :: bundle ((ws.eraseIdx n25).map (waC p6)) :: [pt b10 ((vals (ws.map waV))) 50, pt b12 ((ints num)) 51, pt b14 ((ints bgl)) 51, pt b16 #[.int .i64 ((now : Int)), .slice la es.length lc] 39, own 64 5 (.slice la es.length lc) es.length (entV es), pt p6 #[.pointer (some ⟨m4, 0, none⟩), .int .i64 0, .slice (some ⟨nb7, 0, none⟩) n.toNat n.toNat, .slice (some ⟨ob8, 0, none⟩) 3 3] 73, pt ob8 ((vals (gs.map ow0V))) 22, bundle (gs.map ow0C), memO m4 c5 l s op, own 3 1 (.slice sa (((iof 0 n.toNat)).length) sc) (((iof 0 n.toNat)).length) (((iof 0 n.toNat)).map (Value.int .i64))]) _ := hM
      replace hM := hM.closeB (y := some ga) hwa
      rw [set_self hwa] at hM
      replace hM : Mem _ _ [bundle (ws.map (waC p6)), pt b10 ((vals (ws.map waV))) 50, pt b12 ((ints num)) 51, pt b14 ((ints bgl)) 51, pt b16 #[.int .i64 ((now : Int)), .slice la es.length lc] 39, own 64 5 (.slice la es.length lc) es.length (entV es), pt p6 #[.pointer (some ⟨m4, 0, none⟩), .int .i64 0, .slice (some ⟨nb7, 0, none⟩) n.toNat n.toNat, .slice (some ⟨ob8, 0, none⟩) 3 3] 73, pt ob8 ((vals (gs.map ow0V))) 22, bundle (gs.map ow0C), memO m4 c5 l s op, own 3 1 (.slice sa (((iof 0 n.toNat)).length) sc) (((iof 0 n.toNat)).length) (((iof 0 n.toNat)).map (Value.int .i64))] _ := hM
      replace hM := hM.front (k := 10) rfl
      replace hM := hM.front (k := 1) rfl
      replace hM := hM.front (k := 10) rfl
      replace hM := hM.front (k := 10) rfl
      replace hM := hM.front (k := 10) rfl
      replace hM := hM.front (k := 10) rfl
      replace hM := hM.front (k := 10) rfl
      replace hM := hM.front (k := 10) rfl
      replace hM := hM.front (k := 10) rfl
      replace hM := hM.front (k := 10) rfl
      replace hM := hM.front (k := 10) rfl
      replace hM := hM.firstN 11
      replace hM : Mem _ _ [pt b10 ((vals (ws.map waV))) 50, pt b12 ((ints num)) 51, pt b14 ((ints bgl)) 51, pt b16 #[.int .i64 ((now : Int)), .slice la es.length lc] 39, own 64 5 (.slice la es.length lc) es.length (entV es), pt p6 #[.pointer (some ⟨m4, 0, none⟩), .int .i64 0, .slice (some ⟨nb7, 0, none⟩) n.toNat n.toNat, .slice (some ⟨ob8, 0, none⟩) 3 3] 73, pt ob8 ((vals (gs.map ow0V))) 22, bundle (gs.map ow0C), memO m4 c5 l s op, bundle (ws.map (waC p6)), own 3 1 (.slice sa (((iof 0 n.toNat)).length) sc) (((iof 0 n.toNat)).length) (((iof 0 n.toNat)).map (Value.int .i64))] _ := hM
      exact hNext1 ((k + 1, gs, ws, num, bgl, l, s, op, H, xs, ord, la, lc, es, now)) _ _ ((by show 60 - (k + 1) < 60 - k; omega)) ⟨hA.sub ((.cons rfl (.cons rfl (.cons rfl (.cons rfl (.cons rfl (.cons rfl (.cons rfl (.cons rfl (.cons rfl .nil)))))))))), hM, (by omega), (by omega), (by first | exact hgl | (rw [List.length_set]; exact hgl)), (by first | exact hbl | (rw [List.length_set]; exact hbl)), hbp, (by omega), (by omega), (hP.more (by omega))⟩
     ·
      have hph : ga.t.ph ≠ 3 := hc33
      refine Ends.skip (Ends.seq (Ends.region ?_))
      refine S.val hA (R.move rfl) rfl ?_; clear hA a; intro a hA
      refine S.val hA (R.indexAddrA (q := n25) ar50 rfl rfl (by omega) (by omega)) rfl ?_; clear hA a; intro a hA
      refine S.val hA (R.load sz49 rfl (hM.cell (k := 2) rfl (vals_at _ _ _ (waV_at hwa)))) rfl ?_; clear hA a; intro a hA
      obtain ⟨z9, hz9⟩ : ∃ z, z = pstep 0 ⟨ga.t, [], l, s⟩ := ⟨_, rfl⟩
      obtain ⟨hzY, hzo⟩ := hp_step hP (by omega) hwa hph s hz9
      obtain ⟨yg, hyg⟩ : ∃ y, gs[n25]? = some y := ⟨_, List.getElem?_eq_getElem (by omega)⟩
      have hgk : (ws.map wt)[n25]? = some (some ga.t) := by rw [List.getElem?_map, hwa]; exact congrArg some (wt_on (p := ga.p) (w := ga.w) hph)
      have hsk := gi_sok (Y := []) hP.gi hgk (by rw [List.getElem?_replicate, if_pos (by omega)]) (s := s) (by omega)
      have hzs := pstep_s 0 ⟨ga.t, [], l, s⟩
      rw [← hz9] at hzs
      replace hzs : s ≤ z9.s ∧ z9.s ≤ s + 1 := hzs
      replace hM := hM.front (k := 10) rfl
      replace hM := hM.front (k := 10) rfl
      replace hM := hM.front (k := 10) rfl
      replace hM := hM.front (k := 10) rfl
      replace hM := hM.front (k := 4) rfl
      replace hM : Mem _ _ [pt ga.p #[.pointer (some ⟨p6, 0, none⟩), .int .i64 ((n25 : Int)), .bool ga.t.give, .int .i64 ga.t.slot, .int .i64 ga.t.ph, .int .i64 ga.t.top, .int .i64 ga.t.next] 76, pt p6 #[.pointer (some ⟨m4, 0, none⟩), .int .i64 0, .slice (some ⟨nb7, 0, none⟩) n.toNat n.toNat, .slice (some ⟨ob8, 0, none⟩) 3 3] 73, pt ob8 ((vals (gs.map ow0V))) 22, bundle (gs.map ow0C), memO m4 c5 l s op, bundle ((ws.eraseIdx n25).map (waC p6)), pt b10 ((vals (ws.map waV))) 50, pt b12 ((ints num)) 51, pt b14 ((ints bgl)) 51, pt b16 #[.int .i64 ((now : Int)), .slice la es.length lc] 39, own 64 5 (.slice la es.length lc) es.length (entV es), own 3 1 (.slice sa (((iof 0 n.toNat)).length) sc) (((iof 0 n.toNat)).length) (((iof 0 n.toNat)).map (Value.int .i64))] _ := hM
      refine S.call hA (R.callF Tryd.func18 rfl rfl rfl) rfl (by have h9 := pstep_0 ga.p p6 m4 nb7 n.toNat ob8 3 c5 0 n op hm4c5 gs hgl ga.t l s (by omega) n25 yg hsk (by rw [← hz9]; exact hzY) hyg (by omega) _ (hM.hereN 5); rw [← hz9] at h9; exact h9) ?_; clear hA a
      rintro e w20 ⟨a9, c9, o9, rfl, hn⟩
      replace hM : Mem _ _ [pt ga.p #[.pointer (some ⟨p6, 0, none⟩), .int .i64 ((n25 : Int)), .bool z9.t.give, .int .i64 z9.t.slot, .int .i64 z9.t.ph, .int .i64 z9.t.top, .int .i64 z9.t.next] 76, pt p6 #[.pointer (some ⟨m4, 0, none⟩), .int .i64 0, .slice (some ⟨nb7, 0, none⟩) n.toNat n.toNat, .slice (some ⟨ob8, 0, none⟩) 3 3] 73, pt ob8 ((vals ((gs.set n25 (a9, c9)).map ow0V))) 22, bundle ((gs.set n25 (a9, c9)).map ow0C), memO m4 c5 z9.l z9.s o9, bundle ((ws.eraseIdx n25).map (waC p6)), pt b10 ((vals (ws.map waV))) 50, pt b12 ((ints num)) 51, pt b14 ((ints bgl)) 51, pt b16 #[.int .i64 ((now : Int)), .slice la es.length lc] 39, own 64 5 (.slice la es.length lc) es.length (entV es), own 3 1 (.slice sa (((iof 0 n.toNat)).length) sc) (((iof 0 n.toNat)).length) (((iof 0 n.toNat)).map (Value.int .i64))] _ := hM.callL 5 hn; clear hn
      refine ⟨.bool (decide (z9.t.ph = 3)), rfl, fun a hA => ?_⟩
      refine S.done ?_
      replace hA : St 153 [(0, _), (1, _), (7, _), (9, _), (10, _), (11, _), (12, _), (13, _), (15, _), (16, _), (104, _)] a := hA.sub ((.cons rfl (.cons rfl (.cons rfl (.cons rfl (.cons rfl (.cons rfl (.cons rfl (.cons rfl (.cons rfl (.cons rfl (.cons rfl .nil))))))))))))
      refine Ends.ite hA rfl (fun hc34 => ?_) (fun hc34 => ?_)
      ·
       refine Ends.seq ?_
       obtain ⟨i9, hi9, hil, hie, -⟩ := hP.act n25 ga hwa
       rw [decide_eq_false hph] at hie
       obtain ⟨H9, xs9, hP9⟩ := (hzo.resolve_left (fun h => h.1 hc34)).2 i9 hi9
       refine Ends.drawn (Mem w nof [pt ga.p #[.pointer (some ⟨p6, 0, none⟩), .int .i64 ((n25 : Int)), .bool z9.t.give, .int .i64 z9.t.slot, .int .i64 z9.t.ph, .int .i64 z9.t.top, .int .i64 z9.t.next] 76, pt p6 #[.pointer (some ⟨m4, 0, none⟩), .int .i64 0, .slice (some ⟨nb7, 0, none⟩) n.toNat n.toNat, .slice (some ⟨ob8, 0, none⟩) 3 3] 73, pt ob8 ((vals ((gs.set n25 (a9, c9)).map ow0V))) 22, pt b10 ((vals (ws.map waV))) 50, pt b12 ((ints num)) 51, pt b14 ((ints bgl)) 51, own 3 1 (.slice sa (((iof 0 n.toNat)).length) sc) (((iof 0 n.toNat)).length) (((iof 0 n.toNat)).map (Value.int .i64))]) (.cons (0, true) (.cons (1, true) (.cons (2, true) (.cons (3, true) (.cons (4, true) (.cons (5, true) (.cons (6, true) (.cons (7, false) (.cons (8, false) (.cons (9, true) .nil)))))))))) 10 mixed (by kernel_rfl) (by kernel_rfl) (by kernel_rfl) (((((hM.drop 10).drop 9).drop 5).drop 4).drop 3).drew ?_
       replace hM := hM.drew
       refine D.valF hA rfl (fun _ => R.move rfl) rfl ?_; clear hA a; intro a hA
       refine D.valF hA rfl (fun _ => R.move rfl) rfl ?_; clear hA a; intro a hA
       refine D.valF hA rfl (fun _ => R.indexAddrA (q := n25) ar51 rfl rfl (by omega) (by omega)) rfl ?_; clear hA a; intro a hA
       refine D.val hA rfl (by kernel_rfl) (fun _ hM => R.to (v := .int .i64 (i9 : Int)) (R.load sz3 rfl (hM.cell (k := 4) rfl (ints_getD num _ (by omega)))) (congrArg (Value.int .i64) hi9)) rfl ?_; clear hA a; intro a hA
       refine D.valF hA rfl (fun _ => R.move rfl) rfl ?_; clear hA a; intro a hA
       refine D.valF hA rfl (fun _ => R.indexAddrA (q := n25) ar50 rfl rfl (by omega) (by omega)) rfl ?_; clear hA a; intro a hA
       refine D.val hA rfl (by kernel_rfl) (fun _ hM => R.load sz49 rfl (hM.cell (k := 3) rfl (vals_at _ _ _ (waV_at hwa)))) rfl ?_; clear hA a; intro a hA
       refine D.call hA rfl (R.callF Tryd.func19 rfl rfl rfl) rfl (pact_slot ga.p p6 (n25 : Int) z9.t hc34 _ (hM.block (k := 0) rfl)) ?_; clear hA a
       rintro e w21 ⟨rfl, rfl⟩
       refine ⟨.int .i64 z9.t.slot, rfl, (((((hM.drop 10).drop 9).drop 5).drop 4).drop 3), fun a hA => ?_⟩
       replace hM := hM.front (k := 10) rfl
       replace hM := hM.front (k := 10) rfl
       replace hM : Mem _ _ [pt b16 #[.int .i64 ((now : Int)), .slice la es.length lc] 39, own 64 5 (.slice la es.length lc) es.length (entV es), pt ga.p #[.pointer (some ⟨p6, 0, none⟩), .int .i64 ((n25 : Int)), .bool z9.t.give, .int .i64 z9.t.slot, .int .i64 z9.t.ph, .int .i64 z9.t.top, .int .i64 z9.t.next] 76, pt p6 #[.pointer (some ⟨m4, 0, none⟩), .int .i64 0, .slice (some ⟨nb7, 0, none⟩) n.toNat n.toNat, .slice (some ⟨ob8, 0, none⟩) 3 3] 73, pt ob8 ((vals ((gs.set n25 (a9, c9)).map ow0V))) 22, bundle ((gs.set n25 (a9, c9)).map ow0C), memO m4 c5 z9.l z9.s o9, bundle ((ws.eraseIdx n25).map (waC p6)), pt b10 ((vals (ws.map waV))) 50, pt b12 ((ints num)) 51, pt b14 ((ints bgl)) 51, own 3 1 (.slice sa (((iof 0 n.toNat)).length) sc) (((iof 0 n.toNat)).length) (((iof 0 n.toNat)).map (Value.int .i64))] _ := hM
       refine D.call hA rfl (R.callF Tryd.func11 rfl rfl rfl) rfl (end_ok21 b16 ((now : Int)) (by omega) la lc es (by omega) i9 z9.t.slot hil hie _ (hM.hereN 2)) ?_; clear hA a
       rintro e w22 ⟨rfl, hn⟩
       replace hM : Mem _ _ [pt b16 #[.int .i64 (((now : Int)) + 1), .slice la es.length lc] 39, own 64 5 (.slice la es.length lc) es.length (entV ((es.set i9 ⟨(ent es i9).k, z9.t.slot, (ent es i9).f, (now : Int), true⟩))), pt ga.p #[.pointer (some ⟨p6, 0, none⟩), .int .i64 ((n25 : Int)), .bool z9.t.give, .int .i64 z9.t.slot, .int .i64 z9.t.ph, .int .i64 z9.t.top, .int .i64 z9.t.next] 76, pt p6 #[.pointer (some ⟨m4, 0, none⟩), .int .i64 0, .slice (some ⟨nb7, 0, none⟩) n.toNat n.toNat, .slice (some ⟨ob8, 0, none⟩) 3 3] 73, pt ob8 ((vals ((gs.set n25 (a9, c9)).map ow0V))) 22, bundle ((gs.set n25 (a9, c9)).map ow0C), memO m4 c5 z9.l z9.s o9, bundle ((ws.eraseIdx n25).map (waC p6)), pt b10 ((vals (ws.map waV))) 50, pt b12 ((ints num)) 51, pt b14 ((ints bgl)) 51, own 3 1 (.slice sa (((iof 0 n.toNat)).length) sc) (((iof 0 n.toNat)).length) (((iof 0 n.toNat)).map (Value.int .i64))] _ := hM.callL 2 hn; clear hn
       refine ⟨.int .i64 0, rfl, (((((hM.drop 7).drop 6).drop 5).drop 1).drop 0), fun a hA => ?_⟩
       refine D.valF hA rfl (fun _ => R.ff (R.neq rfl rfl) (by first | decide | simp | omega)) rfl ?_; clear hA a; intro a hA
       refine D.done ?_
       replace hA : St 153 [(0, _), (1, _), (7, _), (9, _), (10, _), (11, _), (12, _), (13, _), (15, _), (114, _)] a := hA.sub ((.cons rfl (.cons rfl (.cons rfl (.cons rfl (.cons rfl (.cons rfl (.cons rfl (.cons rfl (.cons rfl (.cons rfl .nil)))))))))))
       refine Ends.condF hA rfl ?_
       refine Ends.skip (Ends.inBlock (Ends.region ?_))
       refine S.val hA (R.move rfl) rfl ?_; clear hA a; intro a hA
       refine S.val hA (R.addI rfl rfl (r := ((k : Int)) + 1) rfl (by omega)) rfl ?_; clear hA a; intro a hA
       refine S.val hA (R.assign rfl) rfl ?_; clear hA a; intro a hA
       refine S.done ?_
       replace hM := hM.front (k := 7) rfl
       replace hM := hM.front (k := 3) rfl
       rw [← hP.wr n25 ga hwa] at hM
       replace hM : Mem _ _ (waC p6 (some ⟨ga.p, ga.w, z9.t⟩) :: bundle ((ws.eraseIdx n25).map (waC p6)) :: [pt b16 #[.int .i64 (((now : Int)) + 1), .slice la es.length lc] 39, own 64 5 (.slice la es.length lc) es.length (entV ((es.set i9 ⟨(ent es i9).k, z9.t.slot, (ent es i9).f, (now : Int), true⟩))), pt p6 #[.pointer (some ⟨m4, 0, none⟩), .int .i64 0, .slice (some ⟨nb7, 0, none⟩) n.toNat n.toNat, .slice (some ⟨ob8, 0, none⟩) 3 3] 73, pt ob8 ((vals ((gs.set n25 (a9, c9)).map ow0V))) 22, bundle ((gs.set n25 (a9, c9)).map ow0C), memO m4 c5 z9.l z9.s o9, pt b10 ((vals (ws.map waV))) 50, pt b12 ((ints num)) 51, pt b14 ((ints bgl)) 51, own 3 1 (.slice sa (((iof 0 n.toNat)).length) sc) (((iof 0 n.toNat)).length) (((iof 0 n.toNat)).map (Value.int .i64))]) _ := hM
       replace hM := hM.closeB (y := some ⟨ga.p, ga.w, z9.t⟩) hwa
       replace hM : Mem _ _ [bundle ((ws.set n25 (some ⟨ga.p, ga.w, z9.t⟩)).map (waC p6)), pt b16 #[.int .i64 (((now : Int)) + 1), .slice la es.length lc] 39, own 64 5 (.slice la es.length lc) es.length (entV ((es.set i9 ⟨(ent es i9).k, z9.t.slot, (ent es i9).f, (now : Int), true⟩))), pt p6 #[.pointer (some ⟨m4, 0, none⟩), .int .i64 0, .slice (some ⟨nb7, 0, none⟩) n.toNat n.toNat, .slice (some ⟨ob8, 0, none⟩) 3 3] 73, pt ob8 ((vals ((gs.set n25 (a9, c9)).map ow0V))) 22, bundle ((gs.set n25 (a9, c9)).map ow0C), memO m4 c5 z9.l z9.s o9, pt b10 ((vals (ws.map waV))) 50, pt b12 ((ints num)) 51, pt b14 ((ints bgl)) 51, own 3 1 (.slice sa (((iof 0 n.toNat)).length) sc) (((iof 0 n.toNat)).length) (((iof 0 n.toNat)).map (Value.int .i64))] _ := hM
       replace hM := hM.front (k := 10) rfl
       replace hM := hM.front (k := 1) rfl
       replace hM := hM.front (k := 7) rfl
       replace hM := hM.front (k := 7) rfl
       replace hM := hM.front (k := 7) rfl
       replace hM := hM.front (k := 7) rfl
       replace hM := hM.front (k := 7) rfl
       replace hM := hM.front (k := 7) rfl
       replace hM := hM.front (k := 10) rfl
       replace hM := hM.front (k := 10) rfl
       replace hM := hM.front (k := 10) rfl
       replace hM := hM.firstN 11
       have hx1 : ws.map waV = (ws.set n25 (some ⟨ga.p, ga.w, z9.t⟩)).map waV := by rw [List.map_set]; exact (set_self (by rw [List.getElem?_map, hwa]; rfl)).symm
       have hx3 : es.length = ((es.set i9 ⟨(ent es i9).k, z9.t.slot, (ent es i9).f, (now : Int), true⟩)).length := by rw [List.length_set]
       rw [hx1] at hM
       rw [hx3] at hM
       replace hM : Mem _ _ [pt b10 ((vals (((ws.set n25 (some ⟨ga.p, ga.w, z9.t⟩))).map waV))) 50, pt b12 ((ints num)) 51, pt b14 ((ints bgl)) 51, pt b16 #[.int .i64 (((now + 1 : Nat) : Int)), .slice la (((es.set i9 ⟨(ent es i9).k, z9.t.slot, (ent es i9).f, (now : Int), true⟩)).length) lc] 39, own 64 5 (.slice la (((es.set i9 ⟨(ent es i9).k, z9.t.slot, (ent es i9).f, (now : Int), true⟩)).length) lc) (((es.set i9 ⟨(ent es i9).k, z9.t.slot, (ent es i9).f, (now : Int), true⟩)).length) (entV ((es.set i9 ⟨(ent es i9).k, z9.t.slot, (ent es i9).f, (now : Int), true⟩))), pt p6 #[.pointer (some ⟨m4, 0, none⟩), .int .i64 0, .slice (some ⟨nb7, 0, none⟩) n.toNat n.toNat, .slice (some ⟨ob8, 0, none⟩) 3 3] 73, pt ob8 ((vals (((gs.set n25 (a9, c9))).map ow0V))) 22, bundle (((gs.set n25 (a9, c9))).map ow0C), memO m4 c5 z9.l z9.s o9, bundle (((ws.set n25 (some ⟨ga.p, ga.w, z9.t⟩))).map (waC p6)), own 3 1 (.slice sa (((iof 0 n.toNat)).length) sc) (((iof 0 n.toNat)).length) (((iof 0 n.toNat)).map (Value.int .i64))] _ := hM
       exact hNext1 ((k + 1, (gs.set n25 (a9, c9)), (ws.set n25 (some ⟨ga.p, ga.w, z9.t⟩)), num, bgl, z9.l, z9.s, o9, H9, xs9, (ord ++ [i9]), la, lc, (es.set i9 ⟨(ent es i9).k, z9.t.slot, (ent es i9).f, (now : Int), true⟩), (now + 1))) _ _ ((by show 60 - (k + 1) < 60 - k; omega)) ⟨hA.sub ((.cons rfl (.cons rfl (.cons rfl (.cons rfl (.cons rfl (.cons rfl (.cons rfl (.cons rfl (.cons rfl .nil)))))))))), hM, (by omega), (by omega), (by first | exact hgl | (rw [List.length_set]; exact hgl)), (by first | exact hbl | (rw [List.length_set]; exact hbl)), hbp, (by omega), (by omega), (hP9.more (by omega))⟩
      ·
       obtain ⟨-, xs9, hP9⟩ := hzo.resolve_right (fun hh => hc34 hh.1)
       refine Ends.skip (Ends.inBlock (Ends.region ?_))
       refine S.val hA (R.move rfl) rfl ?_; clear hA a; intro a hA
       refine S.val hA (R.addI rfl rfl (r := ((k : Int)) + 1) rfl (by omega)) rfl ?_; clear hA a; intro a hA
       refine S.val hA (R.assign rfl) rfl ?_; clear hA a; intro a hA
       refine S.done ?_
       replace hA : St 153 [(0, _), (1, _), (7, _), (9, _), (10, _), (11, _), (12, _), (13, _), (15, _)] a := hA.sub ((.cons rfl (.cons rfl (.cons rfl (.cons rfl (.cons rfl (.cons rfl (.cons rfl (.cons rfl (.cons rfl .nil))))))))))
       replace hM := hM.front (k := 5) rfl
       replace hM := hM.front (k := 1) rfl
       rw [← hP.wr n25 ga hwa] at hM
       replace hM : Mem _ _ (waC p6 (some ⟨ga.p, ga.w, z9.t⟩) :: bundle ((ws.eraseIdx n25).map (waC p6)) :: [pt p6 #[.pointer (some ⟨m4, 0, none⟩), .int .i64 0, .slice (some ⟨nb7, 0, none⟩) n.toNat n.toNat, .slice (some ⟨ob8, 0, none⟩) 3 3] 73, pt ob8 ((vals ((gs.set n25 (a9, c9)).map ow0V))) 22, bundle ((gs.set n25 (a9, c9)).map ow0C), memO m4 c5 z9.l z9.s o9, pt b10 ((vals (ws.map waV))) 50, pt b12 ((ints num)) 51, pt b14 ((ints bgl)) 51, pt b16 #[.int .i64 ((now : Int)), .slice la es.length lc] 39, own 64 5 (.slice la es.length lc) es.length (entV es), own 3 1 (.slice sa (((iof 0 n.toNat)).length) sc) (((iof 0 n.toNat)).length) (((iof 0 n.toNat)).map (Value.int .i64))]) _ := hM
       replace hM := hM.closeB (y := some ⟨ga.p, ga.w, z9.t⟩) hwa
       replace hM : Mem _ _ [bundle ((ws.set n25 (some ⟨ga.p, ga.w, z9.t⟩)).map (waC p6)), pt p6 #[.pointer (some ⟨m4, 0, none⟩), .int .i64 0, .slice (some ⟨nb7, 0, none⟩) n.toNat n.toNat, .slice (some ⟨ob8, 0, none⟩) 3 3] 73, pt ob8 ((vals ((gs.set n25 (a9, c9)).map ow0V))) 22, bundle ((gs.set n25 (a9, c9)).map ow0C), memO m4 c5 z9.l z9.s o9, pt b10 ((vals (ws.map waV))) 50, pt b12 ((ints num)) 51, pt b14 ((ints bgl)) 51, pt b16 #[.int .i64 ((now : Int)), .slice la es.length lc] 39, own 64 5 (.slice la es.length lc) es.length (entV es), own 3 1 (.slice sa (((iof 0 n.toNat)).length) sc) (((iof 0 n.toNat)).length) (((iof 0 n.toNat)).map (Value.int .i64))] _ := hM
       replace hM := hM.front (k := 10) rfl
       replace hM := hM.front (k := 1) rfl
       replace hM := hM.front (k := 5) rfl
       replace hM := hM.front (k := 5) rfl
       replace hM := hM.front (k := 5) rfl
       replace hM := hM.front (k := 5) rfl
       replace hM := hM.front (k := 10) rfl
       replace hM := hM.front (k := 10) rfl
       replace hM := hM.front (k := 10) rfl
       replace hM := hM.front (k := 10) rfl
       replace hM := hM.front (k := 10) rfl
       replace hM := hM.firstN 11
       have hx1 : ws.map waV = (ws.set n25 (some ⟨ga.p, ga.w, z9.t⟩)).map waV := by rw [List.map_set]; exact (set_self (by rw [List.getElem?_map, hwa]; rfl)).symm
       rw [hx1] at hM
       replace hM : Mem _ _ [pt b10 ((vals (((ws.set n25 (some ⟨ga.p, ga.w, z9.t⟩))).map waV))) 50, pt b12 ((ints num)) 51, pt b14 ((ints bgl)) 51, pt b16 #[.int .i64 ((now : Int)), .slice la es.length lc] 39, own 64 5 (.slice la es.length lc) es.length (entV es), pt p6 #[.pointer (some ⟨m4, 0, none⟩), .int .i64 0, .slice (some ⟨nb7, 0, none⟩) n.toNat n.toNat, .slice (some ⟨ob8, 0, none⟩) 3 3] 73, pt ob8 ((vals (((gs.set n25 (a9, c9))).map ow0V))) 22, bundle (((gs.set n25 (a9, c9))).map ow0C), memO m4 c5 z9.l z9.s o9, bundle (((ws.set n25 (some ⟨ga.p, ga.w, z9.t⟩))).map (waC p6)), own 3 1 (.slice sa (((iof 0 n.toNat)).length) sc) (((iof 0 n.toNat)).length) (((iof 0 n.toNat)).map (Value.int .i64))] _ := hM
       exact hNext1 ((k + 1, (gs.set n25 (a9, c9)), (ws.set n25 (some ⟨ga.p, ga.w, z9.t⟩)), num, bgl, z9.l, z9.s, o9, H, xs9, ord, la, lc, es, now)) _ _ ((by show 60 - (k + 1) < 60 - k; omega)) ⟨hA.sub ((.cons rfl (.cons rfl (.cons rfl (.cons rfl (.cons rfl (.cons rfl (.cons rfl (.cons rfl (.cons rfl .nil)))))))))), hM, (by omega), (by omega), (by first | exact hgl | (rw [List.length_set]; exact hgl)), (by first | exact hbl | (rw [List.length_set]; exact hbl)), hbp, (by omega), (by omega), (hP9.more (by omega))⟩
   ·
    have hel := hP.el
    refine Ends.exit rfl ?_
    refine Ends.seq (Ends.region ?_)
    refine S.val hA (R.move rfl) rfl ?_; clear hA a; intro a hA
    refine S.val hA (R.move rfl) rfl ?_; clear hA a; intro a hA
    replace hM := hM.front (k := 4) rfl
    replace hM := hM.front (k := 4) rfl
    replace hM : Mem _ _ [pt b16 #[.int .i64 ((now : Int)), .slice la es.length lc] 39, own 64 5 (.slice la es.length lc) es.length (entV es), pt b10 ((vals (ws.map waV))) 50, pt b12 ((ints num)) 51, pt b14 ((ints bgl)) 51, pt p6 #[.pointer (some ⟨m4, 0, none⟩), .int .i64 0, .slice (some ⟨nb7, 0, none⟩) n.toNat n.toNat, .slice (some ⟨ob8, 0, none⟩) 3 3] 73, pt ob8 ((vals (gs.map ow0V))) 22, bundle (gs.map ow0C), memO m4 c5 l s op, bundle (ws.map (waC p6)), own 3 1 (.slice sa (((iof 0 n.toNat)).length) sc) (((iof 0 n.toNat)).length) (((iof 0 n.toNat)).map (Value.int .i64))] _ := hM
    refine S.call hA (R.callF Tryd.func12 rfl rfl rfl) rfl (ops21 b16 ((now : Int)) (by omega) la lc es (by omega) _ (hM.hereN 2)) ?_; clear hA a
    rintro e w23 ⟨pa35, pc36, rfl, hn⟩
    replace hM : Mem _ _ [own 26 4 (.slice pa35 (((opsOf es)).length) pc36) (((opsOf es)).length) (hopV ((opsOf es))), pt b16 #[.int .i64 ((now : Int)), .slice la es.length lc] 39, own 64 5 (.slice la es.length lc) es.length (entV es), pt b10 ((vals (ws.map waV))) 50, pt b12 ((ints num)) 51, pt b14 ((ints bgl)) 51, pt p6 #[.pointer (some ⟨m4, 0, none⟩), .int .i64 0, .slice (some ⟨nb7, 0, none⟩) n.toNat n.toNat, .slice (some ⟨ob8, 0, none⟩) 3 3] 73, pt ob8 ((vals (gs.map ow0V))) 22, bundle (gs.map ow0C), memO m4 c5 l s op, bundle (ws.map (waC p6)), own 3 1 (.slice sa (((iof 0 n.toNat)).length) sc) (((iof 0 n.toNat)).length) (((iof 0 n.toNat)).map (Value.int .i64))] _ := hM.callL 2 hn; clear hn
    refine ⟨.slice pa35 (((opsOf es)).length) pc36, rfl, fun a hA => ?_⟩
    obtain ⟨r9, e9, hO⟩ : ∃ r e, hordP (iof 0 n.toNat) (opsOf es) = (r, e) := ⟨_, _, rfl⟩
    refine S.call hA (R.callF Tryd.func7 rfl rfl rfl) rfl (orders_eq sa ((iof 0 n.toNat)) sc pa35 ((opsOf es)) pc36 hO _ (hM.rsl (k := 11) rfl) (hM.ownRow (k := 0) rfl) (tab_below htab (Mem.trans0 hbs hM.nilL))) ?_; clear hA a
    rintro e w24 ⟨ra37, rc38, rfl, hr39, hf40, hb⟩
    replace hM : Mem _ _ [rd ra37 rc38 r9, own 26 4 (.slice pa35 (((opsOf es)).length) pc36) (((opsOf es)).length) (hopV ((opsOf es))), pt b16 #[.int .i64 ((now : Int)), .slice la es.length lc] 39, own 64 5 (.slice la es.length lc) es.length (entV es), pt b10 ((vals (ws.map waV))) 50, pt b12 ((ints num)) 51, pt b14 ((ints bgl)) 51, pt p6 #[.pointer (some ⟨m4, 0, none⟩), .int .i64 0, .slice (some ⟨nb7, 0, none⟩) n.toNat n.toNat, .slice (some ⟨ob8, 0, none⟩) 3 3] 73, pt ob8 ((vals (gs.map ow0V))) 22, bundle (gs.map ow0C), memO m4 c5 l s op, bundle (ws.map (waC p6)), own 3 1 (.slice sa (((iof 0 n.toNat)).length) sc) (((iof 0 n.toNat)).length) (((iof 0 n.toNat)).map (Value.int .i64))] _ := hM.callRd hb hr39 hf40; clear hb
    refine ⟨.tuple #[.slice ra37 r9.length rc38, .int .i64 e9], rfl, fun a hA => ?_⟩
    refine S.val hA (R.move rfl) rfl ?_; clear hA a; intro a hA
    refine S.val hA (R.extract (v := .slice ra37 r9.length rc38) rfl rfl) rfl ?_; clear hA a; intro a hA
    refine S.val hA (R.extract (v := .int .i64 e9) rfl rfl) rfl ?_; clear hA a; intro a hA
    refine S.val hA (R.assign rfl) rfl ?_; clear hA a; intro a hA
    refine S.val hA (R.assign rfl) rfl ?_; clear hA a; intro a hA
    refine S.done ?_
    replace hA : St 153 [(0, _), (7, _), (9, _), (10, _), (11, _), (12, _), (13, _), (17, _), (18, _)] a := hA.sub ((.cons rfl (.cons rfl (.cons rfl (.cons rfl (.cons rfl (.cons rfl (.cons rfl (.cons rfl (.cons rfl .nil))))))))))
    refine Ends.seq (Ends.seq (Ends.region ?_))
    refine S.val hA (R.assign rfl) rfl ?_; clear hA a; intro a hA
    refine S.done ?_
    refine Ends.block ?_
    refine Ends.unroll ?_
    refine Ends.seq (Ends.seq (Ends.region ?_))
    refine S.val hA (R.move rfl) rfl ?_; clear hA a; intro a hA
    refine S.val hA (R.tt (R.lss rfl rfl) (by first | decide | simp | omega)) rfl ?_; clear hA a; intro a hA
    refine S.done ?_
    refine Ends.condT hA rfl ?_
    refine Ends.skip (Ends.seq (Ends.block (Ends.seq ?_)))
    have hwl := hP.wl
    by_cases hs41 : ws[0]? = some none
    ·
     have hw0 := hs41
     refine Ends.region ?_
     refine S.val hA (R.move rfl) rfl ?_; clear hA a; intro a hA
     refine S.val hA (R.indexAddrA (q := 0) ar50 rfl rfl (by omega) (rfl)) rfl ?_; clear hA a; intro a hA
     refine S.val hA (R.load sz49 rfl (hM.cell (k := 4) rfl (vals_at _ _ _ (waV_at hw0)))) rfl ?_; clear hA a; intro a hA
     refine S.val hA (R.neqNil Tryd.underlying49 rfl rfl) rfl ?_; clear hA a; intro a hA
     refine S.val hA (R.move rfl) rfl ?_; clear hA a; intro a hA
     refine S.no (dj := 130) hA (by kernel_rfl) rfl rfl rfl ?_; clear hA a; intro a hA
     refine S.no (dj := 130) hA (by kernel_rfl) rfl rfl rfl ?_; clear hA a; intro a hA
     refine S.no (dj := 130) hA (by kernel_rfl) rfl rfl rfl ?_; clear hA a; intro a hA
     refine S.no (dj := 130) hA (by kernel_rfl) rfl rfl rfl ?_; clear hA a; intro a hA
     refine S.no (dj := 130) hA (by kernel_rfl) rfl rfl rfl ?_; clear hA a; intro a hA
     refine S.val hA (R.pickF rfl rfl) rfl ?_; clear hA a; intro a hA
     refine S.done ?_
     replace hA : St 153 [(0, _), (7, _), (9, _), (10, _), (11, _), (12, _), (13, _), (17, _), (18, _), (19, _), (136, _)] a := hA.sub ((.cons rfl (.cons rfl (.cons rfl (.cons rfl (.cons rfl (.cons rfl (.cons rfl (.cons rfl (.cons rfl (.cons rfl (.cons rfl .nil))))))))))))
     refine Ends.condF hA rfl ?_
     refine Ends.skip (Ends.inBlock (Ends.region ?_))
     refine S.val hA (R.move rfl) rfl ?_; clear hA a; intro a hA
     refine S.val hA (R.addI rfl rfl (r := 1) rfl (by omega)) rfl ?_; clear hA a; intro a hA
     refine S.val hA (R.assign rfl) rfl ?_; clear hA a; intro a hA
     refine S.done ?_
     refine Ends.inLoop ?_
     refine Ends.seq (Ends.seq (Ends.region ?_))
     refine S.val hA (R.move rfl) rfl ?_; clear hA a; intro a hA
     refine S.val hA (R.tt (R.lss rfl rfl) (by first | decide | simp | omega)) rfl ?_; clear hA a; intro a hA
     refine S.done ?_
     replace hA : St 153 [(0, _), (7, _), (9, _), (10, _), (11, _), (12, _), (13, _), (17, _), (18, _), (19, _), (123, _)] a := hA.sub ((.cons rfl (.cons rfl (.cons rfl (.cons rfl (.cons rfl (.cons rfl (.cons rfl (.cons rfl (.cons rfl (.cons rfl (.cons rfl .nil))))))))))))
     refine Ends.condT hA rfl ?_
     refine Ends.skip (Ends.seq (Ends.block (Ends.seq ?_)))
     have hwl := hP.wl
     by_cases hs42 : ws[1]? = some none
     ·
      have hw1 := hs42
      refine Ends.region ?_
      refine S.val hA (R.move rfl) rfl ?_; clear hA a; intro a hA
      refine S.val hA (R.indexAddrA (q := 1) ar50 rfl rfl (by omega) (rfl)) rfl ?_; clear hA a; intro a hA
      refine S.val hA (R.load sz49 rfl (hM.cell (k := 4) rfl (vals_at _ _ _ (waV_at hw1)))) rfl ?_; clear hA a; intro a hA
      refine S.val hA (R.neqNil Tryd.underlying49 rfl rfl) rfl ?_; clear hA a; intro a hA
      refine S.val hA (R.move rfl) rfl ?_; clear hA a; intro a hA
      refine S.no (dj := 130) hA (by kernel_rfl) rfl rfl rfl ?_; clear hA a; intro a hA
      refine S.no (dj := 130) hA (by kernel_rfl) rfl rfl rfl ?_; clear hA a; intro a hA
      refine S.no (dj := 130) hA (by kernel_rfl) rfl rfl rfl ?_; clear hA a; intro a hA
      refine S.no (dj := 130) hA (by kernel_rfl) rfl rfl rfl ?_; clear hA a; intro a hA
      refine S.no (dj := 130) hA (by kernel_rfl) rfl rfl rfl ?_; clear hA a; intro a hA
      refine S.val hA (R.pickF rfl rfl) rfl ?_; clear hA a; intro a hA
      refine S.done ?_
      replace hA : St 153 [(0, _), (7, _), (9, _), (10, _), (11, _), (12, _), (13, _), (17, _), (18, _), (19, _), (136, _)] a := hA.sub ((.cons rfl (.cons rfl (.cons rfl (.cons rfl (.cons rfl (.cons rfl (.cons rfl (.cons rfl (.cons rfl (.cons rfl (.cons rfl .nil))))))))))))
      refine Ends.condF hA rfl ?_
      refine Ends.skip (Ends.inBlock (Ends.region ?_))
      refine S.val hA (R.move rfl) rfl ?_; clear hA a; intro a hA
      refine S.val hA (R.addI rfl rfl (r := 2) rfl (by omega)) rfl ?_; clear hA a; intro a hA
      refine S.val hA (R.assign rfl) rfl ?_; clear hA a; intro a hA
      refine S.done ?_
      refine Ends.inLoop ?_
      refine Ends.seq (Ends.seq (Ends.region ?_))
      refine S.val hA (R.move rfl) rfl ?_; clear hA a; intro a hA
      refine S.val hA (R.tt (R.lss rfl rfl) (by first | decide | simp | omega)) rfl ?_; clear hA a; intro a hA
      refine S.done ?_
      replace hA : St 153 [(0, _), (7, _), (9, _), (10, _), (11, _), (12, _), (13, _), (17, _), (18, _), (19, _), (123, _)] a := hA.sub ((.cons rfl (.cons rfl (.cons rfl (.cons rfl (.cons rfl (.cons rfl (.cons rfl (.cons rfl (.cons rfl (.cons rfl (.cons rfl .nil))))))))))))
      refine Ends.condT hA rfl ?_
      refine Ends.skip (Ends.seq (Ends.block (Ends.seq ?_)))
      have hwl := hP.wl
      by_cases hs43 : ws[2]? = some none
      ·
       have hw2 := hs43
       refine Ends.region ?_
       refine S.val hA (R.move rfl) rfl ?_; clear hA a; intro a hA
       refine S.val hA (R.indexAddrA (q := 2) ar50 rfl rfl (by omega) (rfl)) rfl ?_; clear hA a; intro a hA
       refine S.val hA (R.load sz49 rfl (hM.cell (k := 4) rfl (vals_at _ _ _ (waV_at hw2)))) rfl ?_; clear hA a; intro a hA
       refine S.val hA (R.neqNil Tryd.underlying49 rfl rfl) rfl ?_; clear hA a; intro a hA
       refine S.val hA (R.move rfl) rfl ?_; clear hA a; intro a hA
       refine S.no (dj := 130) hA (by kernel_rfl) rfl rfl rfl ?_; clear hA a; intro a hA
       refine S.no (dj := 130) hA (by kernel_rfl) rfl rfl rfl ?_; clear hA a; intro a hA
       refine S.no (dj := 130) hA (by kernel_rfl) rfl rfl rfl ?_; clear hA a; intro a hA
       refine S.no (dj := 130) hA (by kernel_rfl) rfl rfl rfl ?_; clear hA a; intro a hA
       refine S.no (dj := 130) hA (by kernel_rfl) rfl rfl rfl ?_; clear hA a; intro a hA
       refine S.val hA (R.pickF rfl rfl) rfl ?_; clear hA a; intro a hA
       refine S.done ?_
       replace hA : St 153 [(0, _), (7, _), (9, _), (10, _), (11, _), (12, _), (13, _), (17, _), (18, _), (19, _), (136, _)] a := hA.sub ((.cons rfl (.cons rfl (.cons rfl (.cons rfl (.cons rfl (.cons rfl (.cons rfl (.cons rfl (.cons rfl (.cons rfl (.cons rfl .nil))))))))))))
       refine Ends.condF hA rfl ?_
       refine Ends.skip (Ends.inBlock (Ends.region ?_))
       refine S.val hA (R.move rfl) rfl ?_; clear hA a; intro a hA
       refine S.val hA (R.addI rfl rfl (r := 3) rfl (by omega)) rfl ?_; clear hA a; intro a hA
       refine S.val hA (R.assign rfl) rfl ?_; clear hA a; intro a hA
       refine S.done ?_
       refine Ends.inLoop ?_
       refine Ends.seq (Ends.seq (Ends.region ?_))
       refine S.val hA (R.move rfl) rfl ?_; clear hA a; intro a hA
       refine S.val hA (R.ff (R.lss rfl rfl) (by first | decide | simp | omega)) rfl ?_; clear hA a; intro a hA
       refine S.done ?_
       replace hA : St 153 [(0, _), (7, _), (9, _), (10, _), (11, _), (12, _), (13, _), (17, _), (18, _), (19, _), (123, _)] a := hA.sub ((.cons rfl (.cons rfl (.cons rfl (.cons rfl (.cons rfl (.cons rfl (.cons rfl (.cons rfl (.cons rfl (.cons rfl (.cons rfl .nil))))))))))))
       refine Ends.condF hA rfl ?_
       refine Ends.exit rfl ?_
       refine Ends.seq ?_
       have hall : ∀ (j : Nat) (c : WA), ws[j]? = some (some c) → c.t.ph = 3 := by
        intro j c hj
        have hj3 : j < 3 := by have h1 := (List.getElem?_eq_some_iff.1 hj).1; have := hP.wl; omega
        by_cases e0 : j = 0
        · subst e0; rw [hw0] at hj; cases hj
        by_cases e1 : j = 1
        · subst e1; rw [hw1] at hj; cases hj
        by_cases e2 : j = 2
        · subst e2; rw [hw2] at hj; cases hj
        omega
       obtain ⟨r8, hr8, hl8⟩ := hp_all hP (by omega) hall
       have hr9 : r9 = r8 ∧ e9 = 0 := by have h9 := hO.symm.trans hr8; exact ⟨congrArg Prod.fst h9, congrArg Prod.snd h9⟩
       have hl9 : r9.length = (opsOf es).length := by rw [hr9.1]; exact hl8
       have he9 := hr9.2
       refine Ends.region ?_
       refine S.val hA (R.move rfl) rfl ?_; clear hA a; intro a hA
       refine S.val hA (R.tt (R.eql rfl rfl) (he9)) rfl ?_; clear hA a; intro a hA
       refine S.val hA (R.move rfl) rfl ?_; clear hA a; intro a hA
       refine S.valg (dj := 145) hA (by kernel_rfl) rfl (R.move rfl) rfl ?_; clear hA a; intro a hA
       refine S.valg (dj := 145) hA (by kernel_rfl) rfl (R.lenS Tryd.underlying22 rfl rfl) rfl ?_; clear hA a; intro a hA
       refine S.valg (dj := 145) hA (by kernel_rfl) rfl (R.move rfl) rfl ?_; clear hA a; intro a hA
       replace hM := hM.front (k := 3) rfl
       replace hM := hM.front (k := 3) rfl
       replace hM : Mem _ _ [pt b16 #[.int .i64 ((now : Int)), .slice la es.length lc] 39, own 64 5 (.slice la es.length lc) es.length (entV es), rd ra37 rc38 r9, own 26 4 (.slice pa35 (((opsOf es)).length) pc36) (((opsOf es)).length) (hopV ((opsOf es))), pt b10 ((vals (ws.map waV))) 50, pt b12 ((ints num)) 51, pt b14 ((ints bgl)) 51, pt p6 #[.pointer (some ⟨m4, 0, none⟩), .int .i64 0, .slice (some ⟨nb7, 0, none⟩) n.toNat n.toNat, .slice (some ⟨ob8, 0, none⟩) 3 3] 73, pt ob8 ((vals (gs.map ow0V))) 22, bundle (gs.map ow0C), memO m4 c5 l s op, bundle (ws.map (waC p6)), own 3 1 (.slice sa (((iof 0 n.toNat)).length) sc) (((iof 0 n.toNat)).length) (((iof 0 n.toNat)).map (Value.int .i64))] _ := hM
       refine S.callg (dj := 145) hA (by kernel_rfl) rfl (R.callF Tryd.func12 rfl rfl rfl) rfl (ops21 b16 ((now : Int)) (by omega) la lc es (by omega) _ (hM.hereN 2)) ?_; clear hA a
       rintro e w25 ⟨pa44, pc45, rfl, hn⟩
       replace hM : Mem _ _ [own 26 4 (.slice pa44 (((opsOf es)).length) pc45) (((opsOf es)).length) (hopV ((opsOf es))), pt b16 #[.int .i64 ((now : Int)), .slice la es.length lc] 39, own 64 5 (.slice la es.length lc) es.length (entV es), rd ra37 rc38 r9, own 26 4 (.slice pa35 (((opsOf es)).length) pc36) (((opsOf es)).length) (hopV ((opsOf es))), pt b10 ((vals (ws.map waV))) 50, pt b12 ((ints num)) 51, pt b14 ((ints bgl)) 51, pt p6 #[.pointer (some ⟨m4, 0, none⟩), .int .i64 0, .slice (some ⟨nb7, 0, none⟩) n.toNat n.toNat, .slice (some ⟨ob8, 0, none⟩) 3 3] 73, pt ob8 ((vals (gs.map ow0V))) 22, bundle (gs.map ow0C), memO m4 c5 l s op, bundle (ws.map (waC p6)), own 3 1 (.slice sa (((iof 0 n.toNat)).length) sc) (((iof 0 n.toNat)).length) (((iof 0 n.toNat)).map (Value.int .i64))] _ := hM.callL 2 hn; clear hn
       refine ⟨.slice pa44 (((opsOf es)).length) pc45, rfl, fun a hA => ?_⟩
       refine S.valg (dj := 145) hA (by kernel_rfl) rfl (R.lenS Tryd.underlying23 rfl rfl) rfl ?_; clear hA a; intro a hA
       refine S.valg (dj := 145) hA (by kernel_rfl) rfl (R.tt (R.eql rfl rfl) (by omega)) rfl ?_; clear hA a; intro a hA
       refine S.val hA (R.pickT rfl rfl) rfl ?_; clear hA a; intro a hA
       refine S.val hA (R.assign rfl) rfl ?_; clear hA a; intro a hA
       refine S.done ?_
       replace hA : St 153 [(0, _), (4, _), (7, _), (9, _), (10, _), (11, _), (12, _), (13, _), (17, _), (18, _)] a := hA.sub ((.cons rfl (.cons rfl (.cons rfl (.cons rfl (.cons rfl (.cons rfl (.cons rfl (.cons rfl (.cons rfl (.cons rfl .nil)))))))))))
       refine Ends.ret1 Tryd.func5 Tryd.results5 hA rfl ?_
       exact ⟨rfl, Mem.trans0 hbs hM.nilL⟩
      ·
       obtain ⟨a2, hw2⟩ := wa_some (by omega) hs43
       refine Ends.region ?_
       refine S.val hA (R.move rfl) rfl ?_; clear hA a; intro a hA
       refine S.val hA (R.indexAddrA (q := 2) ar50 rfl rfl (by omega) (rfl)) rfl ?_; clear hA a; intro a hA
       refine S.val hA (R.load sz49 rfl (hM.cell (k := 4) rfl (vals_at _ _ _ (waV_at hw2)))) rfl ?_; clear hA a; intro a hA
       refine S.val hA (R.neqNil Tryd.underlying49 rfl rfl) rfl ?_; clear hA a; intro a hA
       refine S.val hA (R.move rfl) rfl ?_; clear hA a; intro a hA
       refine S.valg (dj := 130) hA (by kernel_rfl) rfl (R.move rfl) rfl ?_; clear hA a; intro a hA
       refine S.valg (dj := 130) hA (by kernel_rfl) rfl (R.indexAddrA (q := 2) ar50 rfl rfl (by omega) (rfl)) rfl ?_; clear hA a; intro a hA
       refine S.valg (dj := 130) hA (by kernel_rfl) rfl (R.load sz49 rfl (hM.cell (k := 4) rfl (vals_at _ _ _ (waV_at hw2)))) rfl ?_; clear hA a; intro a hA
       refine S.callg (dj := 130) hA (by kernel_rfl) rfl (R.callF Tryd.func17 rfl rfl rfl) rfl (pact_over a2.p p6 a2.w a2.t _ (hM.waBlk (k := 11) rfl hw2)) ?_; clear hA a
       rintro e w26 ⟨rfl, rfl⟩
       refine ⟨.bool (decide (a2.t.ph = 3)), rfl, fun a hA => ?_⟩
       refine S.valg (dj := 130) hA (by kernel_rfl) rfl (R.notD rfl) rfl ?_; clear hA a; intro a hA
       refine S.val hA (R.pickT rfl rfl) rfl ?_; clear hA a; intro a hA
       refine S.done ?_
       replace hA : St 153 [(0, _), (7, _), (9, _), (10, _), (11, _), (12, _), (13, _), (17, _), (18, _), (19, _), (136, _)] a := hA.sub ((.cons rfl (.cons rfl (.cons rfl (.cons rfl (.cons rfl (.cons rfl (.cons rfl (.cons rfl (.cons rfl (.cons rfl (.cons rfl .nil))))))))))))
       refine Ends.ite hA rfl (fun hc46 => ?_) (fun hc46 => ?_)
       ·
        refine Ends.seq ?_
        by_cases hs47 : e9 = 0
        ·
         have hse := hp_some hP (by omega)
         rw [hO] at hse
         replace hse : e9 = 0 ∨ e9 = 11 := hse
         refine Ends.region ?_
         refine S.val hA (R.move rfl) rfl ?_; clear hA a; intro a hA
         refine S.val hA (R.tt (R.eql rfl rfl) (hs47)) rfl ?_; clear hA a; intro a hA
         refine S.val hA (R.move rfl) rfl ?_; clear hA a; intro a hA
         refine S.no (dj := 139) hA (by kernel_rfl) rfl rfl rfl ?_; clear hA a; intro a hA
         refine S.no (dj := 139) hA (by kernel_rfl) rfl rfl rfl ?_; clear hA a; intro a hA
         refine S.val hA (R.pickT rfl rfl) rfl ?_; clear hA a; intro a hA
         refine S.val hA (R.assign rfl) rfl ?_; clear hA a; intro a hA
         refine S.done ?_
         replace hA : St 153 [(0, _), (4, _), (7, _), (9, _), (10, _), (11, _), (12, _), (13, _), (17, _), (18, _), (19, _)] a := hA.sub ((.cons rfl (.cons rfl (.cons rfl (.cons rfl (.cons rfl (.cons rfl (.cons rfl (.cons rfl (.cons rfl (.cons rfl (.cons rfl .nil))))))))))))
         refine Ends.ret1 Tryd.func5 Tryd.results5 hA rfl ?_
         exact ⟨rfl, Mem.trans0 hbs hM.nilL⟩
        ·
         have hse := hp_some hP (by omega)
         rw [hO] at hse
         replace hse : e9 = 0 ∨ e9 = 11 := hse
         refine Ends.region ?_
         refine S.val hA (R.move rfl) rfl ?_; clear hA a; intro a hA
         refine S.val hA (R.ff (R.eql rfl rfl) (hs47)) rfl ?_; clear hA a; intro a hA
         refine S.val hA (R.move rfl) rfl ?_; clear hA a; intro a hA
         refine S.valg (dj := 139) hA (by kernel_rfl) rfl (R.move rfl) rfl ?_; clear hA a; intro a hA
         refine S.valg (dj := 139) hA (by kernel_rfl) rfl (R.tt (R.eql rfl rfl) (by omega)) rfl ?_; clear hA a; intro a hA
         refine S.val hA (R.pickF rfl rfl) rfl ?_; clear hA a; intro a hA
         refine S.val hA (R.assign rfl) rfl ?_; clear hA a; intro a hA
         refine S.done ?_
         replace hA : St 153 [(0, _), (4, _), (7, _), (9, _), (10, _), (11, _), (12, _), (13, _), (17, _), (18, _), (19, _)] a := hA.sub ((.cons rfl (.cons rfl (.cons rfl (.cons rfl (.cons rfl (.cons rfl (.cons rfl (.cons rfl (.cons rfl (.cons rfl (.cons rfl .nil))))))))))))
         refine Ends.ret1 Tryd.func5 Tryd.results5 hA rfl ?_
         exact ⟨rfl, Mem.trans0 hbs hM.nilL⟩
       ·
        refine Ends.skip (Ends.inBlock (Ends.region ?_))
        refine S.val hA (R.move rfl) rfl ?_; clear hA a; intro a hA
        refine S.val hA (R.addI rfl rfl (r := 3) rfl (by omega)) rfl ?_; clear hA a; intro a hA
        refine S.val hA (R.assign rfl) rfl ?_; clear hA a; intro a hA
        refine S.done ?_
        refine Ends.inLoop ?_
        refine Ends.seq (Ends.seq (Ends.region ?_))
        refine S.val hA (R.move rfl) rfl ?_; clear hA a; intro a hA
        refine S.val hA (R.ff (R.lss rfl rfl) (by first | decide | simp | omega)) rfl ?_; clear hA a; intro a hA
        refine S.done ?_
        replace hA : St 153 [(0, _), (7, _), (9, _), (10, _), (11, _), (12, _), (13, _), (17, _), (18, _), (19, _), (123, _)] a := hA.sub ((.cons rfl (.cons rfl (.cons rfl (.cons rfl (.cons rfl (.cons rfl (.cons rfl (.cons rfl (.cons rfl (.cons rfl (.cons rfl .nil))))))))))))
        refine Ends.condF hA rfl ?_
        refine Ends.exit rfl ?_
        refine Ends.seq ?_
        have hall : ∀ (j : Nat) (c : WA), ws[j]? = some (some c) → c.t.ph = 3 := by
         intro j c hj
         have hj3 : j < 3 := by have h1 := (List.getElem?_eq_some_iff.1 hj).1; have := hP.wl; omega
         by_cases e0 : j = 0
         · subst e0; rw [hw0] at hj; cases hj
         by_cases e1 : j = 1
         · subst e1; rw [hw1] at hj; cases hj
         by_cases e2 : j = 2
         · subst e2; rw [hw2] at hj; obtain rfl := Option.some.inj (Option.some.inj hj); exact Decidable.not_not.1 hc46
         omega
        obtain ⟨r8, hr8, hl8⟩ := hp_all hP (by omega) hall
        have hr9 : r9 = r8 ∧ e9 = 0 := by have h9 := hO.symm.trans hr8; exact ⟨congrArg Prod.fst h9, congrArg Prod.snd h9⟩
        have hl9 : r9.length = (opsOf es).length := by rw [hr9.1]; exact hl8
        have he9 := hr9.2
        refine Ends.region ?_
        refine S.val hA (R.move rfl) rfl ?_; clear hA a; intro a hA
        refine S.val hA (R.tt (R.eql rfl rfl) (he9)) rfl ?_; clear hA a; intro a hA
        refine S.val hA (R.move rfl) rfl ?_; clear hA a; intro a hA
        refine S.valg (dj := 145) hA (by kernel_rfl) rfl (R.move rfl) rfl ?_; clear hA a; intro a hA
        refine S.valg (dj := 145) hA (by kernel_rfl) rfl (R.lenS Tryd.underlying22 rfl rfl) rfl ?_; clear hA a; intro a hA
        refine S.valg (dj := 145) hA (by kernel_rfl) rfl (R.move rfl) rfl ?_; clear hA a; intro a hA
        replace hM := hM.front (k := 3) rfl
        replace hM := hM.front (k := 3) rfl
        replace hM : Mem _ _ [pt b16 #[.int .i64 ((now : Int)), .slice la es.length lc] 39, own 64 5 (.slice la es.length lc) es.length (entV es), rd ra37 rc38 r9, own 26 4 (.slice pa35 (((opsOf es)).length) pc36) (((opsOf es)).length) (hopV ((opsOf es))), pt b10 ((vals (ws.map waV))) 50, pt b12 ((ints num)) 51, pt b14 ((ints bgl)) 51, pt p6 #[.pointer (some ⟨m4, 0, none⟩), .int .i64 0, .slice (some ⟨nb7, 0, none⟩) n.toNat n.toNat, .slice (some ⟨ob8, 0, none⟩) 3 3] 73, pt ob8 ((vals (gs.map ow0V))) 22, bundle (gs.map ow0C), memO m4 c5 l s op, bundle (ws.map (waC p6)), own 3 1 (.slice sa (((iof 0 n.toNat)).length) sc) (((iof 0 n.toNat)).length) (((iof 0 n.toNat)).map (Value.int .i64))] _ := hM
        refine S.callg (dj := 145) hA (by kernel_rfl) rfl (R.callF Tryd.func12 rfl rfl rfl) rfl (ops21 b16 ((now : Int)) (by omega) la lc es (by omega) _ (hM.hereN 2)) ?_; clear hA a
        rintro e w27 ⟨pa48, pc49, rfl, hn⟩
        replace hM : Mem _ _ [own 26 4 (.slice pa48 (((opsOf es)).length) pc49) (((opsOf es)).length) (hopV ((opsOf es))), pt b16 #[.int .i64 ((now : Int)), .slice la es.length lc] 39, own 64 5 (.slice la es.length lc) es.length (entV es), rd ra37 rc38 r9, own 26 4 (.slice pa35 (((opsOf es)).length) pc36) (((opsOf es)).length) (hopV ((opsOf es))), pt b10 ((vals (ws.map waV))) 50, pt b12 ((ints num)) 51, pt b14 ((ints bgl)) 51, pt p6 #[.pointer (some ⟨m4, 0, none⟩), .int .i64 0, .slice (some ⟨nb7, 0, none⟩) n.toNat n.toNat, .slice (some ⟨ob8, 0, none⟩) 3 3] 73, pt ob8 ((vals (gs.map ow0V))) 22, bundle (gs.map ow0C), memO m4 c5 l s op, bundle (ws.map (waC p6)), own 3 1 (.slice sa (((iof 0 n.toNat)).length) sc) (((iof 0 n.toNat)).length) (((iof 0 n.toNat)).map (Value.int .i64))] _ := hM.callL 2 hn; clear hn
        refine ⟨.slice pa48 (((opsOf es)).length) pc49, rfl, fun a hA => ?_⟩
        refine S.valg (dj := 145) hA (by kernel_rfl) rfl (R.lenS Tryd.underlying23 rfl rfl) rfl ?_; clear hA a; intro a hA
        refine S.valg (dj := 145) hA (by kernel_rfl) rfl (R.tt (R.eql rfl rfl) (by omega)) rfl ?_; clear hA a; intro a hA
        refine S.val hA (R.pickT rfl rfl) rfl ?_; clear hA a; intro a hA
        refine S.val hA (R.assign rfl) rfl ?_; clear hA a; intro a hA
        refine S.done ?_
        replace hA : St 153 [(0, _), (4, _), (7, _), (9, _), (10, _), (11, _), (12, _), (13, _), (17, _), (18, _)] a := hA.sub ((.cons rfl (.cons rfl (.cons rfl (.cons rfl (.cons rfl (.cons rfl (.cons rfl (.cons rfl (.cons rfl (.cons rfl .nil)))))))))))
        refine Ends.ret1 Tryd.func5 Tryd.results5 hA rfl ?_
        exact ⟨rfl, Mem.trans0 hbs hM.nilL⟩
     ·
      obtain ⟨a1, hw1⟩ := wa_some (by omega) hs42
      refine Ends.region ?_
      refine S.val hA (R.move rfl) rfl ?_; clear hA a; intro a hA
      refine S.val hA (R.indexAddrA (q := 1) ar50 rfl rfl (by omega) (rfl)) rfl ?_; clear hA a; intro a hA
      refine S.val hA (R.load sz49 rfl (hM.cell (k := 4) rfl (vals_at _ _ _ (waV_at hw1)))) rfl ?_; clear hA a; intro a hA
      refine S.val hA (R.neqNil Tryd.underlying49 rfl rfl) rfl ?_; clear hA a; intro a hA
      refine S.val hA (R.move rfl) rfl ?_; clear hA a; intro a hA
      refine S.valg (dj := 130) hA (by kernel_rfl) rfl (R.move rfl) rfl ?_; clear hA a; intro a hA
      refine S.valg (dj := 130) hA (by kernel_rfl) rfl (R.indexAddrA (q := 1) ar50 rfl rfl (by omega) (rfl)) rfl ?_; clear hA a; intro a hA
      refine S.valg (dj := 130) hA (by kernel_rfl) rfl (R.load sz49 rfl (hM.cell (k := 4) rfl (vals_at _ _ _ (waV_at hw1)))) rfl ?_; clear hA a; intro a hA
      refine S.callg (dj := 130) hA (by kernel_rfl) rfl (R.callF Tryd.func17 rfl rfl rfl) rfl (pact_over a1.p p6 a1.w a1.t _ (hM.waBlk (k := 11) rfl hw1)) ?_; clear hA a
      rintro e w28 ⟨rfl, rfl⟩
      refine ⟨.bool (decide (a1.t.ph = 3)), rfl, fun a hA => ?_⟩
      refine S.valg (dj := 130) hA (by kernel_rfl) rfl (R.notD rfl) rfl ?_; clear hA a; intro a hA
      refine S.val hA (R.pickT rfl rfl) rfl ?_; clear hA a; intro a hA
      refine S.done ?_
      replace hA : St 153 [(0, _), (7, _), (9, _), (10, _), (11, _), (12, _), (13, _), (17, _), (18, _), (19, _), (136, _)] a := hA.sub ((.cons rfl (.cons rfl (.cons rfl (.cons rfl (.cons rfl (.cons rfl (.cons rfl (.cons rfl (.cons rfl (.cons rfl (.cons rfl .nil))))))))))))
      refine Ends.ite hA rfl (fun hc50 => ?_) (fun hc50 => ?_)
      ·
       refine Ends.seq ?_
       by_cases hs51 : e9 = 0
       ·
        have hse := hp_some hP (by omega)
        rw [hO] at hse
        replace hse : e9 = 0 ∨ e9 = 11 := hse
        refine Ends.region ?_
        refine S.val hA (R.move rfl) rfl ?_; clear hA a; intro a hA
        refine S.val hA (R.tt (R.eql rfl rfl) (hs51)) rfl ?_; clear hA a; intro a hA
        refine S.val hA (R.move rfl) rfl ?_; clear hA a; intro a hA
        refine S.no (dj := 139) hA (by kernel_rfl) rfl rfl rfl ?_; clear hA a; intro a hA
        refine S.no (dj := 139) hA (by kernel_rfl) rfl rfl rfl ?_; clear hA a; intro a hA
        refine S.val hA (R.pickT rfl rfl) rfl ?_; clear hA a; intro a hA
        refine S.val hA (R.assign rfl) rfl ?_; clear hA a; intro a hA
        refine S.done ?_
        replace hA : St 153 [(0, _), (4, _), (7, _), (9, _), (10, _), (11, _), (12, _), (13, _), (17, _), (18, _), (19, _)] a := hA.sub ((.cons rfl (.cons rfl (.cons rfl (.cons rfl (.cons rfl (.cons rfl (.cons rfl (.cons rfl (.cons rfl (.cons rfl (.cons rfl .nil))))))))))))
        refine Ends.ret1 Tryd.func5 Tryd.results5 hA rfl ?_
        exact ⟨rfl, Mem.trans0 hbs hM.nilL⟩
       ·
        have hse := hp_some hP (by omega)
        rw [hO] at hse
        replace hse : e9 = 0 ∨ e9 = 11 := hse
        refine Ends.region ?_
        refine S.val hA (R.move rfl) rfl ?_; clear hA a; intro a hA
        refine S.val hA (R.ff (R.eql rfl rfl) (hs51)) rfl ?_; clear hA a; intro a hA
        refine S.val hA (R.move rfl) rfl ?_; clear hA a; intro a hA
        refine S.valg (dj := 139) hA (by kernel_rfl) rfl (R.move rfl) rfl ?_; clear hA a; intro a hA
        refine S.valg (dj := 139) hA (by kernel_rfl) rfl (R.tt (R.eql rfl rfl) (by omega)) rfl ?_; clear hA a; intro a hA
        refine S.val hA (R.pickF rfl rfl) rfl ?_; clear hA a; intro a hA
        refine S.val hA (R.assign rfl) rfl ?_; clear hA a; intro a hA
        refine S.done ?_
        replace hA : St 153 [(0, _), (4, _), (7, _), (9, _), (10, _), (11, _), (12, _), (13, _), (17, _), (18, _), (19, _)] a := hA.sub ((.cons rfl (.cons rfl (.cons rfl (.cons rfl (.cons rfl (.cons rfl (.cons rfl (.cons rfl (.cons rfl (.cons rfl (.cons rfl .nil))))))))))))
        refine Ends.ret1 Tryd.func5 Tryd.results5 hA rfl ?_
        exact ⟨rfl, Mem.trans0 hbs hM.nilL⟩
      ·
       refine Ends.skip (Ends.inBlock (Ends.region ?_))
       refine S.val hA (R.move rfl) rfl ?_; clear hA a; intro a hA
       refine S.val hA (R.addI rfl rfl (r := 2) rfl (by omega)) rfl ?_; clear hA a; intro a hA
       refine S.val hA (R.assign rfl) rfl ?_; clear hA a; intro a hA
       refine S.done ?_
       refine Ends.inLoop ?_
       refine Ends.seq (Ends.seq (Ends.region ?_))
       refine S.val hA (R.move rfl) rfl ?_; clear hA a; intro a hA
       refine S.val hA (R.tt (R.lss rfl rfl) (by first | decide | simp | omega)) rfl ?_; clear hA a; intro a hA
       refine S.done ?_
       replace hA : St 153 [(0, _), (7, _), (9, _), (10, _), (11, _), (12, _), (13, _), (17, _), (18, _), (19, _), (123, _)] a := hA.sub ((.cons rfl (.cons rfl (.cons rfl (.cons rfl (.cons rfl (.cons rfl (.cons rfl (.cons rfl (.cons rfl (.cons rfl (.cons rfl .nil))))))))))))
       refine Ends.condT hA rfl ?_
       refine Ends.skip (Ends.seq (Ends.block (Ends.seq ?_)))
       have hwl := hP.wl
       by_cases hs52 : ws[2]? = some none
       ·
        have hw2 := hs52
        refine Ends.region ?_
        refine S.val hA (R.move rfl) rfl ?_; clear hA a; intro a hA
        refine S.val hA (R.indexAddrA (q := 2) ar50 rfl rfl (by omega) (rfl)) rfl ?_; clear hA a; intro a hA
        refine S.val hA (R.load sz49 rfl (hM.cell (k := 4) rfl (vals_at _ _ _ (waV_at hw2)))) rfl ?_; clear hA a; intro a hA
        refine S.val hA (R.neqNil Tryd.underlying49 rfl rfl) rfl ?_; clear hA a; intro a hA
        refine S.val hA (R.move rfl) rfl ?_; clear hA a; intro a hA
        refine S.no (dj := 130) hA (by kernel_rfl) rfl rfl rfl ?_; clear hA a; intro a hA
        refine S.no (dj := 130) hA (by kernel_rfl) rfl rfl rfl ?_; clear hA a; intro a hA
        refine S.no (dj := 130) hA (by kernel_rfl) rfl rfl rfl ?_; clear hA a; intro a hA
        refine S.no (dj := 130) hA (by kernel_rfl) rfl rfl rfl ?_; clear hA a; intro a hA
        refine S.no (dj := 130) hA (by kernel_rfl) rfl rfl rfl ?_; clear hA a; intro a hA
        refine S.val hA (R.pickF rfl rfl) rfl ?_; clear hA a; intro a hA
        refine S.done ?_
        replace hA : St 153 [(0, _), (7, _), (9, _), (10, _), (11, _), (12, _), (13, _), (17, _), (18, _), (19, _), (136, _)] a := hA.sub ((.cons rfl (.cons rfl (.cons rfl (.cons rfl (.cons rfl (.cons rfl (.cons rfl (.cons rfl (.cons rfl (.cons rfl (.cons rfl .nil))))))))))))
        refine Ends.condF hA rfl ?_
        refine Ends.skip (Ends.inBlock (Ends.region ?_))
        refine S.val hA (R.move rfl) rfl ?_; clear hA a; intro a hA
        refine S.val hA (R.addI rfl rfl (r := 3) rfl (by omega)) rfl ?_; clear hA a; intro a hA
        refine S.val hA (R.assign rfl) rfl ?_; clear hA a; intro a hA
        refine S.done ?_
        refine Ends.inLoop ?_
        refine Ends.seq (Ends.seq (Ends.region ?_))
        refine S.val hA (R.move rfl) rfl ?_; clear hA a; intro a hA
        refine S.val hA (R.ff (R.lss rfl rfl) (by first | decide | simp | omega)) rfl ?_; clear hA a; intro a hA
        refine S.done ?_
        replace hA : St 153 [(0, _), (7, _), (9, _), (10, _), (11, _), (12, _), (13, _), (17, _), (18, _), (19, _), (123, _)] a := hA.sub ((.cons rfl (.cons rfl (.cons rfl (.cons rfl (.cons rfl (.cons rfl (.cons rfl (.cons rfl (.cons rfl (.cons rfl (.cons rfl .nil))))))))))))
        refine Ends.condF hA rfl ?_
        refine Ends.exit rfl ?_
        refine Ends.seq ?_
        have hall : ∀ (j : Nat) (c : WA), ws[j]? = some (some c) → c.t.ph = 3 := by
         intro j c hj
         have hj3 : j < 3 := by have h1 := (List.getElem?_eq_some_iff.1 hj).1; have := hP.wl; omega
         by_cases e0 : j = 0
         · subst e0; rw [hw0] at hj; cases hj
         by_cases e1 : j = 1
         · subst e1; rw [hw1] at hj; obtain rfl := Option.some.inj (Option.some.inj hj); exact Decidable.not_not.1 hc50
         by_cases e2 : j = 2
         · subst e2; rw [hw2] at hj; cases hj
         omega
        obtain ⟨r8, hr8, hl8⟩ := hp_all hP (by omega) hall
        have hr9 : r9 = r8 ∧ e9 = 0 := by have h9 := hO.symm.trans hr8; exact ⟨congrArg Prod.fst h9, congrArg Prod.snd h9⟩
        have hl9 : r9.length = (opsOf es).length := by rw [hr9.1]; exact hl8
        have he9 := hr9.2
        refine Ends.region ?_
        refine S.val hA (R.move rfl) rfl ?_; clear hA a; intro a hA
        refine S.val hA (R.tt (R.eql rfl rfl) (he9)) rfl ?_; clear hA a; intro a hA
        refine S.val hA (R.move rfl) rfl ?_; clear hA a; intro a hA
        refine S.valg (dj := 145) hA (by kernel_rfl) rfl (R.move rfl) rfl ?_; clear hA a; intro a hA
        refine S.valg (dj := 145) hA (by kernel_rfl) rfl (R.lenS Tryd.underlying22 rfl rfl) rfl ?_; clear hA a; intro a hA
        refine S.valg (dj := 145) hA (by kernel_rfl) rfl (R.move rfl) rfl ?_; clear hA a; intro a hA
        replace hM := hM.front (k := 3) rfl
        replace hM := hM.front (k := 3) rfl
        replace hM : Mem _ _ [pt b16 #[.int .i64 ((now : Int)), .slice la es.length lc] 39, own 64 5 (.slice la es.length lc) es.length (entV es), rd ra37 rc38 r9, own 26 4 (.slice pa35 (((opsOf es)).length) pc36) (((opsOf es)).length) (hopV ((opsOf es))), pt b10 ((vals (ws.map waV))) 50, pt b12 ((ints num)) 51, pt b14 ((ints bgl)) 51, pt p6 #[.pointer (some ⟨m4, 0, none⟩), .int .i64 0, .slice (some ⟨nb7, 0, none⟩) n.toNat n.toNat, .slice (some ⟨ob8, 0, none⟩) 3 3] 73, pt ob8 ((vals (gs.map ow0V))) 22, bundle (gs.map ow0C), memO m4 c5 l s op, bundle (ws.map (waC p6)), own 3 1 (.slice sa (((iof 0 n.toNat)).length) sc) (((iof 0 n.toNat)).length) (((iof 0 n.toNat)).map (Value.int .i64))] _ := hM
        refine S.callg (dj := 145) hA (by kernel_rfl) rfl (R.callF Tryd.func12 rfl rfl rfl) rfl (ops21 b16 ((now : Int)) (by omega) la lc es (by omega) _ (hM.hereN 2)) ?_; clear hA a
        rintro e w29 ⟨pa53, pc54, rfl, hn⟩
        replace hM : Mem _ _ [own 26 4 (.slice pa53 (((opsOf es)).length) pc54) (((opsOf es)).length) (hopV ((opsOf es))), pt b16 #[.int .i64 ((now : Int)), .slice la es.length lc] 39, own 64 5 (.slice la es.length lc) es.length (entV es), rd ra37 rc38 r9, own 26 4 (.slice pa35 (((opsOf es)).length) pc36) (((opsOf es)).length) (hopV ((opsOf es))), pt b10 ((vals (ws.map waV))) 50, pt b12 ((ints num)) 51, pt b14 ((ints bgl)) 51, pt p6 #[.pointer (some ⟨m4, 0, none⟩), .int .i64 0, .slice (some ⟨nb7, 0, none⟩) n.toNat n.toNat, .slice (some ⟨ob8, 0, none⟩) 3 3] 73, pt ob8 ((vals (gs.map ow0V))) 22, bundle (gs.map ow0C), memO m4 c5 l s op, bundle (ws.map (waC p6)), own 3 1 (.slice sa (((iof 0 n.toNat)).length) sc) (((iof 0 n.toNat)).length) (((iof 0 n.toNat)).map (Value.int .i64))] _ := hM.callL 2 hn; clear hn
        refine ⟨.slice pa53 (((opsOf es)).length) pc54, rfl, fun a hA => ?_⟩
        refine S.valg (dj := 145) hA (by kernel_rfl) rfl (R.lenS Tryd.underlying23 rfl rfl) rfl ?_; clear hA a; intro a hA
        refine S.valg (dj := 145) hA (by kernel_rfl) rfl (R.tt (R.eql rfl rfl) (by omega)) rfl ?_; clear hA a; intro a hA
        refine S.val hA (R.pickT rfl rfl) rfl ?_; clear hA a; intro a hA
        refine S.val hA (R.assign rfl) rfl ?_; clear hA a; intro a hA
        refine S.done ?_
        replace hA : St 153 [(0, _), (4, _), (7, _), (9, _), (10, _), (11, _), (12, _), (13, _), (17, _), (18, _)] a := hA.sub ((.cons rfl (.cons rfl (.cons rfl (.cons rfl (.cons rfl (.cons rfl (.cons rfl (.cons rfl (.cons rfl (.cons rfl .nil)))))))))))
        refine Ends.ret1 Tryd.func5 Tryd.results5 hA rfl ?_
        exact ⟨rfl, Mem.trans0 hbs hM.nilL⟩
       ·
        obtain ⟨a2, hw2⟩ := wa_some (by omega) hs52
        refine Ends.region ?_
        refine S.val hA (R.move rfl) rfl ?_; clear hA a; intro a hA
        refine S.val hA (R.indexAddrA (q := 2) ar50 rfl rfl (by omega) (rfl)) rfl ?_; clear hA a; intro a hA
        refine S.val hA (R.load sz49 rfl (hM.cell (k := 4) rfl (vals_at _ _ _ (waV_at hw2)))) rfl ?_; clear hA a; intro a hA
        refine S.val hA (R.neqNil Tryd.underlying49 rfl rfl) rfl ?_; clear hA a; intro a hA
        refine S.val hA (R.move rfl) rfl ?_; clear hA a; intro a hA
        refine S.valg (dj := 130) hA (by kernel_rfl) rfl (R.move rfl) rfl ?_; clear hA a; intro a hA
        refine S.valg (dj := 130) hA (by kernel_rfl) rfl (R.indexAddrA (q := 2) ar50 rfl rfl (by omega) (rfl)) rfl ?_; clear hA a; intro a hA
        refine S.valg (dj := 130) hA (by kernel_rfl) rfl (R.load sz49 rfl (hM.cell (k := 4) rfl (vals_at _ _ _ (waV_at hw2)))) rfl ?_; clear hA a; intro a hA
        refine S.callg (dj := 130) hA (by kernel_rfl) rfl (R.callF Tryd.func17 rfl rfl rfl) rfl (pact_over a2.p p6 a2.w a2.t _ (hM.waBlk (k := 11) rfl hw2)) ?_; clear hA a
        rintro e w30 ⟨rfl, rfl⟩
        refine ⟨.bool (decide (a2.t.ph = 3)), rfl, fun a hA => ?_⟩
        refine S.valg (dj := 130) hA (by kernel_rfl) rfl (R.notD rfl) rfl ?_; clear hA a; intro a hA
        refine S.val hA (R.pickT rfl rfl) rfl ?_; clear hA a; intro a hA
        refine S.done ?_
        replace hA : St 153 [(0, _), (7, _), (9, _), (10, _), (11, _), (12, _), (13, _), (17, _), (18, _), (19, _), (136, _)] a := hA.sub ((.cons rfl (.cons rfl (.cons rfl (.cons rfl (.cons rfl (.cons rfl (.cons rfl (.cons rfl (.cons rfl (.cons rfl (.cons rfl .nil))))))))))))
        refine Ends.ite hA rfl (fun hc55 => ?_) (fun hc55 => ?_)
        ·
         refine Ends.seq ?_
         by_cases hs56 : e9 = 0
         ·
          have hse := hp_some hP (by omega)
          rw [hO] at hse
          replace hse : e9 = 0 ∨ e9 = 11 := hse
          refine Ends.region ?_
          refine S.val hA (R.move rfl) rfl ?_; clear hA a; intro a hA
          refine S.val hA (R.tt (R.eql rfl rfl) (hs56)) rfl ?_; clear hA a; intro a hA
          refine S.val hA (R.move rfl) rfl ?_; clear hA a; intro a hA
          refine S.no (dj := 139) hA (by kernel_rfl) rfl rfl rfl ?_; clear hA a; intro a hA
          refine S.no (dj := 139) hA (by kernel_rfl) rfl rfl rfl ?_; clear hA a; intro a hA
          refine S.val hA (R.pickT rfl rfl) rfl ?_; clear hA a; intro a hA
          refine S.val hA (R.assign rfl) rfl ?_; clear hA a; intro a hA
          refine S.done ?_
          replace hA : St 153 [(0, _), (4, _), (7, _), (9, _), (10, _), (11, _), (12, _), (13, _), (17, _), (18, _), (19, _)] a := hA.sub ((.cons rfl (.cons rfl (.cons rfl (.cons rfl (.cons rfl (.cons rfl (.cons rfl (.cons rfl (.cons rfl (.cons rfl (.cons rfl .nil))))))))))))
          refine Ends.ret1 Tryd.func5 Tryd.results5 hA rfl ?_
          exact ⟨rfl, Mem.trans0 hbs hM.nilL⟩
         ·
          have hse := hp_some hP (by omega)
          rw [hO] at hse
          replace hse : e9 = 0 ∨ e9 = 11 := hse
          refine Ends.region ?_
          refine S.val hA (R.move rfl) rfl ?_; clear hA a; intro a hA
          refine S.val hA (R.ff (R.eql rfl rfl) (hs56)) rfl ?_; clear hA a; intro a hA
          refine S.val hA (R.move rfl) rfl ?_; clear hA a; intro a hA
          refine S.valg (dj := 139) hA (by kernel_rfl) rfl (R.move rfl) rfl ?_; clear hA a; intro a hA
          refine S.valg (dj := 139) hA (by kernel_rfl) rfl (R.tt (R.eql rfl rfl) (by omega)) rfl ?_; clear hA a; intro a hA
          refine S.val hA (R.pickF rfl rfl) rfl ?_; clear hA a; intro a hA
          refine S.val hA (R.assign rfl) rfl ?_; clear hA a; intro a hA
          refine S.done ?_
          replace hA : St 153 [(0, _), (4, _), (7, _), (9, _), (10, _), (11, _), (12, _), (13, _), (17, _), (18, _), (19, _)] a := hA.sub ((.cons rfl (.cons rfl (.cons rfl (.cons rfl (.cons rfl (.cons rfl (.cons rfl (.cons rfl (.cons rfl (.cons rfl (.cons rfl .nil))))))))))))
          refine Ends.ret1 Tryd.func5 Tryd.results5 hA rfl ?_
          exact ⟨rfl, Mem.trans0 hbs hM.nilL⟩
        ·
         refine Ends.skip (Ends.inBlock (Ends.region ?_))
         refine S.val hA (R.move rfl) rfl ?_; clear hA a; intro a hA
         refine S.val hA (R.addI rfl rfl (r := 3) rfl (by omega)) rfl ?_; clear hA a; intro a hA
         refine S.val hA (R.assign rfl) rfl ?_; clear hA a; intro a hA
         refine S.done ?_
         refine Ends.inLoop ?_
         refine Ends.seq (Ends.seq (Ends.region ?_))
         refine S.val hA (R.move rfl) rfl ?_; clear hA a; intro a hA
         refine S.val hA (R.ff (R.lss rfl rfl) (by first | decide | simp | omega)) rfl ?_; clear hA a; intro a hA
         refine S.done ?_
         replace hA : St 153 [(0, _), (7, _), (9, _), (10, _), (11, _), (12, _), (13, _), (17, _), (18, _), (19, _), (123, _)] a := hA.sub ((.cons rfl (.cons rfl (.cons rfl (.cons rfl (.cons rfl (.cons rfl (.cons rfl (.cons rfl (.cons rfl (.cons rfl (.cons rfl .nil))))))))))))
         refine Ends.condF hA rfl ?_
         refine Ends.exit rfl ?_
         refine Ends.seq ?_
         have hall : ∀ (j : Nat) (c : WA), ws[j]? = some (some c) → c.t.ph = 3 := by
          intro j c hj
          have hj3 : j < 3 := by have h1 := (List.getElem?_eq_some_iff.1 hj).1; have := hP.wl; omega
          by_cases e0 : j = 0
          · subst e0; rw [hw0] at hj; cases hj
          by_cases e1 : j = 1
          · subst e1; rw [hw1] at hj; obtain rfl := Option.some.inj (Option.some.inj hj); exact Decidable.not_not.1 hc50
          by_cases e2 : j = 2
          · subst e2; rw [hw2] at hj; obtain rfl := Option.some.inj (Option.some.inj hj); exact Decidable.not_not.1 hc55
          omega
         obtain ⟨r8, hr8, hl8⟩ := hp_all hP (by omega) hall
         have hr9 : r9 = r8 ∧ e9 = 0 := by have h9 := hO.symm.trans hr8; exact ⟨congrArg Prod.fst h9, congrArg Prod.snd h9⟩
         have hl9 : r9.length = (opsOf es).length := by rw [hr9.1]; exact hl8
         have he9 := hr9.2
         refine Ends.region ?_
         refine S.val hA (R.move rfl) rfl ?_; clear hA a; intro a hA
         refine S.val hA (R.tt (R.eql rfl rfl) (he9)) rfl ?_; clear hA a; intro a hA
         refine S.val hA (R.move rfl) rfl ?_; clear hA a; intro a hA
         refine S.valg (dj := 145) hA (by kernel_rfl) rfl (R.move rfl) rfl ?_; clear hA a; intro a hA
         refine S.valg (dj := 145) hA (by kernel_rfl) rfl (R.lenS Tryd.underlying22 rfl rfl) rfl ?_; clear hA a; intro a hA
         refine S.valg (dj := 145) hA (by kernel_rfl) rfl (R.move rfl) rfl ?_; clear hA a; intro a hA
         replace hM := hM.front (k := 3) rfl
         replace hM := hM.front (k := 3) rfl
         replace hM : Mem _ _ [pt b16 #[.int .i64 ((now : Int)), .slice la es.length lc] 39, own 64 5 (.slice la es.length lc) es.length (entV es), rd ra37 rc38 r9, own 26 4 (.slice pa35 (((opsOf es)).length) pc36) (((opsOf es)).length) (hopV ((opsOf es))), pt b10 ((vals (ws.map waV))) 50, pt b12 ((ints num)) 51, pt b14 ((ints bgl)) 51, pt p6 #[.pointer (some ⟨m4, 0, none⟩), .int .i64 0, .slice (some ⟨nb7, 0, none⟩) n.toNat n.toNat, .slice (some ⟨ob8, 0, none⟩) 3 3] 73, pt ob8 ((vals (gs.map ow0V))) 22, bundle (gs.map ow0C), memO m4 c5 l s op, bundle (ws.map (waC p6)), own 3 1 (.slice sa (((iof 0 n.toNat)).length) sc) (((iof 0 n.toNat)).length) (((iof 0 n.toNat)).map (Value.int .i64))] _ := hM
         refine S.callg (dj := 145) hA (by kernel_rfl) rfl (R.callF Tryd.func12 rfl rfl rfl) rfl (ops21 b16 ((now : Int)) (by omega) la lc es (by omega) _ (hM.hereN 2)) ?_; clear hA a
         rintro e w31 ⟨pa57, pc58, rfl, hn⟩
         replace hM : Mem _ _ [own 26 4 (.slice pa57 (((opsOf es)).length) pc58) (((opsOf es)).length) (hopV ((opsOf es))), pt b16 #[.int .i64 ((now : Int)), .slice la es.length lc] 39, own 64 5 (.slice la es.length lc) es.length (entV es), rd ra37 rc38 r9, own 26 4 (.slice pa35 (((opsOf es)).length) pc36) (((opsOf es)).length) (hopV ((opsOf es))), pt b10 ((vals (ws.map waV))) 50, pt b12 ((ints num)) 51, pt b14 ((ints bgl)) 51, pt p6 #[.pointer (some ⟨m4, 0, none⟩), .int .i64 0, .slice (some ⟨nb7, 0, none⟩) n.toNat n.toNat, .slice (some ⟨ob8, 0, none⟩) 3 3] 73, pt ob8 ((vals (gs.map ow0V))) 22, bundle (gs.map ow0C), memO m4 c5 l s op, bundle (ws.map (waC p6)), own 3 1 (.slice sa (((iof 0 n.toNat)).length) sc) (((iof 0 n.toNat)).length) (((iof 0 n.toNat)).map (Value.int .i64))] _ := hM.callL 2 hn; clear hn
         refine ⟨.slice pa57 (((opsOf es)).length) pc58, rfl, fun a hA => ?_⟩
         refine S.valg (dj := 145) hA (by kernel_rfl) rfl (R.lenS Tryd.underlying23 rfl rfl) rfl ?_; clear hA a; intro a hA
         refine S.valg (dj := 145) hA (by kernel_rfl) rfl (R.tt (R.eql rfl rfl) (by omega)) rfl ?_; clear hA a; intro a hA
         refine S.val hA (R.pickT rfl rfl) rfl ?_; clear hA a; intro a hA
         refine S.val hA (R.assign rfl) rfl ?_; clear hA a; intro a hA
         refine S.done ?_
         replace hA : St 153 [(0, _), (4, _), (7, _), (9, _), (10, _), (11, _), (12, _), (13, _), (17, _), (18, _)] a := hA.sub ((.cons rfl (.cons rfl (.cons rfl (.cons rfl (.cons rfl (.cons rfl (.cons rfl (.cons rfl (.cons rfl (.cons rfl .nil)))))))))))
         refine Ends.ret1 Tryd.func5 Tryd.results5 hA rfl ?_
         exact ⟨rfl, Mem.trans0 hbs hM.nilL⟩
    ·
     obtain ⟨a0, hw0⟩ := wa_some (by omega) hs41
     refine Ends.region ?_
     refine S.val hA (R.move rfl) rfl ?_; clear hA a; intro a hA
     refine S.val hA (R.indexAddrA (q := 0) ar50 rfl rfl (by omega) (rfl)) rfl ?_; clear hA a; intro a hA
     refine S.val hA (R.load sz49 rfl (hM.cell (k := 4) rfl (vals_at _ _ _ (waV_at hw0)))) rfl ?_; clear hA a; intro a hA
     refine S.val hA (R.neqNil Tryd.underlying49 rfl rfl) rfl ?_; clear hA a; intro a hA
     refine S.val hA (R.move rfl) rfl ?_; clear hA a; intro a hA
     refine S.valg (dj := 130) hA (by kernel_rfl) rfl (R.move rfl) rfl ?_; clear hA a; intro a hA
     refine S.valg (dj := 130) hA (by kernel_rfl) rfl (R.indexAddrA (q := 0) ar50 rfl rfl (by omega) (rfl)) rfl ?_; clear hA a; intro a hA
     refine S.valg (dj := 130) hA (by kernel_rfl) rfl (R.load sz49 rfl (hM.cell (k := 4) rfl (vals_at _ _ _ (waV_at hw0)))) rfl ?_; clear hA a; intro a hA
     refine S.callg (dj := 130) hA (by kernel_rfl) rfl (R.callF Tryd.func17 rfl rfl rfl) rfl (pact_over a0.p p6 a0.w a0.t _ (hM.waBlk (k := 11) rfl hw0)) ?_; clear hA a
     rintro e w32 ⟨rfl, rfl⟩
     refine ⟨.bool (decide (a0.t.ph = 3)), rfl, fun a hA => ?_⟩
     refine S.valg (dj := 130) hA (by kernel_rfl) rfl (R.notD rfl) rfl ?_; clear hA a; intro a hA
     refine S.val hA (R.pickT rfl rfl) rfl ?_; clear hA a; intro a hA
     refine S.done ?_
     replace hA : St 153 [(0, _), (7, _), (9, _), (10, _), (11, _), (12, _), (13, _), (17, _), (18, _), (19, _), (136, _)] a := hA.sub ((.cons rfl (.cons rfl (.cons rfl (.cons rfl (.cons rfl (.cons rfl (.cons rfl (.cons rfl (.cons rfl (.cons rfl (.cons rfl .nil))))))))))))
     refine Ends.ite hA rfl (fun hc59 => ?_) (fun hc59 => ?_)
     ·
      refine Ends.seq ?_
      by_cases hs60 : e9 = 0
      ·
       have hse := hp_some hP (by omega)
       rw [hO] at hse
       replace hse : e9 = 0 ∨ e9 = 11 := hse
       refine Ends.region ?_
       refine S.val hA (R.move rfl) rfl ?_; clear hA a; intro a hA
       refine S.val hA (R.tt (R.eql rfl rfl) (hs60)) rfl ?_; clear hA a; intro a hA
       refine S.val hA (R.move rfl) rfl ?_; clear hA a; intro a hA
       refine S.no (dj := 139) hA (by kernel_rfl) rfl rfl rfl ?_; clear hA a; intro a hA
       refine S.no (dj := 139) hA (by kernel_rfl) rfl rfl rfl ?_; clear hA a; intro a hA
       refine S.val hA (R.pickT rfl rfl) rfl ?_; clear hA a; intro a hA
       refine S.val hA (R.assign rfl) rfl ?_; clear hA a; intro a hA
       refine S.done ?_
       replace hA : St 153 [(0, _), (4, _), (7, _), (9, _), (10, _), (11, _), (12, _), (13, _), (17, _), (18, _), (19, _)] a := hA.sub ((.cons rfl (.cons rfl (.cons rfl (.cons rfl (.cons rfl (.cons rfl (.cons rfl (.cons rfl (.cons rfl (.cons rfl (.cons rfl .nil))))))))))))
       refine Ends.ret1 Tryd.func5 Tryd.results5 hA rfl ?_
       exact ⟨rfl, Mem.trans0 hbs hM.nilL⟩
      ·
       have hse := hp_some hP (by omega)
       rw [hO] at hse
       replace hse : e9 = 0 ∨ e9 = 11 := hse
       refine Ends.region ?_
       refine S.val hA (R.move rfl) rfl ?_; clear hA a; intro a hA
       refine S.val hA (R.ff (R.eql rfl rfl) (hs60)) rfl ?_; clear hA a; intro a hA
       refine S.val hA (R.move rfl) rfl ?_; clear hA a; intro a hA
       refine S.valg (dj := 139) hA (by kernel_rfl) rfl (R.move rfl) rfl ?_; clear hA a; intro a hA
       refine S.valg (dj := 139) hA (by kernel_rfl) rfl (R.tt (R.eql rfl rfl) (by omega)) rfl ?_; clear hA a; intro a hA
       refine S.val hA (R.pickF rfl rfl) rfl ?_; clear hA a; intro a hA
       refine S.val hA (R.assign rfl) rfl ?_; clear hA a; intro a hA
       refine S.done ?_
       replace hA : St 153 [(0, _), (4, _), (7, _), (9, _), (10, _), (11, _), (12, _), (13, _), (17, _), (18, _), (19, _)] a := hA.sub ((.cons rfl (.cons rfl (.cons rfl (.cons rfl (.cons rfl (.cons rfl (.cons rfl (.cons rfl (.cons rfl (.cons rfl (.cons rfl .nil))))))))))))
       refine Ends.ret1 Tryd.func5 Tryd.results5 hA rfl ?_
       exact ⟨rfl, Mem.trans0 hbs hM.nilL⟩
     ·
      refine Ends.skip (Ends.inBlock (Ends.region ?_))
      refine S.val hA (R.move rfl) rfl ?_; clear hA a; intro a hA
      refine S.val hA (R.addI rfl rfl (r := 1) rfl (by omega)) rfl ?_; clear hA a; intro a hA
      refine S.val hA (R.assign rfl) rfl ?_; clear hA a; intro a hA
      refine S.done ?_
      refine Ends.inLoop ?_
      refine Ends.seq (Ends.seq (Ends.region ?_))
      refine S.val hA (R.move rfl) rfl ?_; clear hA a; intro a hA
      refine S.val hA (R.tt (R.lss rfl rfl) (by first | decide | simp | omega)) rfl ?_; clear hA a; intro a hA
      refine S.done ?_
      replace hA : St 153 [(0, _), (7, _), (9, _), (10, _), (11, _), (12, _), (13, _), (17, _), (18, _), (19, _), (123, _)] a := hA.sub ((.cons rfl (.cons rfl (.cons rfl (.cons rfl (.cons rfl (.cons rfl (.cons rfl (.cons rfl (.cons rfl (.cons rfl (.cons rfl .nil))))))))))))
      refine Ends.condT hA rfl ?_
      refine Ends.skip (Ends.seq (Ends.block (Ends.seq ?_)))
      have hwl := hP.wl
      by_cases hs61 : ws[1]? = some none
      ·
       have hw1 := hs61
       refine Ends.region ?_
       refine S.val hA (R.move rfl) rfl ?_; clear hA a; intro a hA
       refine S.val hA (R.indexAddrA (q := 1) ar50 rfl rfl (by omega) (rfl)) rfl ?_; clear hA a; intro a hA
       refine S.val hA (R.load sz49 rfl (hM.cell (k := 4) rfl (vals_at _ _ _ (waV_at hw1)))) rfl ?_; clear hA a; intro a hA
       refine S.val hA (R.neqNil Tryd.underlying49 rfl rfl) rfl ?_; clear hA a; intro a hA
       refine S.val hA (R.move rfl) rfl ?_; clear hA a; intro a hA
       refine S.no (dj := 130) hA (by kernel_rfl) rfl rfl rfl ?_; clear hA a; intro a hA
       refine S.no (dj := 130) hA (by kernel_rfl) rfl rfl rfl ?_; clear hA a; intro a hA
       refine S.no (dj := 130) hA (by kernel_rfl) rfl rfl rfl ?_; clear hA a; intro a hA
       refine S.no (dj := 130) hA (by kernel_rfl) rfl rfl rfl ?_; clear hA a; intro a hA
       refine S.no (dj := 130) hA (by kernel_rfl) rfl rfl rfl ?_; clear hA a; intro a hA
       refine S.val hA (R.pickF rfl rfl) rfl ?_; clear hA a; intro a hA
       refine S.done ?_
       replace hA : St 153 [(0, _), (7, _), (9, _), (10, _), (11, _), (12, _), (13, _), (17, _), (18, _), (19, _), (136, _)] a := hA.sub ((.cons rfl (.cons rfl (.cons rfl (.cons rfl (.cons rfl (.cons rfl (.cons rfl (.cons rfl (.cons rfl (.cons rfl (.cons rfl .nil))))))))))))
       refine Ends.condF hA rfl ?_
       refine Ends.skip (Ends.inBlock (Ends.region ?_))
       refine S.val hA (R.move rfl) rfl ?_; clear hA a; intro a hA
       refine S.val hA (R.addI rfl rfl (r := 2) rfl (by omega)) rfl ?_; clear hA a; intro a hA
       refine S.val hA (R.assign rfl) rfl ?_; clear hA a; intro a hA
       refine S.done ?_
       refine Ends.inLoop ?_
       refine Ends.seq (Ends.seq (Ends.region ?_))
       refine S.val hA (R.move rfl) rfl ?_; clear hA a; intro a hA
       refine S.val hA (R.tt (R.lss rfl rfl) (by first | decide | simp | omega)) rfl ?_; clear hA a; intro a hA
       refine S.done ?_
       replace hA : St 153 [(0, _), (7, _), (9, _), (10, _), (11, _), (12, _), (13, _), (17, _), (18, _), (19, _), (123, _)] a := hA.sub ((.cons rfl (.cons rfl (.cons rfl (.cons rfl (.cons rfl (.cons rfl (.cons rfl (.cons rfl (.cons rfl (.cons rfl (.cons rfl .nil))))))))))))
       refine Ends.condT hA rfl ?_
       refine Ends.skip (Ends.seq (Ends.block (Ends.seq ?_)))
       have hwl := hP.wl
       by_cases hs62 : ws[2]? = some none
       ·
        have hw2 := hs62
        refine Ends.region ?_
        refine S.val hA (R.move rfl) rfl ?_; clear hA a; intro a hA
        refine S.val hA (R.indexAddrA (q := 2) ar50 rfl rfl (by omega) (rfl)) rfl ?_; clear hA a; intro a hA
        refine S.val hA (R.load sz49 rfl (hM.cell (k := 4) rfl (vals_at _ _ _ (waV_at hw2)))) rfl ?_; clear hA a; intro a hA
        refine S.val hA (R.neqNil Tryd.underlying49 rfl rfl) rfl ?_; clear hA a; intro a hA
        refine S.val hA (R.move rfl) rfl ?_; clear hA a; intro a hA
        refine S.no (dj := 130) hA (by kernel_rfl) rfl rfl rfl ?_; clear hA a; intro a hA
        refine S.no (dj := 130) hA (by kernel_rfl) rfl rfl rfl ?_; clear hA a; intro a hA
        refine S.no (dj := 130) hA (by kernel_rfl) rfl rfl rfl ?_; clear hA a; intro a hA
        refine S.no (dj := 130) hA (by kernel_rfl) rfl rfl rfl ?_; clear hA a; intro a hA
        refine S.no (dj := 130) hA (by kernel_rfl) rfl rfl rfl ?_; clear hA a; intro a hA
        refine S.val hA (R.pickF rfl rfl) rfl ?_; clear hA a; intro a hA
        refine S.done ?_
        replace hA : St 153 [(0, _), (7, _), (9, _), (10, _), (11, _), (12, _), (13, _), (17, _), (18, _), (19, _), (136, _)] a := hA.sub ((.cons rfl (.cons rfl (.cons rfl (.cons rfl (.cons rfl (.cons rfl (.cons rfl (.cons rfl (.cons rfl (.cons rfl (.cons rfl .nil))))))))))))
        refine Ends.condF hA rfl ?_
        refine Ends.skip (Ends.inBlock (Ends.region ?_))
        refine S.val hA (R.move rfl) rfl ?_; clear hA a; intro a hA
        refine S.val hA (R.addI rfl rfl (r := 3) rfl (by omega)) rfl ?_; clear hA a; intro a hA
        refine S.val hA (R.assign rfl) rfl ?_; clear hA a; intro a hA
        refine S.done ?_
        refine Ends.inLoop ?_
        refine Ends.seq (Ends.seq (Ends.region ?_))
        refine S.val hA (R.move rfl) rfl ?_; clear hA a; intro a hA
        refine S.val hA (R.ff (R.lss rfl rfl) (by first | decide | simp | omega)) rfl ?_; clear hA a; intro a hA
        refine S.done ?_
        replace hA : St 153 [(0, _), (7, _), (9, _), (10, _), (11, _), (12, _), (13, _), (17, _), (18, _), (19, _), (123, _)] a := hA.sub ((.cons rfl (.cons rfl (.cons rfl (.cons rfl (.cons rfl (.cons rfl (.cons rfl (.cons rfl (.cons rfl (.cons rfl (.cons rfl .nil))))))))))))
        refine Ends.condF hA rfl ?_
        refine Ends.exit rfl ?_
        refine Ends.seq ?_
        have hall : ∀ (j : Nat) (c : WA), ws[j]? = some (some c) → c.t.ph = 3 := by
         intro j c hj
         have hj3 : j < 3 := by have h1 := (List.getElem?_eq_some_iff.1 hj).1; have := hP.wl; omega
         by_cases e0 : j = 0
         · subst e0; rw [hw0] at hj; obtain rfl := Option.some.inj (Option.some.inj hj); exact Decidable.not_not.1 hc59
         by_cases e1 : j = 1
         · subst e1; rw [hw1] at hj; cases hj
         by_cases e2 : j = 2
         · subst e2; rw [hw2] at hj; cases hj
         omega
        obtain ⟨r8, hr8, hl8⟩ := hp_all hP (by omega) hall
        have hr9 : r9 = r8 ∧ e9 = 0 := by have h9 := hO.symm.trans hr8; exact ⟨congrArg Prod.fst h9, congrArg Prod.snd h9⟩
        have hl9 : r9.length = (opsOf es).length := by rw [hr9.1]; exact hl8
        have he9 := hr9.2
        refine Ends.region ?_
        refine S.val hA (R.move rfl) rfl ?_; clear hA a; intro a hA
        refine S.val hA (R.tt (R.eql rfl rfl) (he9)) rfl ?_; clear hA a; intro a hA
        refine S.val hA (R.move rfl) rfl ?_; clear hA a; intro a hA
        refine S.valg (dj := 145) hA (by kernel_rfl) rfl (R.move rfl) rfl ?_; clear hA a; intro a hA
        refine S.valg (dj := 145) hA (by kernel_rfl) rfl (R.lenS Tryd.underlying22 rfl rfl) rfl ?_; clear hA a; intro a hA
        refine S.valg (dj := 145) hA (by kernel_rfl) rfl (R.move rfl) rfl ?_; clear hA a; intro a hA
        replace hM := hM.front (k := 3) rfl
        replace hM := hM.front (k := 3) rfl
        replace hM : Mem _ _ [pt b16 #[.int .i64 ((now : Int)), .slice la es.length lc] 39, own 64 5 (.slice la es.length lc) es.length (entV es), rd ra37 rc38 r9, own 26 4 (.slice pa35 (((opsOf es)).length) pc36) (((opsOf es)).length) (hopV ((opsOf es))), pt b10 ((vals (ws.map waV))) 50, pt b12 ((ints num)) 51, pt b14 ((ints bgl)) 51, pt p6 #[.pointer (some ⟨m4, 0, none⟩), .int .i64 0, .slice (some ⟨nb7, 0, none⟩) n.toNat n.toNat, .slice (some ⟨ob8, 0, none⟩) 3 3] 73, pt ob8 ((vals (gs.map ow0V))) 22, bundle (gs.map ow0C), memO m4 c5 l s op, bundle (ws.map (waC p6)), own 3 1 (.slice sa (((iof 0 n.toNat)).length) sc) (((iof 0 n.toNat)).length) (((iof 0 n.toNat)).map (Value.int .i64))] _ := hM
        refine S.callg (dj := 145) hA (by kernel_rfl) rfl (R.callF Tryd.func12 rfl rfl rfl) rfl (ops21 b16 ((now : Int)) (by omega) la lc es (by omega) _ (hM.hereN 2)) ?_; clear hA a
        rintro e w33 ⟨pa63, pc64, rfl, hn⟩
        replace hM : Mem _ _ [own 26 4 (.slice pa63 (((opsOf es)).length) pc64) (((opsOf es)).length) (hopV ((opsOf es))), pt b16 #[.int .i64 ((now : Int)), .slice la es.length lc] 39, own 64 5 (.slice la es.length lc) es.length (entV es), rd ra37 rc38 r9, own 26 4 (.slice pa35 (((opsOf es)).length) pc36) (((opsOf es)).length) (hopV ((opsOf es))), pt b10 ((vals (ws.map waV))) 50, pt b12 ((ints num)) 51, pt b14 ((ints bgl)) 51, pt p6 #[.pointer (some ⟨m4, 0, none⟩), .int .i64 0, .slice (some ⟨nb7, 0, none⟩) n.toNat n.toNat, .slice (some ⟨ob8, 0, none⟩) 3 3] 73, pt ob8 ((vals (gs.map ow0V))) 22, bundle (gs.map ow0C), memO m4 c5 l s op, bundle (ws.map (waC p6)), own 3 1 (.slice sa (((iof 0 n.toNat)).length) sc) (((iof 0 n.toNat)).length) (((iof 0 n.toNat)).map (Value.int .i64))] _ := hM.callL 2 hn; clear hn
        refine ⟨.slice pa63 (((opsOf es)).length) pc64, rfl, fun a hA => ?_⟩
        refine S.valg (dj := 145) hA (by kernel_rfl) rfl (R.lenS Tryd.underlying23 rfl rfl) rfl ?_; clear hA a; intro a hA
        refine S.valg (dj := 145) hA (by kernel_rfl) rfl (R.tt (R.eql rfl rfl) (by omega)) rfl ?_; clear hA a; intro a hA
        refine S.val hA (R.pickT rfl rfl) rfl ?_; clear hA a; intro a hA
        refine S.val hA (R.assign rfl) rfl ?_; clear hA a; intro a hA
        refine S.done ?_
        replace hA : St 153 [(0, _), (4, _), (7, _), (9, _), (10, _), (11, _), (12, _), (13, _), (17, _), (18, _)] a := hA.sub ((.cons rfl (.cons rfl (.cons rfl (.cons rfl (.cons rfl (.cons rfl (.cons rfl (.cons rfl (.cons rfl (.cons rfl .nil)))))))))))
        refine Ends.ret1 Tryd.func5 Tryd.results5 hA rfl ?_
        exact ⟨rfl, Mem.trans0 hbs hM.nilL⟩
       ·
        obtain ⟨a2, hw2⟩ := wa_some (by omega) hs62
        refine Ends.region ?_
        refine S.val hA (R.move rfl) rfl ?_; clear hA a; intro a hA
        refine S.val hA (R.indexAddrA (q := 2) ar50 rfl rfl (by omega) (rfl)) rfl ?_; clear hA a; intro a hA
        refine S.val hA (R.load sz49 rfl (hM.cell (k := 4) rfl (vals_at _ _ _ (waV_at hw2)))) rfl ?_; clear hA a; intro a hA
        refine S.val hA (R.neqNil Tryd.underlying49 rfl rfl) rfl ?_; clear hA a; intro a hA
        refine S.val hA (R.move rfl) rfl ?_; clear hA a; intro a hA
        refine S.valg (dj := 130) hA (by kernel_rfl) rfl (R.move rfl) rfl ?_; clear hA a; intro a hA
        refine S.valg (dj := 130) hA (by kernel_rfl) rfl (R.indexAddrA (q := 2) ar50 rfl rfl (by omega) (rfl)) rfl ?_; clear hA a; intro a hA
        refine S.valg (dj := 130) hA (by kernel_rfl) rfl (R.load sz49 rfl (hM.cell (k := 4) rfl (vals_at _ _ _ (waV_at hw2)))) rfl ?_; clear hA a; intro a hA
        refine S.callg (dj := 130) hA (by kernel_rfl) rfl (R.callF Tryd.func17 rfl rfl rfl) rfl (pact_over a2.p p6 a2.w a2.t _ (hM.waBlk (k := 11) rfl hw2)) ?_; clear hA a
        rintro e w34 ⟨rfl, rfl⟩
        refine ⟨.bool (decide (a2.t.ph = 3)), rfl, fun a hA => ?_⟩
        refine S.valg (dj := 130) hA (by kernel_rfl) rfl (R.notD rfl) rfl ?_; clear hA a; intro a hA
        refine S.val hA (R.pickT rfl rfl) rfl ?_; clear hA a; intro a hA
        refine S.done ?_
        replace hA : St 153 [(0, _), (7, _), (9, _), (10, _), (11, _), (12, _), (13, _), (17, _), (18, _), (19, _), (136, _)] a := hA.sub ((.cons rfl (.cons rfl (.cons rfl (.cons rfl (.cons rfl (.cons rfl (.cons rfl (.cons rfl (.cons rfl (.cons rfl (.cons rfl .nil))))))))))))
        refine Ends.ite hA rfl (fun hc65 => ?_) (fun hc65 => ?_)
        ·
         refine Ends.seq ?_
         by_cases hs66 : e9 = 0
         ·
          have hse := hp_some hP (by omega)
          rw [hO] at hse
          replace hse : e9 = 0 ∨ e9 = 11 := hse
          refine Ends.region ?_
          refine S.val hA (R.move rfl) rfl ?_; clear hA a; intro a hA
          refine S.val hA (R.tt (R.eql rfl rfl) (hs66)) rfl ?_; clear hA a; intro a hA
          refine S.val hA (R.move rfl) rfl ?_; clear hA a; intro a hA
          refine S.no (dj := 139) hA (by kernel_rfl) rfl rfl rfl ?_; clear hA a; intro a hA
          refine S.no (dj := 139) hA (by kernel_rfl) rfl rfl rfl ?_; clear hA a; intro a hA
          refine S.val hA (R.pickT rfl rfl) rfl ?_; clear hA a; intro a hA
          refine S.val hA (R.assign rfl) rfl ?_; clear hA a; intro a hA
          refine S.done ?_
          replace hA : St 153 [(0, _), (4, _), (7, _), (9, _), (10, _), (11, _), (12, _), (13, _), (17, _), (18, _), (19, _)] a := hA.sub ((.cons rfl (.cons rfl (.cons rfl (.cons rfl (.cons rfl (.cons rfl (.cons rfl (.cons rfl (.cons rfl (.cons rfl (.cons rfl .nil))))))))))))
          refine Ends.ret1 Tryd.func5 Tryd.results5 hA rfl ?_
          exact ⟨rfl, Mem.trans0 hbs hM.nilL⟩
         ·
          have hse := hp_some hP (by omega)
          rw [hO] at hse
          replace hse : e9 = 0 ∨ e9 = 11 := hse
          refine Ends.region ?_
          refine S.val hA (R.move rfl) rfl ?_; clear hA a; intro a hA
          refine S.val hA (R.ff (R.eql rfl rfl) (hs66)) rfl ?_; clear hA a; intro a hA
          refine S.val hA (R.move rfl) rfl ?_; clear hA a; intro a hA
          refine S.valg (dj := 139) hA (by kernel_rfl) rfl (R.move rfl) rfl ?_; clear hA a; intro a hA
          refine S.valg (dj := 139) hA (by kernel_rfl) rfl (R.tt (R.eql rfl rfl) (by omega)) rfl ?_; clear hA a; intro a hA
          refine S.val hA (R.pickF rfl rfl) rfl ?_; clear hA a; intro a hA
          refine S.val hA (R.assign rfl) rfl ?_; clear hA a; intro a hA
          refine S.done ?_
          replace hA : St 153 [(0, _), (4, _), (7, _), (9, _), (10, _), (11, _), (12, _), (13, _), (17, _), (18, _), (19, _)] a := hA.sub ((.cons rfl (.cons rfl (.cons rfl (.cons rfl (.cons rfl (.cons rfl (.cons rfl (.cons rfl (.cons rfl (.cons rfl (.cons rfl .nil))))))))))))
          refine Ends.ret1 Tryd.func5 Tryd.results5 hA rfl ?_
          exact ⟨rfl, Mem.trans0 hbs hM.nilL⟩
        ·
         refine Ends.skip (Ends.inBlock (Ends.region ?_))
         refine S.val hA (R.move rfl) rfl ?_; clear hA a; intro a hA
         refine S.val hA (R.addI rfl rfl (r := 3) rfl (by omega)) rfl ?_; clear hA a; intro a hA
         refine S.val hA (R.assign rfl) rfl ?_; clear hA a; intro a hA
         refine S.done ?_
         refine Ends.inLoop ?_
         refine Ends.seq (Ends.seq (Ends.region ?_))
         refine S.val hA (R.move rfl) rfl ?_; clear hA a; intro a hA
         refine S.val hA (R.ff (R.lss rfl rfl) (by first | decide | simp | omega)) rfl ?_; clear hA a; intro a hA
         refine S.done ?_
         replace hA : St 153 [(0, _), (7, _), (9, _), (10, _), (11, _), (12, _), (13, _), (17, _), (18, _), (19, _), (123, _)] a := hA.sub ((.cons rfl (.cons rfl (.cons rfl (.cons rfl (.cons rfl (.cons rfl (.cons rfl (.cons rfl (.cons rfl (.cons rfl (.cons rfl .nil))))))))))))
         refine Ends.condF hA rfl ?_
         refine Ends.exit rfl ?_
         refine Ends.seq ?_
         have hall : ∀ (j : Nat) (c : WA), ws[j]? = some (some c) → c.t.ph = 3 := by
          intro j c hj
          have hj3 : j < 3 := by have h1 := (List.getElem?_eq_some_iff.1 hj).1; have := hP.wl; omega
          by_cases e0 : j = 0
          · subst e0; rw [hw0] at hj; obtain rfl := Option.some.inj (Option.some.inj hj); exact Decidable.not_not.1 hc59
          by_cases e1 : j = 1
          · subst e1; rw [hw1] at hj; cases hj
          by_cases e2 : j = 2
          · subst e2; rw [hw2] at hj; obtain rfl := Option.some.inj (Option.some.inj hj); exact Decidable.not_not.1 hc65
          omega
         obtain ⟨r8, hr8, hl8⟩ := hp_all hP (by omega) hall
         have hr9 : r9 = r8 ∧ e9 = 0 := by have h9 := hO.symm.trans hr8; exact ⟨congrArg Prod.fst h9, congrArg Prod.snd h9⟩
         have hl9 : r9.length = (opsOf es).length := by rw [hr9.1]; exact hl8
         have he9 := hr9.2
         refine Ends.region ?_
         refine S.val hA (R.move rfl) rfl ?_; clear hA a; intro a hA
         refine S.val hA (R.tt (R.eql rfl rfl) (he9)) rfl ?_; clear hA a; intro a hA
         refine S.val hA (R.move rfl) rfl ?_; clear hA a; intro a hA
         refine S.valg (dj := 145) hA (by kernel_rfl) rfl (R.move rfl) rfl ?_; clear hA a; intro a hA
         refine S.valg (dj := 145) hA (by kernel_rfl) rfl (R.lenS Tryd.underlying22 rfl rfl) rfl ?_; clear hA a; intro a hA
         refine S.valg (dj := 145) hA (by kernel_rfl) rfl (R.move rfl) rfl ?_; clear hA a; intro a hA
         replace hM := hM.front (k := 3) rfl
         replace hM := hM.front (k := 3) rfl
         replace hM : Mem _ _ [pt b16 #[.int .i64 ((now : Int)), .slice la es.length lc] 39, own 64 5 (.slice la es.length lc) es.length (entV es), rd ra37 rc38 r9, own 26 4 (.slice pa35 (((opsOf es)).length) pc36) (((opsOf es)).length) (hopV ((opsOf es))), pt b10 ((vals (ws.map waV))) 50, pt b12 ((ints num)) 51, pt b14 ((ints bgl)) 51, pt p6 #[.pointer (some ⟨m4, 0, none⟩), .int .i64 0, .slice (some ⟨nb7, 0, none⟩) n.toNat n.toNat, .slice (some ⟨ob8, 0, none⟩) 3 3] 73, pt ob8 ((vals (gs.map ow0V))) 22, bundle (gs.map ow0C), memO m4 c5 l s op, bundle (ws.map (waC p6)), own 3 1 (.slice sa (((iof 0 n.toNat)).length) sc) (((iof 0 n.toNat)).length) (((iof 0 n.toNat)).map (Value.int .i64))] _ := hM
         refine S.callg (dj := 145) hA (by kernel_rfl) rfl (R.callF Tryd.func12 rfl rfl rfl) rfl (ops21 b16 ((now : Int)) (by omega) la lc es (by omega) _ (hM.hereN 2)) ?_; clear hA a
         rintro e w35 ⟨pa67, pc68, rfl, hn⟩
         replace hM : Mem _ _ [own 26 4 (.slice pa67 (((opsOf es)).length) pc68) (((opsOf es)).length) (hopV ((opsOf es))), pt b16 #[.int .i64 ((now : Int)), .slice la es.length lc] 39, own 64 5 (.slice la es.length lc) es.length (entV es), rd ra37 rc38 r9, own 26 4 (.slice pa35 (((opsOf es)).length) pc36) (((opsOf es)).length) (hopV ((opsOf es))), pt b10 ((vals (ws.map waV))) 50, pt b12 ((ints num)) 51, pt b14 ((ints bgl)) 51, pt p6 #[.pointer (some ⟨m4, 0, none⟩), .int .i64 0, .slice (some ⟨nb7, 0, none⟩) n.toNat n.toNat, .slice (some ⟨ob8, 0, none⟩) 3 3] 73, pt ob8 ((vals (gs.map ow0V))) 22, bundle (gs.map ow0C), memO m4 c5 l s op, bundle (ws.map (waC p6)), own 3 1 (.slice sa (((iof 0 n.toNat)).length) sc) (((iof 0 n.toNat)).length) (((iof 0 n.toNat)).map (Value.int .i64))] _ := hM.callL 2 hn; clear hn
         refine ⟨.slice pa67 (((opsOf es)).length) pc68, rfl, fun a hA => ?_⟩
         refine S.valg (dj := 145) hA (by kernel_rfl) rfl (R.lenS Tryd.underlying23 rfl rfl) rfl ?_; clear hA a; intro a hA
         refine S.valg (dj := 145) hA (by kernel_rfl) rfl (R.tt (R.eql rfl rfl) (by omega)) rfl ?_; clear hA a; intro a hA
         refine S.val hA (R.pickT rfl rfl) rfl ?_; clear hA a; intro a hA
         refine S.val hA (R.assign rfl) rfl ?_; clear hA a; intro a hA
         refine S.done ?_
         replace hA : St 153 [(0, _), (4, _), (7, _), (9, _), (10, _), (11, _), (12, _), (13, _), (17, _), (18, _)] a := hA.sub ((.cons rfl (.cons rfl (.cons rfl (.cons rfl (.cons rfl (.cons rfl (.cons rfl (.cons rfl (.cons rfl (.cons rfl .nil)))))))))))
         refine Ends.ret1 Tryd.func5 Tryd.results5 hA rfl ?_
         exact ⟨rfl, Mem.trans0 hbs hM.nilL⟩
      ·
       obtain ⟨a1, hw1⟩ := wa_some (by omega) hs61
       refine Ends.region ?_
       refine S.val hA (R.move rfl) rfl ?_; clear hA a; intro a hA
       refine S.val hA (R.indexAddrA (q := 1) ar50 rfl rfl (by omega) (rfl)) rfl ?_; clear hA a; intro a hA
       refine S.val hA (R.load sz49 rfl (hM.cell (k := 4) rfl (vals_at _ _ _ (waV_at hw1)))) rfl ?_; clear hA a; intro a hA
       refine S.val hA (R.neqNil Tryd.underlying49 rfl rfl) rfl ?_; clear hA a; intro a hA
       refine S.val hA (R.move rfl) rfl ?_; clear hA a; intro a hA
       refine S.valg (dj := 130) hA (by kernel_rfl) rfl (R.move rfl) rfl ?_; clear hA a; intro a hA
       refine S.valg (dj := 130) hA (by kernel_rfl) rfl (R.indexAddrA (q := 1) ar50 rfl rfl (by omega) (rfl)) rfl ?_; clear hA a; intro a hA
       refine S.valg (dj := 130) hA (by kernel_rfl) rfl (R.load sz49 rfl (hM.cell (k := 4) rfl (vals_at _ _ _ (waV_at hw1)))) rfl ?_; clear hA a; intro a hA
       refine S.callg (dj := 130) hA (by kernel_rfl) rfl (R.callF Tryd.func17 rfl rfl rfl) rfl (pact_over a1.p p6 a1.w a1.t _ (hM.waBlk (k := 11) rfl hw1)) ?_; clear hA a
       rintro e w36 ⟨rfl, rfl⟩
       refine ⟨.bool (decide (a1.t.ph = 3)), rfl, fun a hA => ?_⟩
       refine S.valg (dj := 130) hA (by kernel_rfl) rfl (R.notD rfl) rfl ?_; clear hA a; intro a hA
       refine S.val hA (R.pickT rfl rfl) rfl ?_; clear hA a; intro a hA
       refine S.done ?_
       replace hA : St 153 [(0, _), (7, _), (9, _), (10, _), (11, _), (12, _), (13, _), (17, _), (18, _), (19, _), (136, _)] a := hA.sub ((.cons rfl (.cons rfl (.cons rfl (.cons rfl (.cons rfl (.cons rfl (.cons rfl (.cons rfl (.cons rfl (.cons rfl (.cons rfl .nil))))))))))))
       refine Ends.ite hA rfl (fun hc69 => ?_) (fun hc69 => ?_)
       ·
        refine Ends.seq ?_
        by_cases hs70 : e9 = 0
        ·
         have hse := hp_some hP (by omega)
         rw [hO] at hse
         replace hse : e9 = 0 ∨ e9 = 11 := hse
         refine Ends.region ?_
         refine S.val hA (R.move rfl) rfl ?_; clear hA a; intro a hA
         refine S.val hA (R.tt (R.eql rfl rfl) (hs70)) rfl ?_; clear hA a; intro a hA
         refine S.val hA (R.move rfl) rfl ?_; clear hA a; intro a hA
         refine S.no (dj := 139) hA (by kernel_rfl) rfl rfl rfl ?_; clear hA a; intro a hA
         refine S.no (dj := 139) hA (by kernel_rfl) rfl rfl rfl ?_; clear hA a; intro a hA
         refine S.val hA (R.pickT rfl rfl) rfl ?_; clear hA a; intro a hA
         refine S.val hA (R.assign rfl) rfl ?_; clear hA a; intro a hA
         refine S.done ?_
         replace hA : St 153 [(0, _), (4, _), (7, _), (9, _), (10, _), (11, _), (12, _), (13, _), (17, _), (18, _), (19, _)] a := hA.sub ((.cons rfl (.cons rfl (.cons rfl (.cons rfl (.cons rfl (.cons rfl (.cons rfl (.cons rfl (.cons rfl (.cons rfl (.cons rfl .nil))))))))))))
         refine Ends.ret1 Tryd.func5 Tryd.results5 hA rfl ?_
         exact ⟨rfl, Mem.trans0 hbs hM.nilL⟩
        ·
         have hse := hp_some hP (by omega)
         rw [hO] at hse
         replace hse : e9 = 0 ∨ e9 = 11 := hse
         refine Ends.region ?_
         refine S.val hA (R.move rfl) rfl ?_; clear hA a; intro a hA
         refine S.val hA (R.ff (R.eql rfl rfl) (hs70)) rfl ?_; clear hA a; intro a hA
         refine S.val hA (R.move rfl) rfl ?_; clear hA a; intro a hA
         refine S.valg (dj := 139) hA (by kernel_rfl) rfl (R.move rfl) rfl ?_; clear hA a; intro a hA
         refine S.valg (dj := 139) hA (by kernel_rfl) rfl (R.tt (R.eql rfl rfl) (by omega)) rfl ?_; clear hA a; intro a hA
         refine S.val hA (R.pickF rfl rfl) rfl ?_; clear hA a; intro a hA
         refine S.val hA (R.assign rfl) rfl ?_; clear hA a; intro a hA
         refine S.done ?_
         replace hA : St 153 [(0, _), (4, _), (7, _), (9, _), (10, _), (11, _), (12, _), (13, _), (17, _), (18, _), (19, _)] a := hA.sub ((.cons rfl (.cons rfl (.cons rfl (.cons rfl (.cons rfl (.cons rfl (.cons rfl (.cons rfl (.cons rfl (.cons rfl (.cons rfl .nil))))))))))))
         refine Ends.ret1 Tryd.func5 Tryd.results5 hA rfl ?_
         exact ⟨rfl, Mem.trans0 hbs hM.nilL⟩
       ·
        refine Ends.skip (Ends.inBlock (Ends.region ?_))
        refine S.val hA (R.move rfl) rfl ?_; clear hA a; intro a hA
        refine S.val hA (R.addI rfl rfl (r := 2) rfl (by omega)) rfl ?_; clear hA a; intro a hA
        refine S.val hA (R.assign rfl) rfl ?_; clear hA a; intro a hA
        refine S.done ?_
        refine Ends.inLoop ?_
        refine Ends.seq (Ends.seq (Ends.region ?_))
        refine S.val hA (R.move rfl) rfl ?_; clear hA a; intro a hA
        refine S.val hA (R.tt (R.lss rfl rfl) (by first | decide | simp | omega)) rfl ?_; clear hA a; intro a hA
        refine S.done ?_
        replace hA : St 153 [(0, _), (7, _), (9, _), (10, _), (11, _), (12, _), (13, _), (17, _), (18, _), (19, _), (123, _)] a := hA.sub ((.cons rfl (.cons rfl (.cons rfl (.cons rfl (.cons rfl (.cons rfl (.cons rfl (.cons rfl (.cons rfl (.cons rfl (.cons rfl .nil))))))))))))
        refine Ends.condT hA rfl ?_
        refine Ends.skip (Ends.seq (Ends.block (Ends.seq ?_)))
        have hwl := hP.wl
        by_cases hs71 : ws[2]? = some none
        ·
         have hw2 := hs71
         refine Ends.region ?_
         refine S.val hA (R.move rfl) rfl ?_; clear hA a; intro a hA
         refine S.val hA (R.indexAddrA (q := 2) ar50 rfl rfl (by omega) (rfl)) rfl ?_; clear hA a; intro a hA
         refine S.val hA (R.load sz49 rfl (hM.cell (k := 4) rfl (vals_at _ _ _ (waV_at hw2)))) rfl ?_; clear hA a; intro a hA
         refine S.val hA (R.neqNil Tryd.underlying49 rfl rfl) rfl ?_; clear hA a; intro a hA
         refine S.val hA (R.move rfl) rfl ?_; clear hA a; intro a hA
         refine S.no (dj := 130) hA (by kernel_rfl) rfl rfl rfl ?_; clear hA a; intro a hA
         refine S.no (dj := 130) hA (by kernel_rfl) rfl rfl rfl ?_; clear hA a; intro a hA
         refine S.no (dj := 130) hA (by kernel_rfl) rfl rfl rfl ?_; clear hA a; intro a hA
         refine S.no (dj := 130) hA (by kernel_rfl) rfl rfl rfl ?_; clear hA a; intro a hA
         refine S.no (dj := 130) hA (by kernel_rfl) rfl rfl rfl ?_; clear hA a; intro a hA
         refine S.val hA (R.pickF rfl rfl) rfl ?_; clear hA a; intro a hA
         refine S.done ?_
         replace hA : St 153 [(0, _), (7, _), (9, _), (10, _), (11, _), (12, _), (13, _), (17, _), (18, _), (19, _), (136, _)] a := hA.sub ((.cons rfl (.cons rfl (.cons rfl (.cons rfl (.cons rfl (.cons rfl (.cons rfl (.cons rfl (.cons rfl (.cons rfl (.cons rfl .nil))))))))))))
         refine Ends.condF hA rfl ?_
         refine Ends.skip (Ends.inBlock (Ends.region ?_))
         refine S.val hA (R.move rfl) rfl ?_; clear hA a; intro a hA
         refine S.val hA (R.addI rfl rfl (r := 3) rfl (by omega)) rfl ?_; clear hA a; intro a hA
         refine S.val hA (R.assign rfl) rfl ?_; clear hA a; intro a hA
         refine S.done ?_
         refine Ends.inLoop ?_
         refine Ends.seq (Ends.seq (Ends.region ?_))
         refine S.val hA (R.move rfl) rfl ?_; clear hA a; intro a hA
         refine S.val hA (R.ff (R.lss rfl rfl) (by first | decide | simp | omega)) rfl ?_; clear hA a; intro a hA
         refine S.done ?_
         replace hA : St 153 [(0, _), (7, _), (9, _), (10, _), (11, _), (12, _), (13, _), (17, _), (18, _), (19, _), (123, _)] a := hA.sub ((.cons rfl (.cons rfl (.cons rfl (.cons rfl (.cons rfl (.cons rfl (.cons rfl (.cons rfl (.cons rfl (.cons rfl (.cons rfl .nil))))))))))))
         refine Ends.condF hA rfl ?_
         refine Ends.exit rfl ?_
         refine Ends.seq ?_
         have hall : ∀ (j : Nat) (c : WA), ws[j]? = some (some c) → c.t.ph = 3 := by
          intro j c hj
          have hj3 : j < 3 := by have h1 := (List.getElem?_eq_some_iff.1 hj).1; have := hP.wl; omega
          by_cases e0 : j = 0
          · subst e0; rw [hw0] at hj; obtain rfl := Option.some.inj (Option.some.inj hj); exact Decidable.not_not.1 hc59
          by_cases e1 : j = 1
          · subst e1; rw [hw1] at hj; obtain rfl := Option.some.inj (Option.some.inj hj); exact Decidable.not_not.1 hc69
          by_cases e2 : j = 2
          · subst e2; rw [hw2] at hj; cases hj
          omega
         obtain ⟨r8, hr8, hl8⟩ := hp_all hP (by omega) hall
         have hr9 : r9 = r8 ∧ e9 = 0 := by have h9 := hO.symm.trans hr8; exact ⟨congrArg Prod.fst h9, congrArg Prod.snd h9⟩
         have hl9 : r9.length = (opsOf es).length := by rw [hr9.1]; exact hl8
         have he9 := hr9.2
         refine Ends.region ?_
         refine S.val hA (R.move rfl) rfl ?_; clear hA a; intro a hA
         refine S.val hA (R.tt (R.eql rfl rfl) (he9)) rfl ?_; clear hA a; intro a hA
         refine S.val hA (R.move rfl) rfl ?_; clear hA a; intro a hA
         refine S.valg (dj := 145) hA (by kernel_rfl) rfl (R.move rfl) rfl ?_; clear hA a; intro a hA
         refine S.valg (dj := 145) hA (by kernel_rfl) rfl (R.lenS Tryd.underlying22 rfl rfl) rfl ?_; clear hA a; intro a hA
         refine S.valg (dj := 145) hA (by kernel_rfl) rfl (R.move rfl) rfl ?_; clear hA a; intro a hA
         replace hM := hM.front (k := 3) rfl
         replace hM := hM.front (k := 3) rfl
         replace hM : Mem _ _ [pt b16 #[.int .i64 ((now : Int)), .slice la es.length lc] 39, own 64 5 (.slice la es.length lc) es.length (entV es), rd ra37 rc38 r9, own 26 4 (.slice pa35 (((opsOf es)).length) pc36) (((opsOf es)).length) (hopV ((opsOf es))), pt b10 ((vals (ws.map waV))) 50, pt b12 ((ints num)) 51, pt b14 ((ints bgl)) 51, pt p6 #[.pointer (some ⟨m4, 0, none⟩), .int .i64 0, .slice (some ⟨nb7, 0, none⟩) n.toNat n.toNat, .slice (some ⟨ob8, 0, none⟩) 3 3] 73, pt ob8 ((vals (gs.map ow0V))) 22, bundle (gs.map ow0C), memO m4 c5 l s op, bundle (ws.map (waC p6)), own 3 1 (.slice sa (((iof 0 n.toNat)).length) sc) (((iof 0 n.toNat)).length) (((iof 0 n.toNat)).map (Value.int .i64))] _ := hM
         refine S.callg (dj := 145) hA (by kernel_rfl) rfl (R.callF Tryd.func12 rfl rfl rfl) rfl (ops21 b16 ((now : Int)) (by omega) la lc es (by omega) _ (hM.hereN 2)) ?_; clear hA a
         rintro e w37 ⟨pa72, pc73, rfl, hn⟩
         replace hM : Mem _ _ [own 26 4 (.slice pa72 (((opsOf es)).length) pc73) (((opsOf es)).length) (hopV ((opsOf es))), pt b16 #[.int .i64 ((now : Int)), .slice la es.length lc] 39, own 64 5 (.slice la es.length lc) es.length (entV es), rd ra37 rc38 r9, own 26 4 (.slice pa35 (((opsOf es)).length) pc36) (((opsOf es)).length) (hopV ((opsOf es))), pt b10 ((vals (ws.map waV))) 50, pt b12 ((ints num)) 51, pt b14 ((ints bgl)) 51, pt p6 #[.pointer (some ⟨m4, 0, none⟩), .int .i64 0, .slice (some ⟨nb7, 0, none⟩) n.toNat n.toNat, .slice (some ⟨ob8, 0, none⟩) 3 3] 73, pt ob8 ((vals (gs.map ow0V))) 22, bundle (gs.map ow0C), memO m4 c5 l s op, bundle (ws.map (waC p6)), own 3 1 (.slice sa (((iof 0 n.toNat)).length) sc) (((iof 0 n.toNat)).length) (((iof 0 n.toNat)).map (Value.int .i64))] _ := hM.callL 2 hn; clear hn
         refine ⟨.slice pa72 (((opsOf es)).length) pc73, rfl, fun a hA => ?_⟩
         refine S.valg (dj := 145) hA (by kernel_rfl) rfl (R.lenS Tryd.underlying23 rfl rfl) rfl ?_; clear hA a; intro a hA
         refine S.valg (dj := 145) hA (by kernel_rfl) rfl (R.tt (R.eql rfl rfl) (by omega)) rfl ?_; clear hA a; intro a hA
         refine S.val hA (R.pickT rfl rfl) rfl ?_; clear hA a; intro a hA
         refine S.val hA (R.assign rfl) rfl ?_; clear hA a; intro a hA
         refine S.done ?_
         replace hA : St 153 [(0, _), (4, _), (7, _), (9, _), (10, _), (11, _), (12, _), (13, _), (17, _), (18, _)] a := hA.sub ((.cons rfl (.cons rfl (.cons rfl (.cons rfl (.cons rfl (.cons rfl (.cons rfl (.cons rfl (.cons rfl (.cons rfl .nil)))))))))))
         refine Ends.ret1 Tryd.func5 Tryd.results5 hA rfl ?_
         exact ⟨rfl, Mem.trans0 hbs hM.nilL⟩
        ·
         obtain ⟨a2, hw2⟩ := wa_some (by omega) hs71
         refine Ends.region ?_
         refine S.val hA (R.move rfl) rfl ?_; clear hA a; intro a hA
         refine S.val hA (R.indexAddrA (q := 2) ar50 rfl rfl (by omega) (rfl)) rfl ?_; clear hA a; intro a hA
         refine S.val hA (R.load sz49 rfl (hM.cell (k := 4) rfl (vals_at _ _ _ (waV_at hw2)))) rfl ?_; clear hA a; intro a hA
         refine S.val hA (R.neqNil Tryd.underlying49 rfl rfl) rfl ?_; clear hA a; intro a hA
         refine S.val hA (R.move rfl) rfl ?_; clear hA a; intro a hA
         refine S.valg (dj := 130) hA (by kernel_rfl) rfl (R.move rfl) rfl ?_; clear hA a; intro a hA
         refine S.valg (dj := 130) hA (by kernel_rfl) rfl (R.indexAddrA (q := 2) ar50 rfl rfl (by omega) (rfl)) rfl ?_; clear hA a; intro a hA
         refine S.valg (dj := 130) hA (by kernel_rfl) rfl (R.load sz49 rfl (hM.cell (k := 4) rfl (vals_at _ _ _ (waV_at hw2)))) rfl ?_; clear hA a; intro a hA
         refine S.callg (dj := 130) hA (by kernel_rfl) rfl (R.callF Tryd.func17 rfl rfl rfl) rfl (pact_over a2.p p6 a2.w a2.t _ (hM.waBlk (k := 11) rfl hw2)) ?_; clear hA a
         rintro e w38 ⟨rfl, rfl⟩
         refine ⟨.bool (decide (a2.t.ph = 3)), rfl, fun a hA => ?_⟩
         refine S.valg (dj := 130) hA (by kernel_rfl) rfl (R.notD rfl) rfl ?_; clear hA a; intro a hA
         refine S.val hA (R.pickT rfl rfl) rfl ?_; clear hA a; intro a hA
         refine S.done ?_
         replace hA : St 153 [(0, _), (7, _), (9, _), (10, _), (11, _), (12, _), (13, _), (17, _), (18, _), (19, _), (136, _)] a := hA.sub ((.cons rfl (.cons rfl (.cons rfl (.cons rfl (.cons rfl (.cons rfl (.cons rfl (.cons rfl (.cons rfl (.cons rfl (.cons rfl .nil))))))))))))
         refine Ends.ite hA rfl (fun hc74 => ?_) (fun hc74 => ?_)
         ·
          refine Ends.seq ?_
          by_cases hs75 : e9 = 0
          ·
           have hse := hp_some hP (by omega)
           rw [hO] at hse
           replace hse : e9 = 0 ∨ e9 = 11 := hse
           refine Ends.region ?_
           refine S.val hA (R.move rfl) rfl ?_; clear hA a; intro a hA
           refine S.val hA (R.tt (R.eql rfl rfl) (hs75)) rfl ?_; clear hA a; intro a hA
           refine S.val hA (R.move rfl) rfl ?_; clear hA a; intro a hA
           refine S.no (dj := 139) hA (by kernel_rfl) rfl rfl rfl ?_; clear hA a; intro a hA
           refine S.no (dj := 139) hA (by kernel_rfl) rfl rfl rfl ?_; clear hA a; intro a hA
           refine S.val hA (R.pickT rfl rfl) rfl ?_; clear hA a; intro a hA
           refine S.val hA (R.assign rfl) rfl ?_; clear hA a; intro a hA
           refine S.done ?_
           replace hA : St 153 [(0, _), (4, _), (7, _), (9, _), (10, _), (11, _), (12, _), (13, _), (17, _), (18, _), (19, _)] a := hA.sub ((.cons rfl (.cons rfl (.cons rfl (.cons rfl (.cons rfl (.cons rfl (.cons rfl (.cons rfl (.cons rfl (.cons rfl (.cons rfl .nil))))))))))))
           refine Ends.ret1 Tryd.func5 Tryd.results5 hA rfl ?_
           exact ⟨rfl, Mem.trans0 hbs hM.nilL⟩
          ·
           have hse := hp_some hP (by omega)
           rw [hO] at hse
           replace hse : e9 = 0 ∨ e9 = 11 := hse
           refine Ends.region ?_
           refine S.val hA (R.move rfl) rfl ?_; clear hA a; intro a hA
           refine S.val hA (R.ff (R.eql rfl rfl) (hs75)) rfl ?_; clear hA a; intro a hA
           refine S.val hA (R.move rfl) rfl ?_; clear hA a; intro a hA
           refine S.valg (dj := 139) hA (by kernel_rfl) rfl (R.move rfl) rfl ?_; clear hA a; intro a hA
           refine S.valg (dj := 139) hA (by kernel_rfl) rfl (R.tt (R.eql rfl rfl) (by omega)) rfl ?_; clear hA a; intro a hA
           refine S.val hA (R.pickF rfl rfl) rfl ?_; clear hA a; intro a hA
           refine S.val hA (R.assign rfl) rfl ?_; clear hA a; intro a hA
           refine S.done ?_
           replace hA : St 153 [(0, _), (4, _), (7, _), (9, _), (10, _), (11, _), (12, _), (13, _), (17, _), (18, _), (19, _)] a := hA.sub ((.cons rfl (.cons rfl (.cons rfl (.cons rfl (.cons rfl (.cons rfl (.cons rfl (.cons rfl (.cons rfl (.cons rfl (.cons rfl .nil))))))))))))
           refine Ends.ret1 Tryd.func5 Tryd.results5 hA rfl ?_
           exact ⟨rfl, Mem.trans0 hbs hM.nilL⟩
         ·
          refine Ends.skip (Ends.inBlock (Ends.region ?_))
          refine S.val hA (R.move rfl) rfl ?_; clear hA a; intro a hA
          refine S.val hA (R.addI rfl rfl (r := 3) rfl (by omega)) rfl ?_; clear hA a; intro a hA
          refine S.val hA (R.assign rfl) rfl ?_; clear hA a; intro a hA
          refine S.done ?_
          refine Ends.inLoop ?_
          refine Ends.seq (Ends.seq (Ends.region ?_))
          refine S.val hA (R.move rfl) rfl ?_; clear hA a; intro a hA
          refine S.val hA (R.ff (R.lss rfl rfl) (by first | decide | simp | omega)) rfl ?_; clear hA a; intro a hA
          refine S.done ?_
          replace hA : St 153 [(0, _), (7, _), (9, _), (10, _), (11, _), (12, _), (13, _), (17, _), (18, _), (19, _), (123, _)] a := hA.sub ((.cons rfl (.cons rfl (.cons rfl (.cons rfl (.cons rfl (.cons rfl (.cons rfl (.cons rfl (.cons rfl (.cons rfl (.cons rfl .nil))))))))))))
          refine Ends.condF hA rfl ?_
          refine Ends.exit rfl ?_
          refine Ends.seq ?_
          have hall : ∀ (j : Nat) (c : WA), ws[j]? = some (some c) → c.t.ph = 3 := by
           intro j c hj
           have hj3 : j < 3 := by have h1 := (List.getElem?_eq_some_iff.1 hj).1; have := hP.wl; omega
           by_cases e0 : j = 0
           · subst e0; rw [hw0] at hj; obtain rfl := Option.some.inj (Option.some.inj hj); exact Decidable.not_not.1 hc59
           by_cases e1 : j = 1
           · subst e1; rw [hw1] at hj; obtain rfl := Option.some.inj (Option.some.inj hj); exact Decidable.not_not.1 hc69
           by_cases e2 : j = 2
           · subst e2; rw [hw2] at hj; obtain rfl := Option.some.inj (Option.some.inj hj); exact Decidable.not_not.1 hc74
           omega
          obtain ⟨r8, hr8, hl8⟩ := hp_all hP (by omega) hall
          have hr9 : r9 = r8 ∧ e9 = 0 := by have h9 := hO.symm.trans hr8; exact ⟨congrArg Prod.fst h9, congrArg Prod.snd h9⟩
          have hl9 : r9.length = (opsOf es).length := by rw [hr9.1]; exact hl8
          have he9 := hr9.2
          refine Ends.region ?_
          refine S.val hA (R.move rfl) rfl ?_; clear hA a; intro a hA
          refine S.val hA (R.tt (R.eql rfl rfl) (he9)) rfl ?_; clear hA a; intro a hA
          refine S.val hA (R.move rfl) rfl ?_; clear hA a; intro a hA
          refine S.valg (dj := 145) hA (by kernel_rfl) rfl (R.move rfl) rfl ?_; clear hA a; intro a hA
          refine S.valg (dj := 145) hA (by kernel_rfl) rfl (R.lenS Tryd.underlying22 rfl rfl) rfl ?_; clear hA a; intro a hA
          refine S.valg (dj := 145) hA (by kernel_rfl) rfl (R.move rfl) rfl ?_; clear hA a; intro a hA
          replace hM := hM.front (k := 3) rfl
          replace hM := hM.front (k := 3) rfl
          replace hM : Mem _ _ [pt b16 #[.int .i64 ((now : Int)), .slice la es.length lc] 39, own 64 5 (.slice la es.length lc) es.length (entV es), rd ra37 rc38 r9, own 26 4 (.slice pa35 (((opsOf es)).length) pc36) (((opsOf es)).length) (hopV ((opsOf es))), pt b10 ((vals (ws.map waV))) 50, pt b12 ((ints num)) 51, pt b14 ((ints bgl)) 51, pt p6 #[.pointer (some ⟨m4, 0, none⟩), .int .i64 0, .slice (some ⟨nb7, 0, none⟩) n.toNat n.toNat, .slice (some ⟨ob8, 0, none⟩) 3 3] 73, pt ob8 ((vals (gs.map ow0V))) 22, bundle (gs.map ow0C), memO m4 c5 l s op, bundle (ws.map (waC p6)), own 3 1 (.slice sa (((iof 0 n.toNat)).length) sc) (((iof 0 n.toNat)).length) (((iof 0 n.toNat)).map (Value.int .i64))] _ := hM
          refine S.callg (dj := 145) hA (by kernel_rfl) rfl (R.callF Tryd.func12 rfl rfl rfl) rfl (ops21 b16 ((now : Int)) (by omega) la lc es (by omega) _ (hM.hereN 2)) ?_; clear hA a
          rintro e w39 ⟨pa76, pc77, rfl, hn⟩
          replace hM : Mem _ _ [own 26 4 (.slice pa76 (((opsOf es)).length) pc77) (((opsOf es)).length) (hopV ((opsOf es))), pt b16 #[.int .i64 ((now : Int)), .slice la es.length lc] 39, own 64 5 (.slice la es.length lc) es.length (entV es), rd ra37 rc38 r9, own 26 4 (.slice pa35 (((opsOf es)).length) pc36) (((opsOf es)).length) (hopV ((opsOf es))), pt b10 ((vals (ws.map waV))) 50, pt b12 ((ints num)) 51, pt b14 ((ints bgl)) 51, pt p6 #[.pointer (some ⟨m4, 0, none⟩), .int .i64 0, .slice (some ⟨nb7, 0, none⟩) n.toNat n.toNat, .slice (some ⟨ob8, 0, none⟩) 3 3] 73, pt ob8 ((vals (gs.map ow0V))) 22, bundle (gs.map ow0C), memO m4 c5 l s op, bundle (ws.map (waC p6)), own 3 1 (.slice sa (((iof 0 n.toNat)).length) sc) (((iof 0 n.toNat)).length) (((iof 0 n.toNat)).map (Value.int .i64))] _ := hM.callL 2 hn; clear hn
          refine ⟨.slice pa76 (((opsOf es)).length) pc77, rfl, fun a hA => ?_⟩
          refine S.valg (dj := 145) hA (by kernel_rfl) rfl (R.lenS Tryd.underlying23 rfl rfl) rfl ?_; clear hA a; intro a hA
          refine S.valg (dj := 145) hA (by kernel_rfl) rfl (R.tt (R.eql rfl rfl) (by omega)) rfl ?_; clear hA a; intro a hA
          refine S.val hA (R.pickT rfl rfl) rfl ?_; clear hA a; intro a hA
          refine S.val hA (R.assign rfl) rfl ?_; clear hA a; intro a hA
          refine S.done ?_
          replace hA : St 153 [(0, _), (4, _), (7, _), (9, _), (10, _), (11, _), (12, _), (13, _), (17, _), (18, _)] a := hA.sub ((.cons rfl (.cons rfl (.cons rfl (.cons rfl (.cons rfl (.cons rfl (.cons rfl (.cons rfl (.cons rfl (.cons rfl .nil)))))))))))
          refine Ends.ret1 Tryd.func5 Tryd.results5 hA rfl ?_
          exact ⟨rfl, Mem.trans0 hbs hM.nilL⟩
  ·
   refine Ends.region ?_
   refine S.val hA (R.move rfl) rfl ?_; clear hA a; intro a hA
   refine S.val hA (R.move rfl) rfl ?_; clear hA a; intro a hA
   refine S.val hA (R.lenS Tryd.underlying22 rfl rfl) rfl ?_; clear hA a; intro a hA
   refine S.val hA (R.lss rfl rfl) rfl ?_; clear hA a; intro a hA
   refine S.val hA (R.move rfl) rfl ?_; clear hA a; intro a hA
   refine hA.split (d := 62) rfl ?_ ?_
   ·
    clear hA; intro hg78 hA
    refine S.valg (dj := 62) hA (by kernel_rfl) rfl (R.move rfl) rfl ?_; clear hA a; intro a hA
    refine S.valg (dj := 62) hA (by kernel_rfl) rfl (R.lss rfl rfl) rfl ?_; clear hA a; intro a hA
    refine S.val hA (R.pickT rfl rfl) rfl ?_; clear hA a; intro a hA
    refine S.done ?_
    replace hA : St 153 [(0, _), (1, _), (7, _), (9, _), (10, _), (11, _), (12, _), (13, _), (15, _), (65, _)] a := hA.sub ((.cons rfl (.cons rfl (.cons rfl (.cons rfl (.cons rfl (.cons rfl (.cons rfl (.cons rfl (.cons rfl (.cons rfl .nil)))))))))))
    exact hJ _ _ ⟨hA.sub (.cons rfl (.cons rfl (.cons rfl (.cons rfl (.cons rfl (.cons rfl (.cons rfl (.cons rfl (.cons rfl (.cons (by first | rfl | exact congrArg (fun b => some (Value.bool b)) (by first | exact decide_eq_decide.2 (by omega) | exact or_bool (by omega) | exact and_bool (by omega) | (simp; done) | (simp [hg78]; done) | (have h80 := hg78; (try simp at h80); simp [h80]; done) | exact (decide_eq_false (fun h9 => hg78 h9.1)).symm)) .nil)))))))))), hM⟩
   ·
    clear hA; intro hg78 hA
    refine S.no (dj := 62) hA (by kernel_rfl) rfl rfl rfl ?_; clear hA a; intro a hA
    refine S.no (dj := 62) hA (by kernel_rfl) rfl rfl rfl ?_; clear hA a; intro a hA
    refine S.val hA (R.pickF rfl rfl) rfl ?_; clear hA a; intro a hA
    refine S.done ?_
    replace hA : St 153 [(0, _), (1, _), (7, _), (9, _), (10, _), (11, _), (12, _), (13, _), (15, _), (65, _)] a := hA.sub ((.cons rfl (.cons rfl (.cons rfl (.cons rfl (.cons rfl (.cons rfl (.cons rfl (.cons rfl (.cons rfl (.cons rfl .nil)))))))))))
    exact hJ _ _ ⟨hA.sub (.cons rfl (.cons rfl (.cons rfl (.cons rfl (.cons rfl (.cons rfl (.cons rfl (.cons rfl (.cons rfl (.cons (by first | rfl | exact congrArg (fun b => some (Value.bool b)) (by first | exact decide_eq_decide.2 (by omega) | exact or_bool (by omega) | exact and_bool (by omega) | (simp; done) | (simp [hg78]; done) | (have h80 := hg78; (try simp at h80); simp [h80]; done) | exact (decide_eq_false (fun h9 => hg78 h9.1)).symm)) .nil)))))))))), hM⟩
theorem histPools_any (slots : Int) (v1 : Value) (Pk : List Int) (w : World) (_g0 : (Lit.int .i64 slots).wf = true) (h1 : IntSl w v1 Pk) (_g1 : ∀ x ∈ Pk, (Lit.int .i64 x).wf = true) (htab : Lib.TabIs Tryd.prog w "math/bits.deBruijn64tab" .u8 debT) :
    Calls Tryd.prog 5 #[.int .i64 slots, v1] w fun e w' => e = .returned (.bool true) ∧ Below w.heap.size w w' := by
  obtain ⟨a1, c1, rfl⟩ := h1.form
  exact histPools_w slots a1 Pk c1 w h1 htab
end Go.Proofs.YtjjbognomeplbaaDoor
namespace Go.Proofs.YtjjbognomeplbaaDoor
open Go.RowKit Go.WideShapes Go.ChangeShapes
section
variable {H : Type} {enc : TypeId × Value → H} {P : Program} {w : World} {base : Nat} {spare : Nat → Bool} {held : Bool}
theorem open_sli {r : Reach} {b0 : Nat} {t e : TypeId} {v : Value} {d : DataW H} {p : List MemPlace} (ht : P.underlying t = some (.slice e)) (he : P.underlying e = some (.int .i64)) (hce : P.cellsOf e = 1)
    (hv : Value.okWide P w r b0 t v) (h : DataW.Trod enc P w 0 (fun _ => true) held t v d p) :
    ∃ l : List Int, IntSl w v l ∧ ∀ x ∈ l, (Lit.int .i64 x).wf = true := by
  obtain ⟨a, len, cap, rfl⟩ := okWide_slice ht hv
  obtain ⟨fuel, hf⟩ := h
  rcases open_ints ht he hce hf with ⟨hcs, _⟩ | ⟨x, l, c, zs, hcs, _, hl, hm, hz, _, hcell, hwz⟩
  · simp [Value.cells] at hcs
    obtain ⟨rfl, rfl, rfl⟩ := hcs
    exact ⟨[], ⟨none, 0, rfl, Nat.le_refl _, Nat.zero_le _, fun _ => rfl, fun h => (h rfl).elim⟩, fun x hx => by cases hx⟩
  · simp [Value.cells] at hcs
    obtain ⟨rfl, rfl, rfl⟩ := hcs
    simp only [if_true] at hz
    refine ⟨zs.take len, ⟨some x, cap, by rw [List.length_take, Nat.min_eq_left (by omega)], by rw [List.length_take]; omega, hm, (fun h => nomatch h), fun hne => ?_⟩, fun y hy => hwz y (List.mem_of_mem_take hy)⟩
    have h0 : 0 < zs.length ∧ 0 < len := by
      rcases Nat.eq_zero_or_pos len with e | e
      · subst e; simp at hne
      · exact ⟨by omega, e⟩
    obtain ⟨b, off, spot⟩ := x
    have hs : spot = none := by
      have h1 := hcell 0 h0.1
      unfold Addr.add at h1
      simp only [if_true] at h1
      cases spot with
      | none => rfl
      | some s =>
        unfold World.cell? at h1
        split at h1 <;> simp at h1
    subst hs
    refine ⟨b, off, rfl, ?_, fun i hi => ?_⟩
    · have h1 := hcell 0 h0.1
      exact World.block_lt_of_cell? w _ h1
    · rw [List.length_take] at hi
      have h1 := hcell i (by omega)
      rw [Addr.add_lit] at h1
      rw [h1]
      congr 2
      simp only [List.getD_eq_getElem?_getD, List.getElem?_take]
      rw [if_pos (by omega)]
end
end Go.Proofs.YtjjbognomeplbaaDoor
