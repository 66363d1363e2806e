/-
  What a slot of a pool has; the law PoolKeeps.
-/
import Derived.Test.YtjjbognomeplbaaPoolR
import Derived.Test.YtjjbognomeplbaaEngA
import Derived.Test.YtjjbognomeplbaaSl
namespace Go.Proofs.Ytjjbognomeplbaa
open Go.RowKit
theorem same09_eq (v u : Value) (l : List Int) (w : World) (hl : IntSl w v l) (hm : IntSl w u l) :
    Calls Try.prog 40 #[v, u] w fun e w' => e = .returned (.bool true) ∧ Below w.heap.size w w' :=
  (same09 v u l l w hl hm).mono fun e w' ⟨he, hb⟩ => ⟨by rw [he, decide_eq_true rfl], hb⟩
theorem made10 : madeCells #[.slice none 0 0, .int .i64 0] (5 * 2) = #[.slice none 0 0, .int .i64 0, .slice none 0 0, .int .i64 0, .slice none 0 0, .int .i64 0, .slice none 0 0, .int .i64 0, .slice none 0 0, .int .i64 0] := by kernel_rfl

set_option maxRecDepth 100000 in
set_option maxHeartbeats 400000 in
theorem ncopied (av : Option Addr) (X : List Int) (cap : Nat) (b : Int) (hX : X.length ≤ 1000) (w : World) (hM : Mem w (feet [own 3 1 (.slice av X.length cap) X.length (X.map (Value.int .i64))]) [own 3 1 (.slice av X.length cap) X.length (X.map (Value.int .i64))] w) :
    Calls Try.prog 74 #[.agg #[.slice av X.length cap, .int .i64 b]] w fun e w' => ∃ a2 c2, e = .returned (.agg #[.slice a2 X.length c2, .int .i64 b]) ∧ Mem w (feet [own 3 1 (.slice av X.length cap) X.length (X.map (Value.int .i64))]) [own 3 1 (.slice a2 X.length c2) X.length (X.map (Value.int .i64)), own 3 1 (.slice av X.length cap) X.length (X.map (Value.int .i64))] w' := by
  have hM0 : True := trivial  -- have hM
  refine Calls.of_ends (vs := [.agg #[.slice av X.length cap, .int .i64 b]]) Try.func74 rfl Try.ntmps74 rfl ?_
  intro a hA
  replace hA : St 9 [(0, _)] a := hA
  refine Ends.seq ?_
  refine Ends.region ?_
  refine S.box hA hM rfl rfl ?_; clear hA hM a; intro b1 w1 hb2 hM a hA
  replace hM : Mem _ _ [pt b1 #[.slice av X.length cap, .int .i64 b] 77, own 3 1 (.slice av X.length cap) X.length (X.map (Value.int .i64))] _ := hM
  refine S.alloc hA hM info77 rfl rfl ?_; clear hA hM a; intro b3 w2 hb4 hM a hA
  replace hM : Mem _ _ [pt b3 #[.slice none 0 0, .int .i64 0] 77, pt b1 #[.slice av X.length cap, .int .i64 b] 77, own 3 1 (.slice av X.length cap) X.length (X.map (Value.int .i64))] _ := hM
  refine S.done ?_
  replace hA : St 9 [(1, _), (2, _)] a := hA.sub ((.cons rfl (.cons rfl .nil)))
  refine Ends.seq ?_
  refine Ends.drawn (Mem w (feet [own 3 1 (.slice av X.length cap) X.length (X.map (Value.int .i64))]) [pt b3 #[.slice none 0 0, .int .i64 0] 77, pt b1 #[.slice av X.length cap, .int .i64 b] 77, own 3 1 (.slice av X.length cap) X.length (X.map (Value.int .i64))]) (.cons (0, true) (.cons (1, true) (.cons (3, true) (.cons (4, true) (.cons (2, false) (.cons (5, true) (.cons (6, false) .nil))))))) 6 mixed (by kernel_rfl) (by kernel_rfl) (by kernel_rfl) hM.drew ?_
  replace hM := hM.drew
  refine D.valF hA rfl (fun _ => R.fieldAddr (q := 0) fi77_0 rfl rfl rfl) rfl ?_; clear hA a; intro a hA
  refine D.val hA rfl (by kernel_rfl) (fun _ hM => R.load sz43 rfl (hM.cell (k := 1) rfl rfl)) rfl ?_; clear hA a; intro a hA
  refine D.valF hA rfl (fun _ => R.fieldAddr (q := 1) fi77_1 rfl rfl rfl) rfl ?_; clear hA a; intro a hA
  refine D.val hA rfl (by kernel_rfl) (fun _ hM => R.load sz3 rfl (hM.cell (k := 1) rfl rfl)) rfl ?_; clear hA a; intro a hA
  refine D.call hA rfl (R.callF Try.func69 rfl rfl rfl) rfl (clone_own av cap X hX _ (hM.mem (k := 2) rfl)) ?_; clear hA a
  rintro e w3 ⟨a5, c6, rfl, hn⟩
  replace hM : Mem _ _ [own 3 1 (.slice a5 X.length c6) X.length (X.map (Value.int .i64)), pt b3 #[.slice none 0 0, .int .i64 0] 77, pt b1 #[.slice av X.length cap, .int .i64 b] 77, own 3 1 (.slice av X.length cap) X.length (X.map (Value.int .i64))] _ := hM.call hn; clear hn
  refine ⟨.slice a5 X.length c6, rfl, (hM.drop 0), fun a hA => ?_⟩
  refine D.valF hA rfl (fun _ => R.build (cells := #[.slice a5 X.length c6, .int .i64 b]) rfl (by kernel_rfl)) rfl ?_; clear hA a; intro a hA
  refine D.storeA (k := 1) hA hM rfl sz77 rfl rfl rfl rfl rfl rfl ?_; clear hM
  intro w4 hM; refine ⟨fun hne => absurd rfl hne, ?_⟩
  replace hM : Mem _ _ [own 3 1 (.slice a5 X.length c6) X.length (X.map (Value.int .i64)), pt b3 #[.slice a5 X.length c6, .int .i64 b] 77, pt b1 #[.slice av X.length cap, .int .i64 b] 77, own 3 1 (.slice av X.length cap) X.length (X.map (Value.int .i64))] _ := hM
  refine D.done ?_
  replace hA : St 9 [(2, _)] a := hA.sub ((.cons rfl .nil))
  refine Ends.retC (k := 1) Try.func74 Try.results74 hA hM rfl rfl sz77 rfl ?_
  replace hM := hM.front (k := 3) rfl
  replace hM := hM.front (k := 1) rfl
  replace hM : Mem _ _ [own 3 1 (.slice a5 X.length c6) X.length (X.map (Value.int .i64)), own 3 1 (.slice av X.length cap) X.length (X.map (Value.int .i64)), pt b3 #[.slice a5 X.length c6, .int .i64 b] 77, pt b1 #[.slice av X.length cap, .int .i64 b] 77] _ := hM
  exact ⟨_, _, rfl, hM.firstN 2⟩
set_option maxRecDepth 100000 in
set_option maxHeartbeats 400000 in
theorem pnode_ok (q m nb ns ob ws : Nat) (bs j : Int) (cs : List Value) (av : Option Addr) (X : List Int) (cap : Nat) (b : Int) (hX : X.length ≤ 1000) (hj : 0 ≤ j ∧ j < ns) (hds : (cs.drop (0 + j.toNat * 2)).take 2 = [.slice av X.length cap, .int .i64 b]) (w : World) (hM : Mem w (feet [pt q #[.pointer (some ⟨m, 0, none⟩), .int .i64 bs, .slice (some ⟨nb, 0, none⟩) ns ns, .slice (some ⟨ob, 0, none⟩) ws ws] 128, pt nb ((vals cs)) 77, own 3 1 (.slice av X.length cap) X.length (X.map (Value.int .i64))]) [pt q #[.pointer (some ⟨m, 0, none⟩), .int .i64 bs, .slice (some ⟨nb, 0, none⟩) ns ns, .slice (some ⟨ob, 0, none⟩) ws ws] 128, pt nb ((vals cs)) 77, own 3 1 (.slice av X.length cap) X.length (X.map (Value.int .i64))] w) :
    Calls Try.prog 45 #[.pointer (some ⟨q, 0, none⟩), .int .i64 j] w fun e w' => ∃ a2 c2, e = .returned (.agg #[.slice a2 X.length c2, .int .i64 b]) ∧ Mem w (feet [pt q #[.pointer (some ⟨m, 0, none⟩), .int .i64 bs, .slice (some ⟨nb, 0, none⟩) ns ns, .slice (some ⟨ob, 0, none⟩) ws ws] 128, pt nb ((vals cs)) 77, own 3 1 (.slice av X.length cap) X.length (X.map (Value.int .i64))]) [own 3 1 (.slice a2 X.length c2) X.length (X.map (Value.int .i64)), pt q #[.pointer (some ⟨m, 0, none⟩), .int .i64 bs, .slice (some ⟨nb, 0, none⟩) ns ns, .slice (some ⟨ob, 0, none⟩) ws ws] 128, pt nb ((vals cs)) 77, own 3 1 (.slice av X.length cap) X.length (X.map (Value.int .i64))] w' := by
  have hM0 : True := trivial  -- have hM
  refine Calls.of_ends (vs := [.pointer (some ⟨q, 0, none⟩), .int .i64 j]) Try.func45 rfl Try.ntmps45 rfl ?_
  intro a hA
  replace hA : St 18 [(0, _), (1, _)] a := hA
  refine Ends.seq ?_
  refine Ends.region ?_
  refine S.alloc hA hM info77 rfl rfl ?_; clear hA hM a; intro b1 w1 hb2 hM a hA
  replace hM : Mem _ _ [pt b1 #[.slice none 0 0, .int .i64 0] 77, pt q #[.pointer (some ⟨m, 0, none⟩), .int .i64 bs, .slice (some ⟨nb, 0, none⟩) ns ns, .slice (some ⟨ob, 0, none⟩) ws ws] 128, pt nb ((vals cs)) 77, own 3 1 (.slice av X.length cap) X.length (X.map (Value.int .i64))] _ := hM
  refine S.done ?_
  replace hA : St 18 [(0, _), (1, _), (4, _)] a := hA.sub ((.cons rfl (.cons rfl (.cons rfl .nil))))
  refine Ends.seq ?_
  refine Ends.seq ?_
  refine Ends.region ?_
  refine S.val hA (R.move rfl) rfl ?_; clear hA a; intro a hA
  refine S.val hA (R.move rfl) rfl ?_; clear hA a; intro a hA
  refine S.call hA (R.callF Try.func73 rfl rfl rfl) rfl (phas_yes q m nb ob ns ws bs j (by first | omega | decide | (simp; done) | (simp; omega)) _ (hM.block (k := 1) rfl)) ?_; clear hA a
  rintro e w2 ⟨rfl, rfl⟩
  refine ⟨.bool true, rfl, fun a hA => ?_⟩
  refine S.val hA (R.not rfl) rfl ?_; clear hA a; intro a hA
  refine S.done ?_
  replace hA : St 18 [(0, _), (1, _), (4, _), (8, _)] a := hA.sub ((.cons rfl (.cons rfl (.cons rfl (.cons rfl .nil)))))
  refine Ends.condF hA rfl ?_
  refine Ends.skip ?_
  refine Ends.seq ?_
  refine Ends.region ?_
  refine S.val hA (R.move rfl) rfl ?_; clear hA a; intro a hA
  refine S.val hA (R.nilCheck rfl) rfl ?_; clear hA a; intro a hA
  refine S.val hA (R.fieldAddr (q := 2) fi128_2 rfl rfl rfl) rfl ?_; clear hA a; intro a hA
  refine S.val hA (R.load sz126 rfl (hM.cell (k := 1) rfl rfl)) rfl ?_; clear hA a; intro a hA
  refine S.val hA (R.move rfl) rfl ?_; clear hA a; intro a hA
  refine S.val hA (R.indexAddr (q := 0 + j.toNat * 2) sl126 rfl rfl (by omega) (rfl)) rfl ?_; clear hA a; intro a hA
  refine S.val hA (R.loadA sz77 rfl (hM.part (k := 2) rfl (0 + j.toNat * 2) 2 hds) rfl) rfl ?_; clear hA a; intro a hA
  replace hM := hM.front (k := 3) rfl
  replace hM : Mem _ _ [own 3 1 (.slice av X.length cap) X.length (X.map (Value.int .i64)), pt b1 #[.slice none 0 0, .int .i64 0] 77, pt q #[.pointer (some ⟨m, 0, none⟩), .int .i64 bs, .slice (some ⟨nb, 0, none⟩) ns ns, .slice (some ⟨ob, 0, none⟩) ws ws] 128, pt nb ((vals cs)) 77] _ := hM
  refine S.call hA (R.callF Try.func74 rfl rfl rfl) rfl (ncopied av X cap b (by first | omega | decide | (simp; done) | (simp; omega)) _ (hM.hereN 1)) ?_; clear hA a
  rintro e w3 ⟨a3, c4, rfl, hn⟩
  replace hM : Mem _ _ [own 3 1 (.slice a3 X.length c4) X.length (X.map (Value.int .i64)), own 3 1 (.slice av X.length cap) X.length (X.map (Value.int .i64)), pt b1 #[.slice none 0 0, .int .i64 0] 77, pt q #[.pointer (some ⟨m, 0, none⟩), .int .i64 bs, .slice (some ⟨nb, 0, none⟩) ns ns, .slice (some ⟨ob, 0, none⟩) ws ws] 128, pt nb ((vals cs)) 77] _ := hM.callL 1 hn; clear hn
  refine ⟨.agg #[.slice a3 X.length c4, .int .i64 b], rfl, fun a hA => ?_⟩
  refine S.storeA (k := 2) hA hM sz77 rfl rfl rfl rfl rfl rfl ?_; clear hM
  intro w4 hM
  replace hM : Mem _ _ [own 3 1 (.slice a3 X.length c4) X.length (X.map (Value.int .i64)), own 3 1 (.slice av X.length cap) X.length (X.map (Value.int .i64)), pt b1 #[.slice a3 X.length c4, .int .i64 b] 77, pt q #[.pointer (some ⟨m, 0, none⟩), .int .i64 bs, .slice (some ⟨nb, 0, none⟩) ns ns, .slice (some ⟨ob, 0, none⟩) ws ws] 128, pt nb ((vals cs)) 77] _ := hM
  refine S.done ?_
  replace hA : St 18 [(4, _)] a := hA.sub ((.cons rfl .nil))
  refine Ends.retC (k := 2) Try.func45 Try.results45 hA hM rfl rfl sz77 rfl ?_
  replace hM := hM.front (k := 1) rfl
  replace hM := hM.front (k := 4) rfl
  replace hM := hM.front (k := 4) rfl
  replace hM := hM.front (k := 3) rfl
  replace hM : Mem _ _ [own 3 1 (.slice a3 X.length c4) X.length (X.map (Value.int .i64)), pt q #[.pointer (some ⟨m, 0, none⟩), .int .i64 bs, .slice (some ⟨nb, 0, none⟩) ns ns, .slice (some ⟨ob, 0, none⟩) ws ws] 128, pt nb ((vals cs)) 77, own 3 1 (.slice av X.length cap) X.length (X.map (Value.int .i64)), pt b1 #[.slice a3 X.length c4, .int .i64 b] 77] _ := hM
  exact ⟨_, _, rfl, hM.firstN 4⟩
set_option maxRecDepth 100000 in
set_option maxHeartbeats 400000 in
theorem pbound_ok (q m nb ns ob ws : Nat) (bs j : Int) (cs : List Value) (b : Int) (hj : 0 ≤ j ∧ j < ns) (hd1 : cs[0 + j.toNat * 2 + 1]? = some (.int .i64 b)) (w : World) (hM : Mem w (feet [pt q #[.pointer (some ⟨m, 0, none⟩), .int .i64 bs, .slice (some ⟨nb, 0, none⟩) ns ns, .slice (some ⟨ob, 0, none⟩) ws ws] 128, pt nb ((vals cs)) 77]) [pt q #[.pointer (some ⟨m, 0, none⟩), .int .i64 bs, .slice (some ⟨nb, 0, none⟩) ns ns, .slice (some ⟨ob, 0, none⟩) ws ws] 128, pt nb ((vals cs)) 77] w) :
    Calls Try.prog 46 #[.pointer (some ⟨q, 0, none⟩), .int .i64 j] w fun e w' => e = .returned (.int .i64 b) ∧ Mem w (feet [pt q #[.pointer (some ⟨m, 0, none⟩), .int .i64 bs, .slice (some ⟨nb, 0, none⟩) ns ns, .slice (some ⟨ob, 0, none⟩) ws ws] 128, pt nb ((vals cs)) 77]) [pt q #[.pointer (some ⟨m, 0, none⟩), .int .i64 bs, .slice (some ⟨nb, 0, none⟩) ns ns, .slice (some ⟨ob, 0, none⟩) ws ws] 128, pt nb ((vals cs)) 77] w' := by
  have hM0 : True := trivial  -- have hM
  refine Calls.of_ends (vs := [.pointer (some ⟨q, 0, none⟩), .int .i64 j]) Try.func46 rfl Try.ntmps46 rfl ?_
  intro a hA
  replace hA : St 17 [(0, _), (1, _)] a := hA
  refine Ends.seq ?_
  refine Ends.region ?_
  refine S.val hA (R.assign rfl) rfl ?_; clear hA a; intro a hA
  refine S.done ?_
  replace hA : St 17 [(0, _), (1, _), (4, _)] a := hA.sub ((.cons rfl (.cons rfl (.cons rfl .nil))))
  refine Ends.seq ?_
  refine Ends.seq ?_
  refine Ends.region ?_
  refine S.val hA (R.move rfl) rfl ?_; clear hA a; intro a hA
  refine S.val hA (R.move rfl) rfl ?_; clear hA a; intro a hA
  refine S.call hA (R.callF Try.func73 rfl rfl rfl) rfl (phas_yes q m nb ob ns ws bs j (by first | omega | decide | (simp; done) | (simp; omega)) _ (hM.block (k := 0) rfl)) ?_; clear hA a
  rintro e w1 ⟨rfl, rfl⟩
  refine ⟨.bool true, rfl, fun a hA => ?_⟩
  refine S.val hA (R.not rfl) rfl ?_; clear hA a; intro a hA
  refine S.done ?_
  replace hA : St 17 [(0, _), (1, _), (4, _), (8, _)] a := hA.sub ((.cons rfl (.cons rfl (.cons rfl (.cons rfl .nil)))))
  refine Ends.condF hA rfl ?_
  refine Ends.skip ?_
  refine Ends.seq ?_
  refine Ends.region ?_
  refine S.val hA (R.move rfl) rfl ?_; clear hA a; intro a hA
  refine S.val hA (R.nilCheck rfl) rfl ?_; clear hA a; intro a hA
  refine S.val hA (R.fieldAddr (q := 2) fi128_2 rfl rfl rfl) rfl ?_; clear hA a; intro a hA
  refine S.val hA (R.load sz126 rfl (hM.cell (k := 0) rfl rfl)) rfl ?_; clear hA a; intro a hA
  refine S.val hA (R.move rfl) rfl ?_; clear hA a; intro a hA
  refine S.val hA (R.indexAddr (q := 0 + j.toNat * 2) sl126 rfl rfl (by omega) (rfl)) rfl ?_; clear hA a; intro a hA
  refine S.val hA (R.fieldAddr (q := 0 + j.toNat * 2 + 1) fi77_1 rfl rfl rfl) rfl ?_; clear hA a; intro a hA
  refine S.val hA (R.load sz3 rfl (hM.cell (k := 1) rfl (vals_at cs _ _ hd1))) rfl ?_; clear hA a; intro a hA
  refine S.val hA (R.assign rfl) rfl ?_; clear hA a; intro a hA
  refine S.done ?_
  replace hA : St 17 [(4, _)] a := hA.sub ((.cons rfl .nil))
  refine Ends.ret1 Try.func46 Try.results46 hA rfl ?_
  exact ⟨rfl, hM⟩
set_option maxRecDepth 100000 in
set_option maxHeartbeats 400000 in
theorem pnode_no (q m nb ns ob ws : Nat) (bs j : Int) (hj : ¬ (0 ≤ j ∧ j < ns)) (w : World) (hM : Mem w (feet [pt q #[.pointer (some ⟨m, 0, none⟩), .int .i64 bs, .slice (some ⟨nb, 0, none⟩) ns ns, .slice (some ⟨ob, 0, none⟩) ws ws] 128]) [pt q #[.pointer (some ⟨m, 0, none⟩), .int .i64 bs, .slice (some ⟨nb, 0, none⟩) ns ns, .slice (some ⟨ob, 0, none⟩) ws ws] 128] w) :
    Calls Try.prog 45 #[.pointer (some ⟨q, 0, none⟩), .int .i64 j] w fun e w' => e = .returned (.agg #[.slice none 0 0, .int .i64 0]) ∧ Mem w (feet [pt q #[.pointer (some ⟨m, 0, none⟩), .int .i64 bs, .slice (some ⟨nb, 0, none⟩) ns ns, .slice (some ⟨ob, 0, none⟩) ws ws] 128]) [pt q #[.pointer (some ⟨m, 0, none⟩), .int .i64 bs, .slice (some ⟨nb, 0, none⟩) ns ns, .slice (some ⟨ob, 0, none⟩) ws ws] 128] w' := by
  have hM0 : True := trivial  -- have hM
  refine Calls.of_ends (vs := [.pointer (some ⟨q, 0, none⟩), .int .i64 j]) Try.func45 rfl Try.ntmps45 rfl ?_
  intro a hA
  replace hA : St 18 [(0, _), (1, _)] a := hA
  refine Ends.seq ?_
  refine Ends.region ?_
  refine S.alloc hA hM info77 rfl rfl ?_; clear hA hM a; intro b1 w1 hb2 hM a hA
  replace hM : Mem _ _ [pt b1 #[.slice none 0 0, .int .i64 0] 77, pt q #[.pointer (some ⟨m, 0, none⟩), .int .i64 bs, .slice (some ⟨nb, 0, none⟩) ns ns, .slice (some ⟨ob, 0, none⟩) ws ws] 128] _ := hM
  refine S.done ?_
  replace hA : St 18 [(0, _), (1, _), (4, _)] a := hA.sub ((.cons rfl (.cons rfl (.cons rfl .nil))))
  refine Ends.seq ?_
  refine Ends.seq ?_
  refine Ends.region ?_
  refine S.val hA (R.move rfl) rfl ?_; clear hA a; intro a hA
  refine S.val hA (R.move rfl) rfl ?_; clear hA a; intro a hA
  refine S.call hA (R.callF Try.func73 rfl rfl rfl) rfl (phas_no q m nb ob ns ws bs j (by first | omega | decide | (simp; done) | (simp; omega)) _ (hM.block (k := 1) rfl)) ?_; clear hA a
  rintro e w2 ⟨rfl, rfl⟩
  refine ⟨.bool false, rfl, fun a hA => ?_⟩
  refine S.val hA (R.not rfl) rfl ?_; clear hA a; intro a hA
  refine S.done ?_
  replace hA : St 18 [(0, _), (1, _), (4, _), (8, _)] a := hA.sub ((.cons rfl (.cons rfl (.cons rfl (.cons rfl .nil)))))
  refine Ends.condT hA rfl ?_
  refine Ends.seq ?_
  refine Ends.region ?_
  refine S.val hA (R.build (cells := #[.slice none 0 0, .int .i64 0]) rfl (by kernel_rfl)) rfl ?_; clear hA a; intro a hA
  refine S.storeA (k := 0) hA hM sz77 rfl rfl rfl rfl rfl rfl ?_; clear hM
  intro w3 hM
  replace hM : Mem _ _ [pt b1 #[.slice none 0 0, .int .i64 0] 77, pt q #[.pointer (some ⟨m, 0, none⟩), .int .i64 bs, .slice (some ⟨nb, 0, none⟩) ns ns, .slice (some ⟨ob, 0, none⟩) ws ws] 128] _ := hM
  refine S.done ?_
  replace hA : St 18 [(0, _), (1, _), (4, _)] a := hA.sub ((.cons rfl (.cons rfl (.cons rfl .nil))))
  refine Ends.retC (k := 0) Try.func45 Try.results45 hA hM rfl rfl sz77 rfl ?_
  exact ⟨rfl, (hM.drop 0)⟩
set_option maxRecDepth 100000 in
set_option maxHeartbeats 400000 in
theorem pkeep_no (q m nb ns ob ws : Nat) (bs j : Int) (av : Option Addr) (X : List Int) (cap : Nat) (b : Int) (hj : ¬ (0 ≤ j ∧ j < ns)) (w : World) (hM : Mem w (feet [pt q #[.pointer (some ⟨m, 0, none⟩), .int .i64 bs, .slice (some ⟨nb, 0, none⟩) ns ns, .slice (some ⟨ob, 0, none⟩) ws ws] 128]) [pt q #[.pointer (some ⟨m, 0, none⟩), .int .i64 bs, .slice (some ⟨nb, 0, none⟩) ns ns, .slice (some ⟨ob, 0, none⟩) ws ws] 128] w) :
    Calls Try.prog 44 #[.pointer (some ⟨q, 0, none⟩), .int .i64 j, .agg #[.slice av X.length cap, .int .i64 b]] w fun e w' => e = .returned (.tuple #[]) ∧ Mem w (feet [pt q #[.pointer (some ⟨m, 0, none⟩), .int .i64 bs, .slice (some ⟨nb, 0, none⟩) ns ns, .slice (some ⟨ob, 0, none⟩) ws ws] 128]) [pt q #[.pointer (some ⟨m, 0, none⟩), .int .i64 bs, .slice (some ⟨nb, 0, none⟩) ns ns, .slice (some ⟨ob, 0, none⟩) ws ws] 128] w' := by
  have hM0 : True := trivial  -- have hM
  refine Calls.of_ends (vs := [.pointer (some ⟨q, 0, none⟩), .int .i64 j, .agg #[.slice av X.length cap, .int .i64 b]]) Try.func44 rfl Try.ntmps44 rfl ?_
  intro a hA
  replace hA : St 17 [(0, _), (1, _), (2, _)] a := hA
  refine Ends.seq ?_
  refine Ends.region ?_
  refine S.box hA hM rfl rfl ?_; clear hA hM a; intro b1 w1 hb2 hM a hA
  replace hM : Mem _ _ [pt b1 #[.slice av X.length cap, .int .i64 b] 77, pt q #[.pointer (some ⟨m, 0, none⟩), .int .i64 bs, .slice (some ⟨nb, 0, none⟩) ns ns, .slice (some ⟨ob, 0, none⟩) ws ws] 128] _ := hM
  refine S.done ?_
  replace hA : St 17 [(0, _), (1, _), (5, _)] a := hA.sub ((.cons rfl (.cons rfl (.cons rfl .nil))))
  refine Ends.seq ?_
  refine Ends.region ?_
  refine S.val hA (R.move rfl) rfl ?_; clear hA a; intro a hA
  refine S.val hA (R.move rfl) rfl ?_; clear hA a; intro a hA
  refine S.call hA (R.callF Try.func73 rfl rfl rfl) rfl (phas_no q m nb ob ns ws bs j (by first | omega | decide | (simp; done) | (simp; omega)) _ (hM.block (k := 1) rfl)) ?_; clear hA a
  rintro e w2 ⟨rfl, rfl⟩
  refine ⟨.bool false, rfl, fun a hA => ?_⟩
  refine S.done ?_
  replace hA : St 17 [(0, _), (1, _), (5, _), (8, _)] a := hA.sub ((.cons rfl (.cons rfl (.cons rfl (.cons rfl .nil)))))
  refine Ends.condF hA rfl ?_
  refine Ends.skip ?_
  refine Ends.end0 Try.func44 Try.results44 hA ?_
  exact ⟨rfl, (hM.drop 0)⟩
set_option maxRecDepth 100000 in
set_option maxHeartbeats 400000 in
theorem pkeep_0 (q m nb ob ws : Nat) (bs : Int) (av : Option Addr) (X : List Int) (cap : Nat) (b : Int) (hX : X.length ≤ 1000) (w : World) (hM : Mem w (feet [pt q #[.pointer (some ⟨m, 0, none⟩), .int .i64 bs, .slice (some ⟨nb, 0, none⟩) 5 5, .slice (some ⟨ob, 0, none⟩) ws ws] 128, pt nb #[.slice none 0 0, .int .i64 0, .slice none 0 0, .int .i64 0, .slice none 0 0, .int .i64 0, .slice none 0 0, .int .i64 0, .slice none 0 0, .int .i64 0] 77, own 3 1 (.slice av X.length cap) X.length (X.map (Value.int .i64))]) [pt q #[.pointer (some ⟨m, 0, none⟩), .int .i64 bs, .slice (some ⟨nb, 0, none⟩) 5 5, .slice (some ⟨ob, 0, none⟩) ws ws] 128, pt nb #[.slice none 0 0, .int .i64 0, .slice none 0 0, .int .i64 0, .slice none 0 0, .int .i64 0, .slice none 0 0, .int .i64 0, .slice none 0 0, .int .i64 0] 77, own 3 1 (.slice av X.length cap) X.length (X.map (Value.int .i64))] w) :
    Calls Try.prog 44 #[.pointer (some ⟨q, 0, none⟩), .int .i64 0, .agg #[.slice av X.length cap, .int .i64 b]] w fun e w' => ∃ a2 c2, e = .returned (.tuple #[]) ∧ Mem w (feet [pt q #[.pointer (some ⟨m, 0, none⟩), .int .i64 bs, .slice (some ⟨nb, 0, none⟩) 5 5, .slice (some ⟨ob, 0, none⟩) ws ws] 128, pt nb #[.slice none 0 0, .int .i64 0, .slice none 0 0, .int .i64 0, .slice none 0 0, .int .i64 0, .slice none 0 0, .int .i64 0, .slice none 0 0, .int .i64 0] 77, own 3 1 (.slice av X.length cap) X.length (X.map (Value.int .i64))]) [pt q #[.pointer (some ⟨m, 0, none⟩), .int .i64 bs, .slice (some ⟨nb, 0, none⟩) 5 5, .slice (some ⟨ob, 0, none⟩) ws ws] 128, pt nb #[.slice a2 X.length c2, .int .i64 b, .slice none 0 0, .int .i64 0, .slice none 0 0, .int .i64 0, .slice none 0 0, .int .i64 0, .slice none 0 0, .int .i64 0] 77, own 3 1 (.slice av X.length cap) X.length (X.map (Value.int .i64)), own 3 1 (.slice a2 X.length c2) X.length (X.map (Value.int .i64))] w' := by
  have hM0 : True := trivial  -- have hM
  refine Calls.of_ends (vs := [.pointer (some ⟨q, 0, none⟩), .int .i64 0, .agg #[.slice av X.length cap, .int .i64 b]]) Try.func44 rfl Try.ntmps44 rfl ?_
  intro a hA
  replace hA : St 17 [(0, _), (1, _), (2, _)] a := hA
  refine Ends.seq ?_
  refine Ends.region ?_
  refine S.box hA hM rfl rfl ?_; clear hA hM a; intro b1 w1 hb2 hM a hA
  replace hM : Mem _ _ [pt b1 #[.slice av X.length cap, .int .i64 b] 77, pt q #[.pointer (some ⟨m, 0, none⟩), .int .i64 bs, .slice (some ⟨nb, 0, none⟩) 5 5, .slice (some ⟨ob, 0, none⟩) ws ws] 128, pt nb #[.slice none 0 0, .int .i64 0, .slice none 0 0, .int .i64 0, .slice none 0 0, .int .i64 0, .slice none 0 0, .int .i64 0, .slice none 0 0, .int .i64 0] 77, own 3 1 (.slice av X.length cap) X.length (X.map (Value.int .i64))] _ := hM
  refine S.done ?_
  replace hA : St 17 [(0, _), (1, _), (5, _)] a := hA.sub ((.cons rfl (.cons rfl (.cons rfl .nil))))
  refine Ends.seq ?_
  refine Ends.region ?_
  refine S.val hA (R.move rfl) rfl ?_; clear hA a; intro a hA
  refine S.val hA (R.move rfl) rfl ?_; clear hA a; intro a hA
  refine S.call hA (R.callF Try.func73 rfl rfl rfl) rfl (phas_yes q m nb ob 5 ws bs 0 (by first | omega | decide | (simp; done) | (simp; omega)) _ (hM.block (k := 1) rfl)) ?_; clear hA a
  rintro e w2 ⟨rfl, rfl⟩
  refine ⟨.bool true, rfl, fun a hA => ?_⟩
  refine S.done ?_
  replace hA : St 17 [(0, _), (1, _), (5, _), (8, _)] a := hA.sub ((.cons rfl (.cons rfl (.cons rfl (.cons rfl .nil)))))
  refine Ends.condT hA rfl ?_
  refine Ends.drawn (Mem w (feet [pt q #[.pointer (some ⟨m, 0, none⟩), .int .i64 bs, .slice (some ⟨nb, 0, none⟩) 5 5, .slice (some ⟨ob, 0, none⟩) ws ws] 128, pt nb #[.slice none 0 0, .int .i64 0, .slice none 0 0, .int .i64 0, .slice none 0 0, .int .i64 0, .slice none 0 0, .int .i64 0, .slice none 0 0, .int .i64 0] 77, own 3 1 (.slice av X.length cap) X.length (X.map (Value.int .i64))]) [pt b1 #[.slice av X.length cap, .int .i64 b] 77, pt q #[.pointer (some ⟨m, 0, none⟩), .int .i64 bs, .slice (some ⟨nb, 0, none⟩) 5 5, .slice (some ⟨ob, 0, none⟩) ws ws] 128, pt nb #[.slice none 0 0, .int .i64 0, .slice none 0 0, .int .i64 0, .slice none 0 0, .int .i64 0, .slice none 0 0, .int .i64 0, .slice none 0 0, .int .i64 0] 77]) (.cons (0, true) (.cons (1, true) (.cons (2, true) (.cons (3, true) (.cons (4, true) (.cons (5, true) (.cons (6, false) (.cons (7, true) (.cons (8, false) .nil))))))))) 8 mixed (by kernel_rfl) (by kernel_rfl) (by kernel_rfl) (hM.drop 3).drew ?_
  replace hM := hM.drew
  refine D.valF hA rfl (fun _ => R.move rfl) rfl ?_; clear hA a; intro a hA
  refine D.valF hA rfl (fun _ => R.nilCheck rfl) rfl ?_; clear hA a; intro a hA
  refine D.valF hA rfl (fun _ => R.fieldAddr (q := 2) fi128_2 rfl rfl rfl) rfl ?_; clear hA a; intro a hA
  refine D.val hA rfl (by kernel_rfl) (fun _ hM => R.load sz126 rfl (hM.cell (k := 1) rfl rfl)) rfl ?_; clear hA a; intro a hA
  refine D.valF hA rfl (fun _ => R.move rfl) rfl ?_; clear hA a; intro a hA
  refine D.val hA rfl (by kernel_rfl) (fun _ hM => R.loadA sz77 rfl (hM.range (k := 0) rfl) rfl) rfl ?_; clear hA a; intro a hA
  replace hM := hM.front (k := 3) rfl
  replace hM : Mem _ _ [own 3 1 (.slice av X.length cap) X.length (X.map (Value.int .i64)), pt b1 #[.slice av X.length cap, .int .i64 b] 77, pt q #[.pointer (some ⟨m, 0, none⟩), .int .i64 bs, .slice (some ⟨nb, 0, none⟩) 5 5, .slice (some ⟨ob, 0, none⟩) ws ws] 128, pt nb #[.slice none 0 0, .int .i64 0, .slice none 0 0, .int .i64 0, .slice none 0 0, .int .i64 0, .slice none 0 0, .int .i64 0, .slice none 0 0, .int .i64 0] 77] _ := hM
  refine D.call hA rfl (R.callF Try.func74 rfl rfl rfl) rfl (ncopied av X cap b (by first | omega | decide | (simp; done) | (simp; omega)) _ (hM.hereN 1)) ?_; clear hA a
  rintro e w3 ⟨a3, c4, rfl, hn⟩
  replace hM : Mem _ _ [own 3 1 (.slice a3 X.length c4) X.length (X.map (Value.int .i64)), own 3 1 (.slice av X.length cap) X.length (X.map (Value.int .i64)), pt b1 #[.slice av X.length cap, .int .i64 b] 77, pt q #[.pointer (some ⟨m, 0, none⟩), .int .i64 bs, .slice (some ⟨nb, 0, none⟩) 5 5, .slice (some ⟨ob, 0, none⟩) ws ws] 128, pt nb #[.slice none 0 0, .int .i64 0, .slice none 0 0, .int .i64 0, .slice none 0 0, .int .i64 0, .slice none 0 0, .int .i64 0, .slice none 0 0, .int .i64 0] 77] _ := hM.callL 1 hn; clear hn
  refine ⟨.agg #[.slice a3 X.length c4, .int .i64 b], rfl, ((hM.drop 1).drop 0), fun a hA => ?_⟩
  refine D.valF hA rfl (fun _ => R.indexAddr (q := 0) sl126 rfl rfl (by omega) (rfl)) rfl ?_; clear hA a; intro a hA
  refine D.storeA (k := 4) hA hM rfl sz77 rfl rfl rfl rfl rfl rfl ?_; clear hM
  intro w4 hM; refine ⟨fun hne => absurd rfl hne, ?_⟩
  replace hM : Mem _ _ [own 3 1 (.slice a3 X.length c4) X.length (X.map (Value.int .i64)), own 3 1 (.slice av X.length cap) X.length (X.map (Value.int .i64)), pt b1 #[.slice av X.length cap, .int .i64 b] 77, pt q #[.pointer (some ⟨m, 0, none⟩), .int .i64 bs, .slice (some ⟨nb, 0, none⟩) 5 5, .slice (some ⟨ob, 0, none⟩) ws ws] 128, pt nb #[.slice a3 X.length c4, .int .i64 b, .slice none 0 0, .int .i64 0, .slice none 0 0, .int .i64 0, .slice none 0 0, .int .i64 0, .slice none 0 0, .int .i64 0] 77] _ := hM
  refine D.done ?_
  replace hA : St 17 [] a := hA.sub (.nil)
  refine Ends.end0 Try.func44 Try.results44 hA ?_
  replace hM := hM.front (k := 1) rfl
  replace hM := hM.front (k := 4) rfl
  replace hM := hM.front (k := 4) rfl
  replace hM : Mem _ _ [pt q #[.pointer (some ⟨m, 0, none⟩), .int .i64 bs, .slice (some ⟨nb, 0, none⟩) 5 5, .slice (some ⟨ob, 0, none⟩) ws ws] 128, pt nb #[.slice a3 X.length c4, .int .i64 b, .slice none 0 0, .int .i64 0, .slice none 0 0, .int .i64 0, .slice none 0 0, .int .i64 0, .slice none 0 0, .int .i64 0] 77, own 3 1 (.slice av X.length cap) X.length (X.map (Value.int .i64)), own 3 1 (.slice a3 X.length c4) X.length (X.map (Value.int .i64)), pt b1 #[.slice av X.length cap, .int .i64 b] 77] _ := hM
  exact ⟨_, _, rfl, hM.firstN 4⟩
set_option maxRecDepth 100000 in
set_option maxHeartbeats 400000 in
theorem pkeep_1 (q m nb ob ws : Nat) (bs : Int) (av : Option Addr) (X : List Int) (cap : Nat) (b : Int) (hX : X.length ≤ 1000) (w : World) (hM : Mem w (feet [pt q #[.pointer (some ⟨m, 0, none⟩), .int .i64 bs, .slice (some ⟨nb, 0, none⟩) 5 5, .slice (some ⟨ob, 0, none⟩) ws ws] 128, pt nb #[.slice none 0 0, .int .i64 0, .slice none 0 0, .int .i64 0, .slice none 0 0, .int .i64 0, .slice none 0 0, .int .i64 0, .slice none 0 0, .int .i64 0] 77, own 3 1 (.slice av X.length cap) X.length (X.map (Value.int .i64))]) [pt q #[.pointer (some ⟨m, 0, none⟩), .int .i64 bs, .slice (some ⟨nb, 0, none⟩) 5 5, .slice (some ⟨ob, 0, none⟩) ws ws] 128, pt nb #[.slice none 0 0, .int .i64 0, .slice none 0 0, .int .i64 0, .slice none 0 0, .int .i64 0, .slice none 0 0, .int .i64 0, .slice none 0 0, .int .i64 0] 77, own 3 1 (.slice av X.length cap) X.length (X.map (Value.int .i64))] w) :
    Calls Try.prog 44 #[.pointer (some ⟨q, 0, none⟩), .int .i64 1, .agg #[.slice av X.length cap, .int .i64 b]] w fun e w' => ∃ a2 c2, e = .returned (.tuple #[]) ∧ Mem w (feet [pt q #[.pointer (some ⟨m, 0, none⟩), .int .i64 bs, .slice (some ⟨nb, 0, none⟩) 5 5, .slice (some ⟨ob, 0, none⟩) ws ws] 128, pt nb #[.slice none 0 0, .int .i64 0, .slice none 0 0, .int .i64 0, .slice none 0 0, .int .i64 0, .slice none 0 0, .int .i64 0, .slice none 0 0, .int .i64 0] 77, own 3 1 (.slice av X.length cap) X.length (X.map (Value.int .i64))]) [pt q #[.pointer (some ⟨m, 0, none⟩), .int .i64 bs, .slice (some ⟨nb, 0, none⟩) 5 5, .slice (some ⟨ob, 0, none⟩) ws ws] 128, pt nb #[.slice none 0 0, .int .i64 0, .slice a2 X.length c2, .int .i64 b, .slice none 0 0, .int .i64 0, .slice none 0 0, .int .i64 0, .slice none 0 0, .int .i64 0] 77, own 3 1 (.slice av X.length cap) X.length (X.map (Value.int .i64)), own 3 1 (.slice a2 X.length c2) X.length (X.map (Value.int .i64))] w' := by
  have hM0 : True := trivial  -- have hM
  refine Calls.of_ends (vs := [.pointer (some ⟨q, 0, none⟩), .int .i64 1, .agg #[.slice av X.length cap, .int .i64 b]]) Try.func44 rfl Try.ntmps44 rfl ?_
  intro a hA
  replace hA : St 17 [(0, _), (1, _), (2, _)] a := hA
  refine Ends.seq ?_
  refine Ends.region ?_
  refine S.box hA hM rfl rfl ?_; clear hA hM a; intro b1 w1 hb2 hM a hA
  replace hM : Mem _ _ [pt b1 #[.slice av X.length cap, .int .i64 b] 77, pt q #[.pointer (some ⟨m, 0, none⟩), .int .i64 bs, .slice (some ⟨nb, 0, none⟩) 5 5, .slice (some ⟨ob, 0, none⟩) ws ws] 128, pt nb #[.slice none 0 0, .int .i64 0, .slice none 0 0, .int .i64 0, .slice none 0 0, .int .i64 0, .slice none 0 0, .int .i64 0, .slice none 0 0, .int .i64 0] 77, own 3 1 (.slice av X.length cap) X.length (X.map (Value.int .i64))] _ := hM
  refine S.done ?_
  replace hA : St 17 [(0, _), (1, _), (5, _)] a := hA.sub ((.cons rfl (.cons rfl (.cons rfl .nil))))
  refine Ends.seq ?_
  refine Ends.region ?_
  refine S.val hA (R.move rfl) rfl ?_; clear hA a; intro a hA
  refine S.val hA (R.move rfl) rfl ?_; clear hA a; intro a hA
  refine S.call hA (R.callF Try.func73 rfl rfl rfl) rfl (phas_yes q m nb ob 5 ws bs 1 (by first | omega | decide | (simp; done) | (simp; omega)) _ (hM.block (k := 1) rfl)) ?_; clear hA a
  rintro e w2 ⟨rfl, rfl⟩
  refine ⟨.bool true, rfl, fun a hA => ?_⟩
  refine S.done ?_
  replace hA : St 17 [(0, _), (1, _), (5, _), (8, _)] a := hA.sub ((.cons rfl (.cons rfl (.cons rfl (.cons rfl .nil)))))
  refine Ends.condT hA rfl ?_
  refine Ends.drawn (Mem w (feet [pt q #[.pointer (some ⟨m, 0, none⟩), .int .i64 bs, .slice (some ⟨nb, 0, none⟩) 5 5, .slice (some ⟨ob, 0, none⟩) ws ws] 128, pt nb #[.slice none 0 0, .int .i64 0, .slice none 0 0, .int .i64 0, .slice none 0 0, .int .i64 0, .slice none 0 0, .int .i64 0, .slice none 0 0, .int .i64 0] 77, own 3 1 (.slice av X.length cap) X.length (X.map (Value.int .i64))]) [pt b1 #[.slice av X.length cap, .int .i64 b] 77, pt q #[.pointer (some ⟨m, 0, none⟩), .int .i64 bs, .slice (some ⟨nb, 0, none⟩) 5 5, .slice (some ⟨ob, 0, none⟩) ws ws] 128, pt nb #[.slice none 0 0, .int .i64 0, .slice none 0 0, .int .i64 0, .slice none 0 0, .int .i64 0, .slice none 0 0, .int .i64 0, .slice none 0 0, .int .i64 0] 77]) (.cons (0, true) (.cons (1, true) (.cons (2, true) (.cons (3, true) (.cons (4, true) (.cons (5, true) (.cons (6, false) (.cons (7, true) (.cons (8, false) .nil))))))))) 8 mixed (by kernel_rfl) (by kernel_rfl) (by kernel_rfl) (hM.drop 3).drew ?_
  replace hM := hM.drew
  refine D.valF hA rfl (fun _ => R.move rfl) rfl ?_; clear hA a; intro a hA
  refine D.valF hA rfl (fun _ => R.nilCheck rfl) rfl ?_; clear hA a; intro a hA
  refine D.valF hA rfl (fun _ => R.fieldAddr (q := 2) fi128_2 rfl rfl rfl) rfl ?_; clear hA a; intro a hA
  refine D.val hA rfl (by kernel_rfl) (fun _ hM => R.load sz126 rfl (hM.cell (k := 1) rfl rfl)) rfl ?_; clear hA a; intro a hA
  refine D.valF hA rfl (fun _ => R.move rfl) rfl ?_; clear hA a; intro a hA
  refine D.val hA rfl (by kernel_rfl) (fun _ hM => R.loadA sz77 rfl (hM.range (k := 0) rfl) rfl) rfl ?_; clear hA a; intro a hA
  replace hM := hM.front (k := 3) rfl
  replace hM : Mem _ _ [own 3 1 (.slice av X.length cap) X.length (X.map (Value.int .i64)), pt b1 #[.slice av X.length cap, .int .i64 b] 77, pt q #[.pointer (some ⟨m, 0, none⟩), .int .i64 bs, .slice (some ⟨nb, 0, none⟩) 5 5, .slice (some ⟨ob, 0, none⟩) ws ws] 128, pt nb #[.slice none 0 0, .int .i64 0, .slice none 0 0, .int .i64 0, .slice none 0 0, .int .i64 0, .slice none 0 0, .int .i64 0, .slice none 0 0, .int .i64 0] 77] _ := hM
  refine D.call hA rfl (R.callF Try.func74 rfl rfl rfl) rfl (ncopied av X cap b (by first | omega | decide | (simp; done) | (simp; omega)) _ (hM.hereN 1)) ?_; clear hA a
  rintro e w3 ⟨a3, c4, rfl, hn⟩
  replace hM : Mem _ _ [own 3 1 (.slice a3 X.length c4) X.length (X.map (Value.int .i64)), own 3 1 (.slice av X.length cap) X.length (X.map (Value.int .i64)), pt b1 #[.slice av X.length cap, .int .i64 b] 77, pt q #[.pointer (some ⟨m, 0, none⟩), .int .i64 bs, .slice (some ⟨nb, 0, none⟩) 5 5, .slice (some ⟨ob, 0, none⟩) ws ws] 128, pt nb #[.slice none 0 0, .int .i64 0, .slice none 0 0, .int .i64 0, .slice none 0 0, .int .i64 0, .slice none 0 0, .int .i64 0, .slice none 0 0, .int .i64 0] 77] _ := hM.callL 1 hn; clear hn
  refine ⟨.agg #[.slice a3 X.length c4, .int .i64 b], rfl, ((hM.drop 1).drop 0), fun a hA => ?_⟩
  refine D.valF hA rfl (fun _ => R.indexAddr (q := 2) sl126 rfl rfl (by omega) (rfl)) rfl ?_; clear hA a; intro a hA
  refine D.storeA (k := 4) hA hM rfl sz77 rfl rfl rfl rfl rfl rfl ?_; clear hM
  intro w4 hM; refine ⟨fun hne => absurd rfl hne, ?_⟩
  replace hM : Mem _ _ [own 3 1 (.slice a3 X.length c4) X.length (X.map (Value.int .i64)), own 3 1 (.slice av X.length cap) X.length (X.map (Value.int .i64)), pt b1 #[.slice av X.length cap, .int .i64 b] 77, pt q #[.pointer (some ⟨m, 0, none⟩), .int .i64 bs, .slice (some ⟨nb, 0, none⟩) 5 5, .slice (some ⟨ob, 0, none⟩) ws ws] 128, pt nb #[.slice none 0 0, .int .i64 0, .slice a3 X.length c4, .int .i64 b, .slice none 0 0, .int .i64 0, .slice none 0 0, .int .i64 0, .slice none 0 0, .int .i64 0] 77] _ := hM
  refine D.done ?_
  replace hA : St 17 [] a := hA.sub (.nil)
  refine Ends.end0 Try.func44 Try.results44 hA ?_
  replace hM := hM.front (k := 1) rfl
  replace hM := hM.front (k := 4) rfl
  replace hM := hM.front (k := 4) rfl
  replace hM : Mem _ _ [pt q #[.pointer (some ⟨m, 0, none⟩), .int .i64 bs, .slice (some ⟨nb, 0, none⟩) 5 5, .slice (some ⟨ob, 0, none⟩) ws ws] 128, pt nb #[.slice none 0 0, .int .i64 0, .slice a3 X.length c4, .int .i64 b, .slice none 0 0, .int .i64 0, .slice none 0 0, .int .i64 0, .slice none 0 0, .int .i64 0] 77, own 3 1 (.slice av X.length cap) X.length (X.map (Value.int .i64)), own 3 1 (.slice a3 X.length c4) X.length (X.map (Value.int .i64)), pt b1 #[.slice av X.length cap, .int .i64 b] 77] _ := hM
  exact ⟨_, _, rfl, hM.firstN 4⟩
set_option maxRecDepth 100000 in
set_option maxHeartbeats 400000 in
theorem pkeep_2 (q m nb ob ws : Nat) (bs : Int) (av : Option Addr) (X : List Int) (cap : Nat) (b : Int) (hX : X.length ≤ 1000) (w : World) (hM : Mem w (feet [pt q #[.pointer (some ⟨m, 0, none⟩), .int .i64 bs, .slice (some ⟨nb, 0, none⟩) 5 5, .slice (some ⟨ob, 0, none⟩) ws ws] 128, pt nb #[.slice none 0 0, .int .i64 0, .slice none 0 0, .int .i64 0, .slice none 0 0, .int .i64 0, .slice none 0 0, .int .i64 0, .slice none 0 0, .int .i64 0] 77, own 3 1 (.slice av X.length cap) X.length (X.map (Value.int .i64))]) [pt q #[.pointer (some ⟨m, 0, none⟩), .int .i64 bs, .slice (some ⟨nb, 0, none⟩) 5 5, .slice (some ⟨ob, 0, none⟩) ws ws] 128, pt nb #[.slice none 0 0, .int .i64 0, .slice none 0 0, .int .i64 0, .slice none 0 0, .int .i64 0, .slice none 0 0, .int .i64 0, .slice none 0 0, .int .i64 0] 77, own 3 1 (.slice av X.length cap) X.length (X.map (Value.int .i64))] w) :
    Calls Try.prog 44 #[.pointer (some ⟨q, 0, none⟩), .int .i64 2, .agg #[.slice av X.length cap, .int .i64 b]] w fun e w' => ∃ a2 c2, e = .returned (.tuple #[]) ∧ Mem w (feet [pt q #[.pointer (some ⟨m, 0, none⟩), .int .i64 bs, .slice (some ⟨nb, 0, none⟩) 5 5, .slice (some ⟨ob, 0, none⟩) ws ws] 128, pt nb #[.slice none 0 0, .int .i64 0, .slice none 0 0, .int .i64 0, .slice none 0 0, .int .i64 0, .slice none 0 0, .int .i64 0, .slice none 0 0, .int .i64 0] 77, own 3 1 (.slice av X.length cap) X.length (X.map (Value.int .i64))]) [pt q #[.pointer (some ⟨m, 0, none⟩), .int .i64 bs, .slice (some ⟨nb, 0, none⟩) 5 5, .slice (some ⟨ob, 0, none⟩) ws ws] 128, pt nb #[.slice none 0 0, .int .i64 0, .slice none 0 0, .int .i64 0, .slice a2 X.length c2, .int .i64 b, .slice none 0 0, .int .i64 0, .slice none 0 0, .int .i64 0] 77, own 3 1 (.slice av X.length cap) X.length (X.map (Value.int .i64)), own 3 1 (.slice a2 X.length c2) X.length (X.map (Value.int .i64))] w' := by
  have hM0 : True := trivial  -- have hM
  refine Calls.of_ends (vs := [.pointer (some ⟨q, 0, none⟩), .int .i64 2, .agg #[.slice av X.length cap, .int .i64 b]]) Try.func44 rfl Try.ntmps44 rfl ?_
  intro a hA
  replace hA : St 17 [(0, _), (1, _), (2, _)] a := hA
  refine Ends.seq ?_
  refine Ends.region ?_
  refine S.box hA hM rfl rfl ?_; clear hA hM a; intro b1 w1 hb2 hM a hA
  replace hM : Mem _ _ [pt b1 #[.slice av X.length cap, .int .i64 b] 77, pt q #[.pointer (some ⟨m, 0, none⟩), .int .i64 bs, .slice (some ⟨nb, 0, none⟩) 5 5, .slice (some ⟨ob, 0, none⟩) ws ws] 128, pt nb #[.slice none 0 0, .int .i64 0, .slice none 0 0, .int .i64 0, .slice none 0 0, .int .i64 0, .slice none 0 0, .int .i64 0, .slice none 0 0, .int .i64 0] 77, own 3 1 (.slice av X.length cap) X.length (X.map (Value.int .i64))] _ := hM
  refine S.done ?_
  replace hA : St 17 [(0, _), (1, _), (5, _)] a := hA.sub ((.cons rfl (.cons rfl (.cons rfl .nil))))
  refine Ends.seq ?_
  refine Ends.region ?_
  refine S.val hA (R.move rfl) rfl ?_; clear hA a; intro a hA
  refine S.val hA (R.move rfl) rfl ?_; clear hA a; intro a hA
  refine S.call hA (R.callF Try.func73 rfl rfl rfl) rfl (phas_yes q m nb ob 5 ws bs 2 (by first | omega | decide | (simp; done) | (simp; omega)) _ (hM.block (k := 1) rfl)) ?_; clear hA a
  rintro e w2 ⟨rfl, rfl⟩
  refine ⟨.bool true, rfl, fun a hA => ?_⟩
  refine S.done ?_
  replace hA : St 17 [(0, _), (1, _), (5, _), (8, _)] a := hA.sub ((.cons rfl (.cons rfl (.cons rfl (.cons rfl .nil)))))
  refine Ends.condT hA rfl ?_
  refine Ends.drawn (Mem w (feet [pt q #[.pointer (some ⟨m, 0, none⟩), .int .i64 bs, .slice (some ⟨nb, 0, none⟩) 5 5, .slice (some ⟨ob, 0, none⟩) ws ws] 128, pt nb #[.slice none 0 0, .int .i64 0, .slice none 0 0, .int .i64 0, .slice none 0 0, .int .i64 0, .slice none 0 0, .int .i64 0, .slice none 0 0, .int .i64 0] 77, own 3 1 (.slice av X.length cap) X.length (X.map (Value.int .i64))]) [pt b1 #[.slice av X.length cap, .int .i64 b] 77, pt q #[.pointer (some ⟨m, 0, none⟩), .int .i64 bs, .slice (some ⟨nb, 0, none⟩) 5 5, .slice (some ⟨ob, 0, none⟩) ws ws] 128, pt nb #[.slice none 0 0, .int .i64 0, .slice none 0 0, .int .i64 0, .slice none 0 0, .int .i64 0, .slice none 0 0, .int .i64 0, .slice none 0 0, .int .i64 0] 77]) (.cons (0, true) (.cons (1, true) (.cons (2, true) (.cons (3, true) (.cons (4, true) (.cons (5, true) (.cons (6, false) (.cons (7, true) (.cons (8, false) .nil))))))))) 8 mixed (by kernel_rfl) (by kernel_rfl) (by kernel_rfl) (hM.drop 3).drew ?_
  replace hM := hM.drew
  refine D.valF hA rfl (fun _ => R.move rfl) rfl ?_; clear hA a; intro a hA
  refine D.valF hA rfl (fun _ => R.nilCheck rfl) rfl ?_; clear hA a; intro a hA
  refine D.valF hA rfl (fun _ => R.fieldAddr (q := 2) fi128_2 rfl rfl rfl) rfl ?_; clear hA a; intro a hA
  refine D.val hA rfl (by kernel_rfl) (fun _ hM => R.load sz126 rfl (hM.cell (k := 1) rfl rfl)) rfl ?_; clear hA a; intro a hA
  refine D.valF hA rfl (fun _ => R.move rfl) rfl ?_; clear hA a; intro a hA
  refine D.val hA rfl (by kernel_rfl) (fun _ hM => R.loadA sz77 rfl (hM.range (k := 0) rfl) rfl) rfl ?_; clear hA a; intro a hA
  replace hM := hM.front (k := 3) rfl
  replace hM : Mem _ _ [own 3 1 (.slice av X.length cap) X.length (X.map (Value.int .i64)), pt b1 #[.slice av X.length cap, .int .i64 b] 77, pt q #[.pointer (some ⟨m, 0, none⟩), .int .i64 bs, .slice (some ⟨nb, 0, none⟩) 5 5, .slice (some ⟨ob, 0, none⟩) ws ws] 128, pt nb #[.slice none 0 0, .int .i64 0, .slice none 0 0, .int .i64 0, .slice none 0 0, .int .i64 0, .slice none 0 0, .int .i64 0, .slice none 0 0, .int .i64 0] 77] _ := hM
  refine D.call hA rfl (R.callF Try.func74 rfl rfl rfl) rfl (ncopied av X cap b (by first | omega | decide | (simp; done) | (simp; omega)) _ (hM.hereN 1)) ?_; clear hA a
  rintro e w3 ⟨a3, c4, rfl, hn⟩
  replace hM : Mem _ _ [own 3 1 (.slice a3 X.length c4) X.length (X.map (Value.int .i64)), own 3 1 (.slice av X.length cap) X.length (X.map (Value.int .i64)), pt b1 #[.slice av X.length cap, .int .i64 b] 77, pt q #[.pointer (some ⟨m, 0, none⟩), .int .i64 bs, .slice (some ⟨nb, 0, none⟩) 5 5, .slice (some ⟨ob, 0, none⟩) ws ws] 128, pt nb #[.slice none 0 0, .int .i64 0, .slice none 0 0, .int .i64 0, .slice none 0 0, .int .i64 0, .slice none 0 0, .int .i64 0, .slice none 0 0, .int .i64 0] 77] _ := hM.callL 1 hn; clear hn
  refine ⟨.agg #[.slice a3 X.length c4, .int .i64 b], rfl, ((hM.drop 1).drop 0), fun a hA => ?_⟩
  refine D.valF hA rfl (fun _ => R.indexAddr (q := 4) sl126 rfl rfl (by omega) (rfl)) rfl ?_; clear hA a; intro a hA
  refine D.storeA (k := 4) hA hM rfl sz77 rfl rfl rfl rfl rfl rfl ?_; clear hM
  intro w4 hM; refine ⟨fun hne => absurd rfl hne, ?_⟩
  replace hM : Mem _ _ [own 3 1 (.slice a3 X.length c4) X.length (X.map (Value.int .i64)), own 3 1 (.slice av X.length cap) X.length (X.map (Value.int .i64)), pt b1 #[.slice av X.length cap, .int .i64 b] 77, pt q #[.pointer (some ⟨m, 0, none⟩), .int .i64 bs, .slice (some ⟨nb, 0, none⟩) 5 5, .slice (some ⟨ob, 0, none⟩) ws ws] 128, pt nb #[.slice none 0 0, .int .i64 0, .slice none 0 0, .int .i64 0, .slice a3 X.length c4, .int .i64 b, .slice none 0 0, .int .i64 0, .slice none 0 0, .int .i64 0] 77] _ := hM
  refine D.done ?_
  replace hA : St 17 [] a := hA.sub (.nil)
  refine Ends.end0 Try.func44 Try.results44 hA ?_
  replace hM := hM.front (k := 1) rfl
  replace hM := hM.front (k := 4) rfl
  replace hM := hM.front (k := 4) rfl
  replace hM : Mem _ _ [pt q #[.pointer (some ⟨m, 0, none⟩), .int .i64 bs, .slice (some ⟨nb, 0, none⟩) 5 5, .slice (some ⟨ob, 0, none⟩) ws ws] 128, pt nb #[.slice none 0 0, .int .i64 0, .slice none 0 0, .int .i64 0, .slice a3 X.length c4, .int .i64 b, .slice none 0 0, .int .i64 0, .slice none 0 0, .int .i64 0] 77, own 3 1 (.slice av X.length cap) X.length (X.map (Value.int .i64)), own 3 1 (.slice a3 X.length c4) X.length (X.map (Value.int .i64)), pt b1 #[.slice av X.length cap, .int .i64 b] 77] _ := hM
  exact ⟨_, _, rfl, hM.firstN 4⟩
set_option maxRecDepth 100000 in
set_option maxHeartbeats 400000 in
theorem pkeep_3 (q m nb ob ws : Nat) (bs : Int) (av : Option Addr) (X : List Int) (cap : Nat) (b : Int) (hX : X.length ≤ 1000) (w : World) (hM : Mem w (feet [pt q #[.pointer (some ⟨m, 0, none⟩), .int .i64 bs, .slice (some ⟨nb, 0, none⟩) 5 5, .slice (some ⟨ob, 0, none⟩) ws ws] 128, pt nb #[.slice none 0 0, .int .i64 0, .slice none 0 0, .int .i64 0, .slice none 0 0, .int .i64 0, .slice none 0 0, .int .i64 0, .slice none 0 0, .int .i64 0] 77, own 3 1 (.slice av X.length cap) X.length (X.map (Value.int .i64))]) [pt q #[.pointer (some ⟨m, 0, none⟩), .int .i64 bs, .slice (some ⟨nb, 0, none⟩) 5 5, .slice (some ⟨ob, 0, none⟩) ws ws] 128, pt nb #[.slice none 0 0, .int .i64 0, .slice none 0 0, .int .i64 0, .slice none 0 0, .int .i64 0, .slice none 0 0, .int .i64 0, .slice none 0 0, .int .i64 0] 77, own 3 1 (.slice av X.length cap) X.length (X.map (Value.int .i64))] w) :
    Calls Try.prog 44 #[.pointer (some ⟨q, 0, none⟩), .int .i64 3, .agg #[.slice av X.length cap, .int .i64 b]] w fun e w' => ∃ a2 c2, e = .returned (.tuple #[]) ∧ Mem w (feet [pt q #[.pointer (some ⟨m, 0, none⟩), .int .i64 bs, .slice (some ⟨nb, 0, none⟩) 5 5, .slice (some ⟨ob, 0, none⟩) ws ws] 128, pt nb #[.slice none 0 0, .int .i64 0, .slice none 0 0, .int .i64 0, .slice none 0 0, .int .i64 0, .slice none 0 0, .int .i64 0, .slice none 0 0, .int .i64 0] 77, own 3 1 (.slice av X.length cap) X.length (X.map (Value.int .i64))]) [pt q #[.pointer (some ⟨m, 0, none⟩), .int .i64 bs, .slice (some ⟨nb, 0, none⟩) 5 5, .slice (some ⟨ob, 0, none⟩) ws ws] 128, pt nb #[.slice none 0 0, .int .i64 0, .slice none 0 0, .int .i64 0, .slice none 0 0, .int .i64 0, .slice a2 X.length c2, .int .i64 b, .slice none 0 0, .int .i64 0] 77, own 3 1 (.slice av X.length cap) X.length (X.map (Value.int .i64)), own 3 1 (.slice a2 X.length c2) X.length (X.map (Value.int .i64))] w' := by
  have hM0 : True := trivial  -- have hM
  refine Calls.of_ends (vs := [.pointer (some ⟨q, 0, none⟩), .int .i64 3, .agg #[.slice av X.length cap, .int .i64 b]]) Try.func44 rfl Try.ntmps44 rfl ?_
  intro a hA
  replace hA : St 17 [(0, _), (1, _), (2, _)] a := hA
  refine Ends.seq ?_
  refine Ends.region ?_
  refine S.box hA hM rfl rfl ?_; clear hA hM a; intro b1 w1 hb2 hM a hA
  replace hM : Mem _ _ [pt b1 #[.slice av X.length cap, .int .i64 b] 77, pt q #[.pointer (some ⟨m, 0, none⟩), .int .i64 bs, .slice (some ⟨nb, 0, none⟩) 5 5, .slice (some ⟨ob, 0, none⟩) ws ws] 128, pt nb #[.slice none 0 0, .int .i64 0, .slice none 0 0, .int .i64 0, .slice none 0 0, .int .i64 0, .slice none 0 0, .int .i64 0, .slice none 0 0, .int .i64 0] 77, own 3 1 (.slice av X.length cap) X.length (X.map (Value.int .i64))] _ := hM
  refine S.done ?_
  replace hA : St 17 [(0, _), (1, _), (5, _)] a := hA.sub ((.cons rfl (.cons rfl (.cons rfl .nil))))
  refine Ends.seq ?_
  refine Ends.region ?_
  refine S.val hA (R.move rfl) rfl ?_; clear hA a; intro a hA
  refine S.val hA (R.move rfl) rfl ?_; clear hA a; intro a hA
  refine S.call hA (R.callF Try.func73 rfl rfl rfl) rfl (phas_yes q m nb ob 5 ws bs 3 (by first | omega | decide | (simp; done) | (simp; omega)) _ (hM.block (k := 1) rfl)) ?_; clear hA a
  rintro e w2 ⟨rfl, rfl⟩
  refine ⟨.bool true, rfl, fun a hA => ?_⟩
  refine S.done ?_
  replace hA : St 17 [(0, _), (1, _), (5, _), (8, _)] a := hA.sub ((.cons rfl (.cons rfl (.cons rfl (.cons rfl .nil)))))
  refine Ends.condT hA rfl ?_
  refine Ends.drawn (Mem w (feet [pt q #[.pointer (some ⟨m, 0, none⟩), .int .i64 bs, .slice (some ⟨nb, 0, none⟩) 5 5, .slice (some ⟨ob, 0, none⟩) ws ws] 128, pt nb #[.slice none 0 0, .int .i64 0, .slice none 0 0, .int .i64 0, .slice none 0 0, .int .i64 0, .slice none 0 0, .int .i64 0, .slice none 0 0, .int .i64 0] 77, own 3 1 (.slice av X.length cap) X.length (X.map (Value.int .i64))]) [pt b1 #[.slice av X.length cap, .int .i64 b] 77, pt q #[.pointer (some ⟨m, 0, none⟩), .int .i64 bs, .slice (some ⟨nb, 0, none⟩) 5 5, .slice (some ⟨ob, 0, none⟩) ws ws] 128, pt nb #[.slice none 0 0, .int .i64 0, .slice none 0 0, .int .i64 0, .slice none 0 0, .int .i64 0, .slice none 0 0, .int .i64 0, .slice none 0 0, .int .i64 0] 77]) (.cons (0, true) (.cons (1, true) (.cons (2, true) (.cons (3, true) (.cons (4, true) (.cons (5, true) (.cons (6, false) (.cons (7, true) (.cons (8, false) .nil))))))))) 8 mixed (by kernel_rfl) (by kernel_rfl) (by kernel_rfl) (hM.drop 3).drew ?_
  replace hM := hM.drew
  refine D.valF hA rfl (fun _ => R.move rfl) rfl ?_; clear hA a; intro a hA
  refine D.valF hA rfl (fun _ => R.nilCheck rfl) rfl ?_; clear hA a; intro a hA
  refine D.valF hA rfl (fun _ => R.fieldAddr (q := 2) fi128_2 rfl rfl rfl) rfl ?_; clear hA a; intro a hA
  refine D.val hA rfl (by kernel_rfl) (fun _ hM => R.load sz126 rfl (hM.cell (k := 1) rfl rfl)) rfl ?_; clear hA a; intro a hA
  refine D.valF hA rfl (fun _ => R.move rfl) rfl ?_; clear hA a; intro a hA
  refine D.val hA rfl (by kernel_rfl) (fun _ hM => R.loadA sz77 rfl (hM.range (k := 0) rfl) rfl) rfl ?_; clear hA a; intro a hA
  replace hM := hM.front (k := 3) rfl
  replace hM : Mem _ _ [own 3 1 (.slice av X.length cap) X.length (X.map (Value.int .i64)), pt b1 #[.slice av X.length cap, .int .i64 b] 77, pt q #[.pointer (some ⟨m, 0, none⟩), .int .i64 bs, .slice (some ⟨nb, 0, none⟩) 5 5, .slice (some ⟨ob, 0, none⟩) ws ws] 128, pt nb #[.slice none 0 0, .int .i64 0, .slice none 0 0, .int .i64 0, .slice none 0 0, .int .i64 0, .slice none 0 0, .int .i64 0, .slice none 0 0, .int .i64 0] 77] _ := hM
  refine D.call hA rfl (R.callF Try.func74 rfl rfl rfl) rfl (ncopied av X cap b (by first | omega | decide | (simp; done) | (simp; omega)) _ (hM.hereN 1)) ?_; clear hA a
  rintro e w3 ⟨a3, c4, rfl, hn⟩
  replace hM : Mem _ _ [own 3 1 (.slice a3 X.length c4) X.length (X.map (Value.int .i64)), own 3 1 (.slice av X.length cap) X.length (X.map (Value.int .i64)), pt b1 #[.slice av X.length cap, .int .i64 b] 77, pt q #[.pointer (some ⟨m, 0, none⟩), .int .i64 bs, .slice (some ⟨nb, 0, none⟩) 5 5, .slice (some ⟨ob, 0, none⟩) ws ws] 128, pt nb #[.slice none 0 0, .int .i64 0, .slice none 0 0, .int .i64 0, .slice none 0 0, .int .i64 0, .slice none 0 0, .int .i64 0, .slice none 0 0, .int .i64 0] 77] _ := hM.callL 1 hn; clear hn
  refine ⟨.agg #[.slice a3 X.length c4, .int .i64 b], rfl, ((hM.drop 1).drop 0), fun a hA => ?_⟩
  refine D.valF hA rfl (fun _ => R.indexAddr (q := 6) sl126 rfl rfl (by omega) (rfl)) rfl ?_; clear hA a; intro a hA
  refine D.storeA (k := 4) hA hM rfl sz77 rfl rfl rfl rfl rfl rfl ?_; clear hM
  intro w4 hM; refine ⟨fun hne => absurd rfl hne, ?_⟩
  replace hM : Mem _ _ [own 3 1 (.slice a3 X.length c4) X.length (X.map (Value.int .i64)), own 3 1 (.slice av X.length cap) X.length (X.map (Value.int .i64)), pt b1 #[.slice av X.length cap, .int .i64 b] 77, pt q #[.pointer (some ⟨m, 0, none⟩), .int .i64 bs, .slice (some ⟨nb, 0, none⟩) 5 5, .slice (some ⟨ob, 0, none⟩) ws ws] 128, pt nb #[.slice none 0 0, .int .i64 0, .slice none 0 0, .int .i64 0, .slice none 0 0, .int .i64 0, .slice a3 X.length c4, .int .i64 b, .slice none 0 0, .int .i64 0] 77] _ := hM
  refine D.done ?_
  replace hA : St 17 [] a := hA.sub (.nil)
  refine Ends.end0 Try.func44 Try.results44 hA ?_
  replace hM := hM.front (k := 1) rfl
  replace hM := hM.front (k := 4) rfl
  replace hM := hM.front (k := 4) rfl
  replace hM : Mem _ _ [pt q #[.pointer (some ⟨m, 0, none⟩), .int .i64 bs, .slice (some ⟨nb, 0, none⟩) 5 5, .slice (some ⟨ob, 0, none⟩) ws ws] 128, pt nb #[.slice none 0 0, .int .i64 0, .slice none 0 0, .int .i64 0, .slice none 0 0, .int .i64 0, .slice a3 X.length c4, .int .i64 b, .slice none 0 0, .int .i64 0] 77, own 3 1 (.slice av X.length cap) X.length (X.map (Value.int .i64)), own 3 1 (.slice a3 X.length c4) X.length (X.map (Value.int .i64)), pt b1 #[.slice av X.length cap, .int .i64 b] 77] _ := hM
  exact ⟨_, _, rfl, hM.firstN 4⟩
set_option maxRecDepth 100000 in
set_option maxHeartbeats 400000 in
theorem pkeep_4 (q m nb ob ws : Nat) (bs : Int) (av : Option Addr) (X : List Int) (cap : Nat) (b : Int) (hX : X.length ≤ 1000) (w : World) (hM : Mem w (feet [pt q #[.pointer (some ⟨m, 0, none⟩), .int .i64 bs, .slice (some ⟨nb, 0, none⟩) 5 5, .slice (some ⟨ob, 0, none⟩) ws ws] 128, pt nb #[.slice none 0 0, .int .i64 0, .slice none 0 0, .int .i64 0, .slice none 0 0, .int .i64 0, .slice none 0 0, .int .i64 0, .slice none 0 0, .int .i64 0] 77, own 3 1 (.slice av X.length cap) X.length (X.map (Value.int .i64))]) [pt q #[.pointer (some ⟨m, 0, none⟩), .int .i64 bs, .slice (some ⟨nb, 0, none⟩) 5 5, .slice (some ⟨ob, 0, none⟩) ws ws] 128, pt nb #[.slice none 0 0, .int .i64 0, .slice none 0 0, .int .i64 0, .slice none 0 0, .int .i64 0, .slice none 0 0, .int .i64 0, .slice none 0 0, .int .i64 0] 77, own 3 1 (.slice av X.length cap) X.length (X.map (Value.int .i64))] w) :
    Calls Try.prog 44 #[.pointer (some ⟨q, 0, none⟩), .int .i64 4, .agg #[.slice av X.length cap, .int .i64 b]] w fun e w' => ∃ a2 c2, e = .returned (.tuple #[]) ∧ Mem w (feet [pt q #[.pointer (some ⟨m, 0, none⟩), .int .i64 bs, .slice (some ⟨nb, 0, none⟩) 5 5, .slice (some ⟨ob, 0, none⟩) ws ws] 128, pt nb #[.slice none 0 0, .int .i64 0, .slice none 0 0, .int .i64 0, .slice none 0 0, .int .i64 0, .slice none 0 0, .int .i64 0, .slice none 0 0, .int .i64 0] 77, own 3 1 (.slice av X.length cap) X.length (X.map (Value.int .i64))]) [pt q #[.pointer (some ⟨m, 0, none⟩), .int .i64 bs, .slice (some ⟨nb, 0, none⟩) 5 5, .slice (some ⟨ob, 0, none⟩) ws ws] 128, pt nb #[.slice none 0 0, .int .i64 0, .slice none 0 0, .int .i64 0, .slice none 0 0, .int .i64 0, .slice none 0 0, .int .i64 0, .slice a2 X.length c2, .int .i64 b] 77, own 3 1 (.slice av X.length cap) X.length (X.map (Value.int .i64)), own 3 1 (.slice a2 X.length c2) X.length (X.map (Value.int .i64))] w' := by
  have hM0 : True := trivial  -- have hM
  refine Calls.of_ends (vs := [.pointer (some ⟨q, 0, none⟩), .int .i64 4, .agg #[.slice av X.length cap, .int .i64 b]]) Try.func44 rfl Try.ntmps44 rfl ?_
  intro a hA
  replace hA : St 17 [(0, _), (1, _), (2, _)] a := hA
  refine Ends.seq ?_
  refine Ends.region ?_
  refine S.box hA hM rfl rfl ?_; clear hA hM a; intro b1 w1 hb2 hM a hA
  replace hM : Mem _ _ [pt b1 #[.slice av X.length cap, .int .i64 b] 77, pt q #[.pointer (some ⟨m, 0, none⟩), .int .i64 bs, .slice (some ⟨nb, 0, none⟩) 5 5, .slice (some ⟨ob, 0, none⟩) ws ws] 128, pt nb #[.slice none 0 0, .int .i64 0, .slice none 0 0, .int .i64 0, .slice none 0 0, .int .i64 0, .slice none 0 0, .int .i64 0, .slice none 0 0, .int .i64 0] 77, own 3 1 (.slice av X.length cap) X.length (X.map (Value.int .i64))] _ := hM
  refine S.done ?_
  replace hA : St 17 [(0, _), (1, _), (5, _)] a := hA.sub ((.cons rfl (.cons rfl (.cons rfl .nil))))
  refine Ends.seq ?_
  refine Ends.region ?_
  refine S.val hA (R.move rfl) rfl ?_; clear hA a; intro a hA
  refine S.val hA (R.move rfl) rfl ?_; clear hA a; intro a hA
  refine S.call hA (R.callF Try.func73 rfl rfl rfl) rfl (phas_yes q m nb ob 5 ws bs 4 (by first | omega | decide | (simp; done) | (simp; omega)) _ (hM.block (k := 1) rfl)) ?_; clear hA a
  rintro e w2 ⟨rfl, rfl⟩
  refine ⟨.bool true, rfl, fun a hA => ?_⟩
  refine S.done ?_
  replace hA : St 17 [(0, _), (1, _), (5, _), (8, _)] a := hA.sub ((.cons rfl (.cons rfl (.cons rfl (.cons rfl .nil)))))
  refine Ends.condT hA rfl ?_
  refine Ends.drawn (Mem w (feet [pt q #[.pointer (some ⟨m, 0, none⟩), .int .i64 bs, .slice (some ⟨nb, 0, none⟩) 5 5, .slice (some ⟨ob, 0, none⟩) ws ws] 128, pt nb #[.slice none 0 0, .int .i64 0, .slice none 0 0, .int .i64 0, .slice none 0 0, .int .i64 0, .slice none 0 0, .int .i64 0, .slice none 0 0, .int .i64 0] 77, own 3 1 (.slice av X.length cap) X.length (X.map (Value.int .i64))]) [pt b1 #[.slice av X.length cap, .int .i64 b] 77, pt q #[.pointer (some ⟨m, 0, none⟩), .int .i64 bs, .slice (some ⟨nb, 0, none⟩) 5 5, .slice (some ⟨ob, 0, none⟩) ws ws] 128, pt nb #[.slice none 0 0, .int .i64 0, .slice none 0 0, .int .i64 0, .slice none 0 0, .int .i64 0, .slice none 0 0, .int .i64 0, .slice none 0 0, .int .i64 0] 77]) (.cons (0, true) (.cons (1, true) (.cons (2, true) (.cons (3, true) (.cons (4, true) (.cons (5, true) (.cons (6, false) (.cons (7, true) (.cons (8, false) .nil))))))))) 8 mixed (by kernel_rfl) (by kernel_rfl) (by kernel_rfl) (hM.drop 3).drew ?_
  replace hM := hM.drew
  refine D.valF hA rfl (fun _ => R.move rfl) rfl ?_; clear hA a; intro a hA
  refine D.valF hA rfl (fun _ => R.nilCheck rfl) rfl ?_; clear hA a; intro a hA
  refine D.valF hA rfl (fun _ => R.fieldAddr (q := 2) fi128_2 rfl rfl rfl) rfl ?_; clear hA a; intro a hA
  refine D.val hA rfl (by kernel_rfl) (fun _ hM => R.load sz126 rfl (hM.cell (k := 1) rfl rfl)) rfl ?_; clear hA a; intro a hA
  refine D.valF hA rfl (fun _ => R.move rfl) rfl ?_; clear hA a; intro a hA
  refine D.val hA rfl (by kernel_rfl) (fun _ hM => R.loadA sz77 rfl (hM.range (k := 0) rfl) rfl) rfl ?_; clear hA a; intro a hA
  replace hM := hM.front (k := 3) rfl
  replace hM : Mem _ _ [own 3 1 (.slice av X.length cap) X.length (X.map (Value.int .i64)), pt b1 #[.slice av X.length cap, .int .i64 b] 77, pt q #[.pointer (some ⟨m, 0, none⟩), .int .i64 bs, .slice (some ⟨nb, 0, none⟩) 5 5, .slice (some ⟨ob, 0, none⟩) ws ws] 128, pt nb #[.slice none 0 0, .int .i64 0, .slice none 0 0, .int .i64 0, .slice none 0 0, .int .i64 0, .slice none 0 0, .int .i64 0, .slice none 0 0, .int .i64 0] 77] _ := hM
  refine D.call hA rfl (R.callF Try.func74 rfl rfl rfl) rfl (ncopied av X cap b (by first | omega | decide | (simp; done) | (simp; omega)) _ (hM.hereN 1)) ?_; clear hA a
  rintro e w3 ⟨a3, c4, rfl, hn⟩
  replace hM : Mem _ _ [own 3 1 (.slice a3 X.length c4) X.length (X.map (Value.int .i64)), own 3 1 (.slice av X.length cap) X.length (X.map (Value.int .i64)), pt b1 #[.slice av X.length cap, .int .i64 b] 77, pt q #[.pointer (some ⟨m, 0, none⟩), .int .i64 bs, .slice (some ⟨nb, 0, none⟩) 5 5, .slice (some ⟨ob, 0, none⟩) ws ws] 128, pt nb #[.slice none 0 0, .int .i64 0, .slice none 0 0, .int .i64 0, .slice none 0 0, .int .i64 0, .slice none 0 0, .int .i64 0, .slice none 0 0, .int .i64 0] 77] _ := hM.callL 1 hn; clear hn
  refine ⟨.agg #[.slice a3 X.length c4, .int .i64 b], rfl, ((hM.drop 1).drop 0), fun a hA => ?_⟩
  refine D.valF hA rfl (fun _ => R.indexAddr (q := 8) sl126 rfl rfl (by omega) (rfl)) rfl ?_; clear hA a; intro a hA
  refine D.storeA (k := 4) hA hM rfl sz77 rfl rfl rfl rfl rfl rfl ?_; clear hM
  intro w4 hM; refine ⟨fun hne => absurd rfl hne, ?_⟩
  replace hM : Mem _ _ [own 3 1 (.slice a3 X.length c4) X.length (X.map (Value.int .i64)), own 3 1 (.slice av X.length cap) X.length (X.map (Value.int .i64)), pt b1 #[.slice av X.length cap, .int .i64 b] 77, pt q #[.pointer (some ⟨m, 0, none⟩), .int .i64 bs, .slice (some ⟨nb, 0, none⟩) 5 5, .slice (some ⟨ob, 0, none⟩) ws ws] 128, pt nb #[.slice none 0 0, .int .i64 0, .slice none 0 0, .int .i64 0, .slice none 0 0, .int .i64 0, .slice none 0 0, .int .i64 0, .slice a3 X.length c4, .int .i64 b] 77] _ := hM
  refine D.done ?_
  replace hA : St 17 [] a := hA.sub (.nil)
  refine Ends.end0 Try.func44 Try.results44 hA ?_
  replace hM := hM.front (k := 1) rfl
  replace hM := hM.front (k := 4) rfl
  replace hM := hM.front (k := 4) rfl
  replace hM : Mem _ _ [pt q #[.pointer (some ⟨m, 0, none⟩), .int .i64 bs, .slice (some ⟨nb, 0, none⟩) 5 5, .slice (some ⟨ob, 0, none⟩) ws ws] 128, pt nb #[.slice none 0 0, .int .i64 0, .slice none 0 0, .int .i64 0, .slice none 0 0, .int .i64 0, .slice none 0 0, .int .i64 0, .slice a3 X.length c4, .int .i64 b] 77, own 3 1 (.slice av X.length cap) X.length (X.map (Value.int .i64)), own 3 1 (.slice a3 X.length c4) X.length (X.map (Value.int .i64)), pt b1 #[.slice av X.length cap, .int .i64 b] 77] _ := hM
  exact ⟨_, _, rfl, hM.firstN 4⟩
end Go.Proofs.Ytjjbognomeplbaa
