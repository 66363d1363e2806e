/-
  More contracts of package inc; kurganref22's Take.
-/
import Derived.Test.YtjjbognomeplbaaIncN
import Derived.Test.YtjjbognomeplbaaTake
namespace Go.Proofs.Ytjjbognomeplbaa
open Go.RowKit

set_option maxRecDepth 100000 in
set_option maxHeartbeats 400000 in
theorem ioffer_keep (q m pl np_ : Nat) (ix wk wr co : Int) (av : Option Addr) (X : List Int) (cap : Nat) (hX : X.length ≤ 1000) (hwr : 0 ≤ wr ∧ wr < wk) (hco : 0 ≤ co ∧ co ≤ 1125899906842624) (w : World) (hM : Mem w (feet [own 3 1 (.slice av X.length cap) X.length (X.map (Value.int .i64)), pt q #[.pointer (some ⟨m, 0, none⟩), .int .i64 ix, .int .i64 wk, .slice (some ⟨pl, 0, none⟩) np_ np_] 119]) [own 3 1 (.slice av X.length cap) X.length (X.map (Value.int .i64)), pt q #[.pointer (some ⟨m, 0, none⟩), .int .i64 ix, .int .i64 wk, .slice (some ⟨pl, 0, none⟩) np_ np_] 119] w) :
    Calls Try.prog 33 #[.pointer (some ⟨q, 0, none⟩), .int .i64 wr, .slice av X.length cap, .int .i64 co] w fun e w' => ∃ p a2 c2, e = .returned (.pointer (some ⟨p, 0, none⟩)) ∧ Mem w (feet [own 3 1 (.slice av X.length cap) X.length (X.map (Value.int .i64)), pt q #[.pointer (some ⟨m, 0, none⟩), .int .i64 ix, .int .i64 wk, .slice (some ⟨pl, 0, none⟩) np_ np_] 119]) [pt p #[.pointer (some ⟨q, 0, none⟩), .int .i64 wr, .slice a2 X.length c2, .int .i64 co, .bool false, .int .i64 0, .bool false, .bool false] 124, own 3 1 (.slice a2 X.length c2) X.length (X.map (Value.int .i64)), pt q #[.pointer (some ⟨m, 0, none⟩), .int .i64 ix, .int .i64 wk, .slice (some ⟨pl, 0, none⟩) np_ np_] 119, own 3 1 (.slice av X.length cap) X.length (X.map (Value.int .i64))] w' := by
  have hM0 : True := trivial  -- have hM
  refine Calls.of_ends (vs := [.pointer (some ⟨q, 0, none⟩), .int .i64 wr, .slice av X.length cap, .int .i64 co]) Try.func33 rfl Try.ntmps33 rfl ?_
  intro a hA
  replace hA : St 38 [(0, _), (1, _), (2, _), (3, _)] a := hA
  refine Ends.seq ?_
  refine Ends.region ?_
  refine S.val hA (R.assign rfl) rfl ?_; clear hA a; intro a hA
  refine S.done ?_
  replace hA : St 38 [(0, _), (1, _), (2, _), (3, _), (8, _)] a := hA.sub ((.cons rfl (.cons rfl (.cons rfl (.cons rfl (.cons rfl .nil))))))
  refine Ends.seq ?_
  refine Ends.seq ?_
  refine Ends.region ?_
  refine S.val hA (R.move rfl) rfl ?_; clear hA a; intro a hA
  refine S.val hA (R.eqlNil Try.underlying48 rfl rfl) rfl ?_; clear hA a; intro a hA
  refine S.val hA (R.move rfl) rfl ?_; clear hA a; intro a hA
  refine S.valg (dj := 11) hA (by kernel_rfl) rfl (R.move rfl) rfl ?_; clear hA a; intro a hA
  refine S.valg (dj := 11) hA (by kernel_rfl) rfl (R.ff (R.lss rfl rfl) (by omega)) rfl ?_; clear hA a; intro a hA
  refine S.val hA (R.pickF rfl rfl) rfl ?_; clear hA a; intro a hA
  refine S.val hA (R.move rfl) rfl ?_; clear hA a; intro a hA
  refine S.valg (dj := 15) hA (by kernel_rfl) rfl (R.move rfl) rfl ?_; clear hA a; intro a hA
  refine S.valg (dj := 15) hA (by kernel_rfl) rfl (R.move rfl) rfl ?_; clear hA a; intro a hA
  refine S.valg (dj := 15) hA (by kernel_rfl) rfl (R.nilCheck rfl) rfl ?_; clear hA a; intro a hA
  refine S.valg (dj := 15) hA (by kernel_rfl) rfl (R.fieldAddr (q := 2) fi119_2 rfl rfl rfl) rfl ?_; clear hA a; intro a hA
  refine S.valg (dj := 15) hA (by kernel_rfl) rfl (R.load sz3 rfl (hM.cell (k := 1) rfl rfl)) rfl ?_; clear hA a; intro a hA
  refine S.valg (dj := 15) hA (by kernel_rfl) rfl (R.ff (R.geq rfl rfl) (by omega)) rfl ?_; clear hA a; intro a hA
  refine S.val hA (R.pickF rfl rfl) rfl ?_; clear hA a; intro a hA
  refine S.val hA (R.move rfl) rfl ?_; clear hA a; intro a hA
  refine S.valg (dj := 23) hA (by kernel_rfl) rfl (R.move rfl) rfl ?_; clear hA a; intro a hA
  refine S.valg (dj := 23) hA (by kernel_rfl) rfl (R.ff (R.lss rfl rfl) (by omega)) rfl ?_; clear hA a; intro a hA
  refine S.val hA (R.pickF rfl rfl) rfl ?_; clear hA a; intro a hA
  refine S.val hA (R.move rfl) rfl ?_; clear hA a; intro a hA
  refine S.valg (dj := 27) hA (by kernel_rfl) rfl (R.move rfl) rfl ?_; clear hA a; intro a hA
  refine S.valg (dj := 27) hA (by kernel_rfl) rfl (R.ff (R.gtr rfl rfl) (by omega)) rfl ?_; clear hA a; intro a hA
  refine S.val hA (R.pickF rfl rfl) rfl ?_; clear hA a; intro a hA
  refine S.done ?_
  replace hA : St 38 [(0, _), (1, _), (2, _), (3, _), (8, _), (30, _)] a := hA.sub ((.cons rfl (.cons rfl (.cons rfl (.cons rfl (.cons rfl (.cons rfl .nil)))))))
  refine Ends.condF hA rfl ?_
  refine Ends.skip ?_
  refine Ends.seq ?_
  refine Ends.region ?_
  refine S.val hA (R.move rfl) rfl ?_; clear hA a; intro a hA
  refine S.val hA (R.move rfl) rfl ?_; clear hA a; intro a hA
  refine S.val hA (R.move rfl) rfl ?_; clear hA a; intro a hA
  refine S.call hA (R.callF Try.func69 rfl rfl rfl) rfl (clone_own av cap X (by first | decide | simp | omega) _ (hM.mem (k := 0) rfl)) ?_; clear hA a
  rintro e w1 ⟨a1, c2, rfl, hn⟩
  replace hM : Mem _ _ [own 3 1 (.slice a1 X.length c2) X.length (X.map (Value.int .i64)), own 3 1 (.slice av X.length cap) X.length (X.map (Value.int .i64)), pt q #[.pointer (some ⟨m, 0, none⟩), .int .i64 ix, .int .i64 wk, .slice (some ⟨pl, 0, none⟩) np_ np_] 119] _ := hM.call hn; clear hn
  refine ⟨.slice a1 X.length c2, rfl, fun a hA => ?_⟩
  refine S.val hA (R.move rfl) rfl ?_; clear hA a; intro a hA
  refine S.val hA (R.build (cells := #[.pointer (some ⟨q, 0, none⟩), .int .i64 wr, .slice a1 X.length c2, .int .i64 co, .bool false, .int .i64 0, .bool false, .bool false]) rfl (by kernel_rfl)) rfl ?_; clear hA a; intro a hA
  refine S.box hA hM rfl rfl ?_; clear hA hM a; intro b3 w2 hb4 hM a hA
  replace hM : Mem _ _ [pt b3 #[.pointer (some ⟨q, 0, none⟩), .int .i64 wr, .slice a1 X.length c2, .int .i64 co, .bool false, .int .i64 0, .bool false, .bool false] 124, own 3 1 (.slice a1 X.length c2) X.length (X.map (Value.int .i64)), own 3 1 (.slice av X.length cap) X.length (X.map (Value.int .i64)), pt q #[.pointer (some ⟨m, 0, none⟩), .int .i64 ix, .int .i64 wk, .slice (some ⟨pl, 0, none⟩) np_ np_] 119] _ := hM
  refine S.val hA (R.assign rfl) rfl ?_; clear hA a; intro a hA
  refine S.done ?_
  replace hA : St 38 [(8, _)] a := hA.sub ((.cons rfl .nil))
  refine Ends.ret1 Try.func33 Try.results33 hA rfl ?_
  replace hM := hM.front (k := 2) rfl
  replace hM := hM.front (k := 3) rfl
  replace hM := hM.front (k := 3) rfl
  replace hM := hM.front (k := 3) rfl
  replace hM : Mem _ _ [pt b3 #[.pointer (some ⟨q, 0, none⟩), .int .i64 wr, .slice a1 X.length c2, .int .i64 co, .bool false, .int .i64 0, .bool false, .bool false] 124, own 3 1 (.slice a1 X.length c2) X.length (X.map (Value.int .i64)), pt q #[.pointer (some ⟨m, 0, none⟩), .int .i64 ix, .int .i64 wk, .slice (some ⟨pl, 0, none⟩) np_ np_] 119, own 3 1 (.slice av X.length cap) X.length (X.map (Value.int .i64))] _ := hM
  exact ⟨_, _, _, rfl, hM.firstN 4⟩
set_option maxRecDepth 100000 in
set_option maxHeartbeats 400000 in
theorem iswap_miss (p q pl np_ : Nat) (wk wr co np dd ee : Int) (tk : Bool) (av : Option Addr) (X : List Int) (cap : Nat) (ls : List Value) (m c : Nat) (s : Int) (o : CellOp) (hmc : m ≠ c) (cc pp : Int) (hcc : 0 ≤ cc ∧ cc ≤ 1125899906842624) (hpp : 0 ≤ pp ∧ pp < 64) (hs : 0 ≤ s ∧ s < 9223372036854775807) (hwr : 0 ≤ wr ∧ wr < 16) (hco : 0 ≤ co ∧ co ≤ 1125899906842624) (hdd : 0 ≤ dd ∧ dd ≤ 1125899906842624) (hee : 0 ≤ ee ∧ ee < 64) (hnp : np < np_) (hlen : ls.length = np_) (hf : (ee = 2 * wr ∧ np = 2 * wr + 1) ∨ (ee ≠ 2 * wr ∧ np = 2 * wr)) (hv : cc * 64 + pp ≠ dd * 64 + ee) (w : World) (hM : Mem w (feet [pt p #[.pointer (some ⟨q, 0, none⟩), .int .i64 wr, .slice av X.length cap, .int .i64 co, .bool true, .int .i64 (dd * 64 + ee), .bool false, .bool tk] 124, pt pl ((vals ls)) 43, pt q #[.pointer (some ⟨m, 0, none⟩), .int .i64 1, .int .i64 wk, .slice (some ⟨pl, 0, none⟩) np_ np_] 119, memO m c [0, cc * 64 + pp, 0] s o]) [pt p #[.pointer (some ⟨q, 0, none⟩), .int .i64 wr, .slice av X.length cap, .int .i64 co, .bool true, .int .i64 (dd * 64 + ee), .bool false, .bool tk] 124, pt pl ((vals ls)) 43, pt q #[.pointer (some ⟨m, 0, none⟩), .int .i64 1, .int .i64 wk, .slice (some ⟨pl, 0, none⟩) np_ np_] 119, memO m c [0, cc * 64 + pp, 0] s o] w) :
    Calls Try.prog 71 #[.pointer (some ⟨p, 0, none⟩)] w fun e w' => e = .returned (.tuple #[]) ∧ Mem w (feet [pt p #[.pointer (some ⟨q, 0, none⟩), .int .i64 wr, .slice av X.length cap, .int .i64 co, .bool true, .int .i64 (dd * 64 + ee), .bool false, .bool tk] 124, pt pl ((vals ls)) 43, pt q #[.pointer (some ⟨m, 0, none⟩), .int .i64 1, .int .i64 wk, .slice (some ⟨pl, 0, none⟩) np_ np_] 119, memO m c [0, cc * 64 + pp, 0] s o]) [pt p #[.pointer (some ⟨q, 0, none⟩), .int .i64 wr, .slice av X.length cap, .int .i64 co, .bool false, .int .i64 (dd * 64 + ee), .bool false, .bool false] 124, pt pl ((vals (ls.set np.toNat (.slice av X.length cap)))) 43, pt q #[.pointer (some ⟨m, 0, none⟩), .int .i64 1, .int .i64 wk, .slice (some ⟨pl, 0, none⟩) np_ np_] 119, memO m c [0, cc * 64 + pp, 0] (s + 1) ⟨3, 1, cc * 64 + pp, cc * 64 + pp, false⟩] w' := by
  have hM0 : True := trivial  -- have hM
  refine Calls.of_ends (vs := [.pointer (some ⟨p, 0, none⟩)]) Try.func71 rfl Try.ntmps71 rfl ?_
  intro a hA
  replace hA : St 59 [(0, _)] a := hA
  refine Ends.seq ?_
  refine Ends.region ?_
  refine S.val hA (R.move rfl) rfl ?_; clear hA a; intro a hA
  refine S.call hA (R.callF Try.func84 rfl rfl rfl) rfl (ifree_any p q wr av X cap co dd ee true false tk np hdd hee hwr hf _ (hM.block (k := 0) rfl)) ?_; clear hA a
  rintro e w1 ⟨rfl, rfl⟩
  refine ⟨.int .i64 np, rfl, fun a hA => ?_⟩
  refine S.val hA (R.assign rfl) rfl ?_; clear hA a; intro a hA
  refine S.done ?_
  replace hA : St 59 [(0, _), (2, _)] a := hA.sub ((.cons rfl (.cons rfl .nil)))
  refine Ends.seq ?_
  refine Ends.drawn (Mem w (feet [pt p #[.pointer (some ⟨q, 0, none⟩), .int .i64 wr, .slice av X.length cap, .int .i64 co, .bool true, .int .i64 (dd * 64 + ee), .bool false, .bool tk] 124, pt pl ((vals ls)) 43, pt q #[.pointer (some ⟨m, 0, none⟩), .int .i64 1, .int .i64 wk, .slice (some ⟨pl, 0, none⟩) np_ np_] 119, memO m c [0, cc * 64 + pp, 0] s o]) [pt p #[.pointer (some ⟨q, 0, none⟩), .int .i64 wr, .slice av X.length cap, .int .i64 co, .bool true, .int .i64 (dd * 64 + ee), .bool false, .bool tk] 124, pt pl ((vals ls)) 43, pt q #[.pointer (some ⟨m, 0, none⟩), .int .i64 1, .int .i64 wk, .slice (some ⟨pl, 0, none⟩) np_ np_] 119]) [(0, true), (1, true), (2, true), (3, true), (4, true), (5, true), (6, true), (7, true), (8, true), (9, true), (10, true), (11, true), (12, true), (13, false)] 13 mixed (by kernel_rfl) (by kernel_rfl) (by kernel_rfl) (hM.drop 3).drew ?_
  replace hM := hM.drew
  refine D.valF hA rfl (fun _ => R.move rfl) rfl ?_; clear hA a; intro a hA
  refine D.valF hA rfl (fun _ => R.nilCheck rfl) rfl ?_; clear hA a; intro a hA
  refine D.valF hA rfl (fun _ => R.fieldAddr (q := 0) fi124_0 rfl rfl rfl) rfl ?_; clear hA a; intro a hA
  refine D.val hA rfl (by kernel_rfl) (fun _ hM => R.load sz48 rfl (hM.cell (k := 0) rfl rfl)) rfl ?_; clear hA a; intro a hA
  refine D.valF hA rfl (fun _ => R.nilCheck rfl) rfl ?_; clear hA a; intro a hA
  refine D.valF hA rfl (fun _ => R.fieldAddr (q := 3) fi119_3 rfl rfl rfl) rfl ?_; clear hA a; intro a hA
  refine D.val hA rfl (by kernel_rfl) (fun _ hM => R.load sz95 rfl (hM.cell (k := 2) rfl rfl)) rfl ?_; clear hA a; intro a hA
  refine D.valF hA rfl (fun _ => R.move rfl) rfl ?_; clear hA a; intro a hA
  refine D.valF hA rfl (fun _ => R.move rfl) rfl ?_; clear hA a; intro a hA
  refine D.valF hA rfl (fun _ => R.nilCheck rfl) rfl ?_; clear hA a; intro a hA
  refine D.valF hA rfl (fun _ => R.fieldAddr (q := 2) fi124_2 rfl rfl rfl) rfl ?_; clear hA a; intro a hA
  refine D.val hA rfl (by kernel_rfl) (fun _ hM => R.load sz43 rfl (hM.cell (k := 0) rfl rfl)) rfl ?_; clear hA a; intro a hA
  refine D.valF hA rfl (fun _ => R.indexAddr (q := np.toNat) sl95 rfl rfl (by omega) (by omega)) rfl ?_; clear hA a; intro a hA
  refine D.store (k := 1) hA hM rfl sz43 rfl rfl rfl rfl (vals_get _ _ (by omega)) ?_; clear hM
  intro w2 hM; refine ⟨fun hne => absurd rfl hne, ?_⟩
  rw [vals_set] at hM
  replace hM : Mem _ _ [pt p #[.pointer (some ⟨q, 0, none⟩), .int .i64 wr, .slice av X.length cap, .int .i64 co, .bool true, .int .i64 (dd * 64 + ee), .bool false, .bool tk] 124, pt pl ((vals (ls.set np.toNat (.slice av X.length cap)))) 43, pt q #[.pointer (some ⟨m, 0, none⟩), .int .i64 1, .int .i64 wk, .slice (some ⟨pl, 0, none⟩) np_ np_] 119, memO m c [0, cc * 64 + pp, 0] s o] _ := hM
  refine D.done ?_
  replace hA : St 59 [(0, _), (2, _)] a := hA.sub ((.cons rfl (.cons rfl .nil)))
  refine Ends.seq ?_
  refine Ends.drawn (Mem w (feet [pt p #[.pointer (some ⟨q, 0, none⟩), .int .i64 wr, .slice av X.length cap, .int .i64 co, .bool true, .int .i64 (dd * 64 + ee), .bool false, .bool tk] 124, pt pl ((vals ls)) 43, pt q #[.pointer (some ⟨m, 0, none⟩), .int .i64 1, .int .i64 wk, .slice (some ⟨pl, 0, none⟩) np_ np_] 119, memO m c [0, cc * 64 + pp, 0] s o]) [pt p #[.pointer (some ⟨q, 0, none⟩), .int .i64 wr, .slice av X.length cap, .int .i64 co, .bool true, .int .i64 (dd * 64 + ee), .bool false, .bool tk] 124, pt pl ((vals (ls.set np.toNat (.slice av X.length cap)))) 43, pt q #[.pointer (some ⟨m, 0, none⟩), .int .i64 1, .int .i64 wk, .slice (some ⟨pl, 0, none⟩) np_ np_] 119]) [(0, true), (1, true), (2, true), (3, true), (4, true), (5, true), (6, true), (7, true), (8, true), (9, true), (10, true), (11, true), (12, true), (13, true), (14, true), (15, true), (16, true), (17, true), (18, true), (19, true), (20, true), (21, true), (22, true), (23, true), (24, false), (25, false), (26, true), (27, true), (28, true), (29, true), (30, true), (31, false)] 31 mixed (by kernel_rfl) (by kernel_rfl) (by kernel_rfl) (hM.drop 3).drew ?_
  replace hM := hM.drew
  refine D.valF hA rfl (fun _ => R.move rfl) rfl ?_; clear hA a; intro a hA
  refine D.valF hA rfl (fun _ => R.move rfl) rfl ?_; clear hA a; intro a hA
  refine D.valF hA rfl (fun _ => R.nilCheck rfl) rfl ?_; clear hA a; intro a hA
  refine D.valF hA rfl (fun _ => R.fieldAddr (q := 0) fi124_0 rfl rfl rfl) rfl ?_; clear hA a; intro a hA
  refine D.val hA rfl (by kernel_rfl) (fun _ hM => R.load sz48 rfl (hM.cell (k := 0) rfl rfl)) rfl ?_; clear hA a; intro a hA
  refine D.valF hA rfl (fun _ => R.nilCheck rfl) rfl ?_; clear hA a; intro a hA
  refine D.valF hA rfl (fun _ => R.fieldAddr (q := 0) fi119_0 rfl rfl rfl) rfl ?_; clear hA a; intro a hA
  refine D.val hA rfl (by kernel_rfl) (fun _ hM => R.load sz24 rfl (hM.cell (k := 2) rfl rfl)) rfl ?_; clear hA a; intro a hA
  refine D.valF hA rfl (fun _ => R.move rfl) rfl ?_; clear hA a; intro a hA
  refine D.valF hA rfl (fun _ => R.nilCheck rfl) rfl ?_; clear hA a; intro a hA
  refine D.valF hA rfl (fun _ => R.fieldAddr (q := 0) fi124_0 rfl rfl rfl) rfl ?_; clear hA a; intro a hA
  refine D.val hA rfl (by kernel_rfl) (fun _ hM => R.load sz48 rfl (hM.cell (k := 0) rfl rfl)) rfl ?_; clear hA a; intro a hA
  refine D.valF hA rfl (fun _ => R.nilCheck rfl) rfl ?_; clear hA a; intro a hA
  refine D.valF hA rfl (fun _ => R.fieldAddr (q := 1) fi119_1 rfl rfl rfl) rfl ?_; clear hA a; intro a hA
  refine D.val hA rfl (by kernel_rfl) (fun _ hM => R.load sz3 rfl (hM.cell (k := 2) rfl rfl)) rfl ?_; clear hA a; intro a hA
  refine D.valF hA rfl (fun _ => R.move rfl) rfl ?_; clear hA a; intro a hA
  refine D.valF hA rfl (fun _ => R.nilCheck rfl) rfl ?_; clear hA a; intro a hA
  refine D.valF hA rfl (fun _ => R.fieldAddr (q := 5) fi124_5 rfl rfl rfl) rfl ?_; clear hA a; intro a hA
  refine D.val hA rfl (by kernel_rfl) (fun _ hM => R.load sz3 rfl (hM.cell (k := 0) rfl rfl)) rfl ?_; clear hA a; intro a hA
  refine D.valF hA rfl (fun _ => R.move rfl) rfl ?_; clear hA a; intro a hA
  refine D.valF hA rfl (fun _ => R.nilCheck rfl) rfl ?_; clear hA a; intro a hA
  refine D.valF hA rfl (fun _ => R.fieldAddr (q := 3) fi124_3 rfl rfl rfl) rfl ?_; clear hA a; intro a hA
  refine D.val hA rfl (by kernel_rfl) (fun _ hM => R.load sz3 rfl (hM.cell (k := 0) rfl rfl)) rfl ?_; clear hA a; intro a hA
  refine D.valF hA rfl (fun _ => R.move rfl) rfl ?_; clear hA a; intro a hA
  refine D.call hA rfl (R.callF Try.func70 rfl rfl rfl) rfl (ipack_any co np (by omega) (by omega) _) ?_; clear hA a
  rintro e w3 ⟨rfl, rfl⟩
  refine ⟨.int .i64 (co * 64 + np), rfl, (hM.drop 3), fun a hA => ?_⟩
  refine D.call hA rfl (R.callF Try.func61 rfl rfl rfl) rfl (cas_not m c [0, cc * 64 + pp, 0] s o hmc 1 (dd * 64 + ee) (co * 64 + np) (by omega) (by first | decide | simp) (by omega) hv _ (hM.mem (k := 3) rfl)) ?_; clear hA a
  rintro e w4 ⟨rfl, hn⟩
  replace hM : Mem _ _ [memO m c [0, cc * 64 + pp, 0] (s + 1) ⟨3, 1, cc * 64 + pp, cc * 64 + pp, false⟩, pt p #[.pointer (some ⟨q, 0, none⟩), .int .i64 wr, .slice av X.length cap, .int .i64 co, .bool true, .int .i64 (dd * 64 + ee), .bool false, .bool tk] 124, pt pl ((vals (ls.set np.toNat (.slice av X.length cap)))) 43, pt q #[.pointer (some ⟨m, 0, none⟩), .int .i64 1, .int .i64 wk, .slice (some ⟨pl, 0, none⟩) np_ np_] 119] _ := hM.callW (k := 3) rfl hn (fun _ h => h); clear hn
  refine ⟨.tuple #[.bool false, .int .i64 0], rfl, (hM.drop 0), fun a hA => ?_⟩
  refine D.valF hA rfl (fun _ => R.move rfl) rfl ?_; clear hA a; intro a hA
  refine D.valF hA rfl (fun _ => R.extract (v := .bool false) rfl rfl) rfl ?_; clear hA a; intro a hA
  refine D.valF hA rfl (fun _ => R.extract (v := .int .i64 0) rfl rfl) rfl ?_; clear hA a; intro a hA
  refine D.valF hA rfl (fun _ => R.nilCheck rfl) rfl ?_; clear hA a; intro a hA
  refine D.valF hA rfl (fun _ => R.fieldAddr (q := 7) fi124_7 rfl rfl rfl) rfl ?_; clear hA a; intro a hA
  refine D.store (k := 1) hA hM rfl sz4 rfl rfl rfl rfl rfl ?_; clear hM
  intro w5 hM; refine ⟨fun hne => absurd rfl hne, ?_⟩
  replace hM : Mem _ _ [memO m c [0, cc * 64 + pp, 0] (s + 1) ⟨3, 1, cc * 64 + pp, cc * 64 + pp, false⟩, pt p #[.pointer (some ⟨q, 0, none⟩), .int .i64 wr, .slice av X.length cap, .int .i64 co, .bool true, .int .i64 (dd * 64 + ee), .bool false, .bool false] 124, pt pl ((vals (ls.set np.toNat (.slice av X.length cap)))) 43, pt q #[.pointer (some ⟨m, 0, none⟩), .int .i64 1, .int .i64 wk, .slice (some ⟨pl, 0, none⟩) np_ np_] 119] _ := hM
  refine D.done ?_
  replace hA : St 59 [(0, _)] a := hA.sub ((.cons rfl .nil))
  refine Ends.region ?_
  refine S.val hA (R.move rfl) rfl ?_; clear hA a; intro a hA
  refine S.val hA (R.move rfl) rfl ?_; clear hA a; intro a hA
  refine S.val hA (R.move rfl) rfl ?_; clear hA a; intro a hA
  refine S.val hA (R.nilCheck rfl) rfl ?_; clear hA a; intro a hA
  refine S.val hA (R.fieldAddr (q := 7) fi124_7 rfl rfl rfl) rfl ?_; clear hA a; intro a hA
  refine S.val hA (R.load sz4 rfl (hM.cell (k := 1) rfl rfl)) rfl ?_; clear hA a; intro a hA
  refine S.val hA (R.nilCheck rfl) rfl ?_; clear hA a; intro a hA
  refine S.val hA (R.fieldAddr (q := 6) fi124_6 rfl rfl rfl) rfl ?_; clear hA a; intro a hA
  refine S.store (k := 1) hA hM sz4 rfl rfl rfl rfl rfl ?_; clear hM
  intro w6 hM
  replace hM : Mem _ _ [memO m c [0, cc * 64 + pp, 0] (s + 1) ⟨3, 1, cc * 64 + pp, cc * 64 + pp, false⟩, pt p #[.pointer (some ⟨q, 0, none⟩), .int .i64 wr, .slice av X.length cap, .int .i64 co, .bool true, .int .i64 (dd * 64 + ee), .bool false, .bool false] 124, pt pl ((vals (ls.set np.toNat (.slice av X.length cap)))) 43, pt q #[.pointer (some ⟨m, 0, none⟩), .int .i64 1, .int .i64 wk, .slice (some ⟨pl, 0, none⟩) np_ np_] 119] _ := hM
  refine S.val hA (R.nilCheck rfl) rfl ?_; clear hA a; intro a hA
  refine S.val hA (R.fieldAddr (q := 4) fi124_4 rfl rfl rfl) rfl ?_; clear hA a; intro a hA
  refine S.store (k := 1) hA hM sz4 rfl rfl rfl rfl rfl ?_; clear hM
  intro w7 hM
  replace hM : Mem _ _ [memO m c [0, cc * 64 + pp, 0] (s + 1) ⟨3, 1, cc * 64 + pp, cc * 64 + pp, false⟩, pt p #[.pointer (some ⟨q, 0, none⟩), .int .i64 wr, .slice av X.length cap, .int .i64 co, .bool false, .int .i64 (dd * 64 + ee), .bool false, .bool false] 124, pt pl ((vals (ls.set np.toNat (.slice av X.length cap)))) 43, pt q #[.pointer (some ⟨m, 0, none⟩), .int .i64 1, .int .i64 wk, .slice (some ⟨pl, 0, none⟩) np_ np_] 119] _ := hM
  refine S.done ?_
  replace hA : St 59 [] a := hA.sub (.nil)
  refine Ends.end0 Try.func71 Try.results71 hA ?_
  replace hM := hM.front (k := 3) rfl
  replace hM := hM.front (k := 3) rfl
  replace hM := hM.front (k := 3) rfl
  replace hM : Mem _ _ [pt p #[.pointer (some ⟨q, 0, none⟩), .int .i64 wr, .slice av X.length cap, .int .i64 co, .bool false, .int .i64 (dd * 64 + ee), .bool false, .bool false] 124, pt pl ((vals (ls.set np.toNat (.slice av X.length cap)))) 43, pt q #[.pointer (some ⟨m, 0, none⟩), .int .i64 1, .int .i64 wk, .slice (some ⟨pl, 0, none⟩) np_ np_] 119, memO m c [0, cc * 64 + pp, 0] (s + 1) ⟨3, 1, cc * 64 + pp, cc * 64 + pp, false⟩] _ := hM
  exact ⟨rfl, hM.firstN 4⟩
set_option maxRecDepth 100000 in
set_option maxHeartbeats 400000 in
theorem istep_miss (p q pl np_ : Nat) (wk wr co np dd ee : Int) (tk : Bool) (av : Option Addr) (X : List Int) (cap : Nat) (ls : List Value) (m c : Nat) (s : Int) (o : CellOp) (hmc : m ≠ c) (cc pp : Int) (hcc : 0 ≤ cc ∧ cc ≤ 1125899906842624) (hpp : 0 ≤ pp ∧ pp < 64) (hs : 0 ≤ s ∧ s < 9223372036854775807) (hwr : 0 ≤ wr ∧ wr < 16) (hco : 0 ≤ co ∧ co ≤ 1125899906842624) (hdd : 0 ≤ dd ∧ dd ≤ 1125899906842624) (hee : 0 ≤ ee ∧ ee < 64) (hnp : np < np_) (hlen : ls.length = np_) (hf : (ee = 2 * wr ∧ np = 2 * wr + 1) ∨ (ee ≠ 2 * wr ∧ np = 2 * wr)) (hv : cc * 64 + pp ≠ dd * 64 + ee) (w : World) (hM : Mem w (feet [pt p #[.pointer (some ⟨q, 0, none⟩), .int .i64 wr, .slice av X.length cap, .int .i64 co, .bool true, .int .i64 (dd * 64 + ee), .bool false, .bool tk] 124, pt pl ((vals ls)) 43, pt q #[.pointer (some ⟨m, 0, none⟩), .int .i64 1, .int .i64 wk, .slice (some ⟨pl, 0, none⟩) np_ np_] 119, memO m c [0, cc * 64 + pp, 0] s o]) [pt p #[.pointer (some ⟨q, 0, none⟩), .int .i64 wr, .slice av X.length cap, .int .i64 co, .bool true, .int .i64 (dd * 64 + ee), .bool false, .bool tk] 124, pt pl ((vals ls)) 43, pt q #[.pointer (some ⟨m, 0, none⟩), .int .i64 1, .int .i64 wk, .slice (some ⟨pl, 0, none⟩) np_ np_] 119, memO m c [0, cc * 64 + pp, 0] s o] w) :
    Calls Try.prog 35 #[.pointer (some ⟨p, 0, none⟩)] w fun e w' => e = .returned (.bool false) ∧ Mem w (feet [pt p #[.pointer (some ⟨q, 0, none⟩), .int .i64 wr, .slice av X.length cap, .int .i64 co, .bool true, .int .i64 (dd * 64 + ee), .bool false, .bool tk] 124, pt pl ((vals ls)) 43, pt q #[.pointer (some ⟨m, 0, none⟩), .int .i64 1, .int .i64 wk, .slice (some ⟨pl, 0, none⟩) np_ np_] 119, memO m c [0, cc * 64 + pp, 0] s o]) [pt p #[.pointer (some ⟨q, 0, none⟩), .int .i64 wr, .slice av X.length cap, .int .i64 co, .bool false, .int .i64 (dd * 64 + ee), .bool false, .bool false] 124, pt pl ((vals (ls.set np.toNat (.slice av X.length cap)))) 43, pt q #[.pointer (some ⟨m, 0, none⟩), .int .i64 1, .int .i64 wk, .slice (some ⟨pl, 0, none⟩) np_ np_] 119, memO m c [0, cc * 64 + pp, 0] (s + 1) ⟨3, 1, cc * 64 + pp, cc * 64 + pp, false⟩] w' := by
  have hM0 : True := trivial  -- have hM
  refine Calls.of_ends (vs := [.pointer (some ⟨p, 0, none⟩)]) Try.func35 rfl Try.ntmps35 rfl ?_
  intro a hA
  replace hA : St 24 [(0, _)] a := hA
  refine Ends.seq ?_
  refine Ends.region ?_
  refine S.val hA (R.assign rfl) rfl ?_; clear hA a; intro a hA
  refine S.done ?_
  replace hA : St 24 [(0, _), (2, _)] a := hA.sub ((.cons rfl (.cons rfl .nil)))
  refine Ends.seq ?_
  refine Ends.block ?_
  refine Ends.seq ?_
  refine Ends.region ?_
  refine S.val hA (R.move rfl) rfl ?_; clear hA a; intro a hA
  refine S.val hA (R.eqlNil Try.underlying54 rfl rfl) rfl ?_; clear hA a; intro a hA
  refine S.val hA (R.assign rfl) rfl ?_; clear hA a; intro a hA
  refine S.done ?_
  replace hA : St 24 [(0, _), (2, _), (5, _)] a := hA.sub ((.cons rfl (.cons rfl (.cons rfl .nil))))
  refine Ends.condF hA rfl ?_
  refine Ends.seq ?_
  refine Ends.region ?_
  refine S.val hA (R.move rfl) rfl ?_; clear hA a; intro a hA
  refine S.val hA (R.nilCheck rfl) rfl ?_; clear hA a; intro a hA
  refine S.val hA (R.fieldAddr (q := 6) fi124_6 rfl rfl rfl) rfl ?_; clear hA a; intro a hA
  refine S.val hA (R.load sz4 rfl (hM.cell (k := 0) rfl rfl)) rfl ?_; clear hA a; intro a hA
  refine S.val hA (R.assign rfl) rfl ?_; clear hA a; intro a hA
  refine S.done ?_
  replace hA : St 24 [(0, _), (2, _), (8, _)] a := hA.sub ((.cons rfl (.cons rfl (.cons rfl .nil))))
  refine Ends.condF hA rfl ?_
  refine Ends.seq ?_
  refine Ends.region ?_
  refine S.val hA (R.move rfl) rfl ?_; clear hA a; intro a hA
  refine S.val hA (R.nilCheck rfl) rfl ?_; clear hA a; intro a hA
  refine S.val hA (R.fieldAddr (q := 4) fi124_4 rfl rfl rfl) rfl ?_; clear hA a; intro a hA
  refine S.val hA (R.load sz4 rfl (hM.cell (k := 0) rfl rfl)) rfl ?_; clear hA a; intro a hA
  refine S.val hA (R.assign rfl) rfl ?_; clear hA a; intro a hA
  refine S.done ?_
  replace hA : St 24 [(0, _), (2, _), (13, _)] a := hA.sub ((.cons rfl (.cons rfl (.cons rfl .nil))))
  refine Ends.condT hA rfl ?_
  refine Ends.region ?_
  refine S.val hA (R.move rfl) rfl ?_; clear hA a; intro a hA
  refine S.call hA (R.callF Try.func71 rfl rfl rfl) rfl (iswap_miss p q pl np_ wk wr co np dd ee tk av X cap ls m c s o hmc cc pp hcc hpp hs hwr hco hdd hee hnp hlen hf hv _ (hM.hereN 4)) ?_; clear hA a
  rintro e w1 ⟨rfl, hn⟩
  replace hM : Mem _ _ [pt p #[.pointer (some ⟨q, 0, none⟩), .int .i64 wr, .slice av X.length cap, .int .i64 co, .bool false, .int .i64 (dd * 64 + ee), .bool false, .bool false] 124, pt pl ((vals (ls.set np.toNat (.slice av X.length cap)))) 43, pt q #[.pointer (some ⟨m, 0, none⟩), .int .i64 1, .int .i64 wk, .slice (some ⟨pl, 0, none⟩) np_ np_] 119, memO m c [0, cc * 64 + pp, 0] (s + 1) ⟨3, 1, cc * 64 + pp, cc * 64 + pp, false⟩] _ := hM.callL 4 hn; clear hn
  refine ⟨.tuple #[], rfl, fun a hA => ?_⟩
  refine S.done ?_
  replace hA : St 24 [(0, _), (2, _)] a := hA.sub ((.cons rfl (.cons rfl .nil)))
  refine Ends.inBlock ?_
  refine Ends.seq ?_
  refine Ends.region ?_
  refine S.val hA (R.move rfl) rfl ?_; clear hA a; intro a hA
  refine S.val hA (R.nilCheck rfl) rfl ?_; clear hA a; intro a hA
  refine S.val hA (R.fieldAddr (q := 6) fi124_6 rfl rfl rfl) rfl ?_; clear hA a; intro a hA
  refine S.val hA (R.load sz4 rfl (hM.cell (k := 0) rfl rfl)) rfl ?_; clear hA a; intro a hA
  refine S.val hA (R.assign rfl) rfl ?_; clear hA a; intro a hA
  refine S.done ?_
  replace hA : St 24 [(2, _)] a := hA.sub ((.cons rfl .nil))
  refine Ends.ret1 Try.func35 Try.results35 hA rfl ?_
  exact ⟨rfl, hM.firstN 4⟩
set_option maxRecDepth 100000 in
set_option maxHeartbeats 400000 in
theorem take22_ok (wb g : Nat) (c0 co : Int) (v0 : Value) (X : List Int) (cap : Nat) (hX : X.length ≤ 1000) (w : World) (hM : Mem w (feet [pt wb #[.int .i64 c0, v0] 61, own 3 1 (.slice (some ⟨g, 0, none⟩) X.length cap) X.length (X.map (Value.int .i64))]) [pt wb #[.int .i64 c0, v0] 61, own 3 1 (.slice (some ⟨g, 0, none⟩) X.length cap) X.length (X.map (Value.int .i64))] w) :
    Calls Try.prog 39 #[.pointer (some ⟨wb, 0, none⟩), .slice (some ⟨g, 0, none⟩) X.length cap, .int .i64 co] w fun e w' => ∃ a2 c2, e = .returned (.tuple #[]) ∧ Mem w (feet [pt wb #[.int .i64 c0, v0] 61, own 3 1 (.slice (some ⟨g, 0, none⟩) X.length cap) X.length (X.map (Value.int .i64))]) [pt wb #[.int .i64 co, .slice a2 X.length c2] 61, own 3 1 (.slice a2 X.length c2) X.length (X.map (Value.int .i64)), own 3 1 (.slice (some ⟨g, 0, none⟩) X.length cap) X.length (X.map (Value.int .i64))] w' := by
  have hM0 : True := trivial  -- have hM
  refine Calls.of_ends (vs := [.pointer (some ⟨wb, 0, none⟩), .slice (some ⟨g, 0, none⟩) X.length cap, .int .i64 co]) Try.func39 rfl Try.ntmps39 rfl ?_
  intro a hA
  replace hA : St 16 [(0, _), (1, _), (2, _)] a := hA
  refine Ends.region ?_
  refine S.val hA (R.move rfl) rfl ?_; clear hA a; intro a hA
  refine S.val hA (R.move rfl) rfl ?_; clear hA a; intro a hA
  refine S.buildSl0 hA hM Try.underlying43 info3 rfl ?_; clear hA hM a; intro b1 w1 hb2 hM a hA
  replace hM : Mem _ _ [pt b1 #[] 3, pt wb #[.int .i64 c0, v0] 61, own 3 1 (.slice (some ⟨g, 0, none⟩) X.length cap) X.length (X.map (Value.int .i64))] _ := hM
  replace hM := hM.ownPt (cap := 0) (n := 0) (sz := 1) (xs := []) rfl (by decide) (by decide) rfl
  replace hM : Mem _ _ [own 3 1 (.slice (some ⟨b1, 0, none⟩) 0 0) 0 ((([] : List Int)).map (Value.int .i64)), pt wb #[.int .i64 c0, v0] 61, own 3 1 (.slice (some ⟨g, 0, none⟩) X.length cap) X.length (X.map (Value.int .i64))] _ := hM
  refine S.val hA (R.move rfl) rfl ?_; clear hA a; intro a hA
  refine S.appendO (k := 0) (k2 := 2) hA hM rfl rfl Try.underlying43 info3 rfl rfl rfl rfl rfl rfl rfl (allOne_ints X) (by show 0 + X.length ≤ 9223372036854775807; omega) (by show (0 + X.length) * 8 ≤ _; omega) rfl ?_; clear hA hM a; intro a3 c4 w2 hM a hA
  rw [Nat.zero_add, List.map_nil, List.nil_append] at hM; rw [Nat.zero_add] at hA
  replace hM : Mem _ _ [own 3 1 (.slice a3 X.length c4) X.length (X.map (Value.int .i64)), pt wb #[.int .i64 c0, v0] 61, own 3 1 (.slice (some ⟨g, 0, none⟩) X.length cap) X.length (X.map (Value.int .i64))] _ := hM
  refine S.val hA (R.move rfl) rfl ?_; clear hA a; intro a hA
  refine S.val hA (R.nilCheck rfl) rfl ?_; clear hA a; intro a hA
  refine S.val hA (R.fieldAddr (q := 1) fi61_1 rfl rfl rfl) rfl ?_; clear hA a; intro a hA
  refine S.store (k := 1) hA hM sz43 rfl rfl rfl rfl rfl ?_; clear hM
  intro w3 hM
  replace hM : Mem _ _ [own 3 1 (.slice a3 X.length c4) X.length (X.map (Value.int .i64)), pt wb #[.int .i64 c0, .slice a3 X.length c4] 61, own 3 1 (.slice (some ⟨g, 0, none⟩) X.length cap) X.length (X.map (Value.int .i64))] _ := hM
  refine S.val hA (R.nilCheck rfl) rfl ?_; clear hA a; intro a hA
  refine S.val hA (R.fieldAddr (q := 0) fi61_0 rfl rfl rfl) rfl ?_; clear hA a; intro a hA
  refine S.store (k := 1) hA hM sz3 rfl rfl rfl rfl rfl ?_; clear hM
  intro w4 hM
  replace hM : Mem _ _ [own 3 1 (.slice a3 X.length c4) X.length (X.map (Value.int .i64)), pt wb #[.int .i64 co, .slice a3 X.length c4] 61, own 3 1 (.slice (some ⟨g, 0, none⟩) X.length cap) X.length (X.map (Value.int .i64))] _ := hM
  refine S.done ?_
  replace hA : St 16 [] a := hA.sub (.nil)
  refine Ends.end0 Try.func39 Try.results39 hA ?_
  replace hM := hM.front (k := 2) rfl
  replace hM := hM.front (k := 1) rfl
  replace hM := hM.front (k := 2) rfl
  replace hM : Mem _ _ [pt wb #[.int .i64 co, .slice a3 X.length c4] 61, own 3 1 (.slice a3 X.length c4) X.length (X.map (Value.int .i64)), own 3 1 (.slice (some ⟨g, 0, none⟩) X.length cap) X.length (X.map (Value.int .i64))] _ := hM
  exact ⟨_, _, rfl, hM.firstN 3⟩
end Go.Proofs.Ytjjbognomeplbaa
