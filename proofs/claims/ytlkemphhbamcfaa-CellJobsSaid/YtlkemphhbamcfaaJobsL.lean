/-
  cell.Mem.All, Last; the law CellJobs.
-/
import Derived.Test.YtlkemphhbamcfaaJobsR
import Derived.Test.YtlkemphhbamcfaaCellL
namespace Go.Proofs.Ytlkemphhbamcfaa
open Go.RowKit

set_option maxRecDepth 100000 in
set_option maxHeartbeats 400000 in
theorem all_ok (b c : Nat) (l : List Int) (s : Int) (o : CellOp) (hne : b ≠ c) (hl : l.length ≤ 1000) (w : World) (hm : (memO b c l s o).holds w) :
    Calls Try.prog 54 #[.pointer (some ⟨b, 0, none⟩)] w fun e w' => ∃ a2 c2, e = .returned (.slice a2 l.length c2) ∧ Mem w (two b c) [memO b c l s o, own 3 1 (.slice a2 l.length c2) l.length (l.map (Value.int .i64))] w' := by
  have hM := memO.open hm hne
  replace hM : Mem w (two b c) [pt b #[.slice (some ⟨c, 0, none⟩) l.length l.length, .int .i64 s, .int .i64 o.kind, .int .i64 o.cell, .int .i64 o.old, .int .i64 o.new, .bool o.done] 117, pt c ((ints l)) 3] w := hM
  refine Calls.of_ends (vs := [.pointer (some ⟨b, 0, none⟩)]) Try.func54 rfl Try.ntmps54 rfl ?_
  intro a hA
  replace hA : St 10 [(0, _)] a := hA
  refine Ends.seq ?_
  refine Ends.region ?_
  refine S.val hA (R.assign rfl) rfl ?_; clear hA a; intro a hA
  refine S.done ?_
  replace hA : St 10 [(0, _), (2, _)] a := hA.sub ((.cons rfl (.cons rfl .nil)))
  refine Ends.seq ?_
  refine Ends.seq ?_
  refine Ends.region ?_
  refine S.val hA (R.move rfl) rfl ?_; clear hA a; intro a hA
  refine S.val hA (R.eqlNil Try.underlying64 rfl rfl) rfl ?_; clear hA a; intro a hA
  refine S.done ?_
  replace hA : St 10 [(0, _), (2, _), (4, _)] a := hA.sub ((.cons rfl (.cons rfl (.cons rfl .nil))))
  refine Ends.condF hA rfl ?_
  refine Ends.skip ?_
  refine Ends.seq ?_
  refine Ends.region ?_
  refine S.val hA (R.move rfl) rfl ?_; clear hA a; intro a hA
  refine S.val hA (R.nilCheck rfl) rfl ?_; clear hA a; intro a hA
  refine S.val hA (R.fieldAddr (q := 0) fi117_0 rfl rfl rfl) rfl ?_; clear hA a; intro a hA
  refine S.val hA (R.load sz40 rfl (hM.cell (k := 0) rfl rfl)) rfl ?_; clear hA a; intro a hA
  refine S.call hA (R.callF Try.func76 rfl rfl rfl) rfl (clone_pt c l hl _ (hM.mem (k := 1) rfl)) ?_; clear hA a
  rintro e w1 ⟨a1, c2, rfl, hn⟩
  replace hM : Mem _ _ [own 3 1 (.slice a1 l.length c2) l.length (l.map (Value.int .i64)), pt b #[.slice (some ⟨c, 0, none⟩) l.length l.length, .int .i64 s, .int .i64 o.kind, .int .i64 o.cell, .int .i64 o.old, .int .i64 o.new, .bool o.done] 117, pt c ((ints l)) 3] _ := hM.call hn; clear hn
  refine ⟨.slice a1 l.length c2, rfl, fun a hA => ?_⟩
  refine S.val hA (R.assign rfl) rfl ?_; clear hA a; intro a hA
  refine S.done ?_
  replace hA : St 10 [(2, _)] a := hA.sub ((.cons rfl .nil))
  refine Ends.ret1 Try.func54 Try.results54 hA rfl ?_
  replace hM := hM.front (k := 2) rfl
  replace hM := hM.front (k := 2) rfl
  replace hM : Mem _ _ [pt b #[.slice (some ⟨c, 0, none⟩) l.length l.length, .int .i64 s, .int .i64 o.kind, .int .i64 o.cell, .int .i64 o.old, .int .i64 o.new, .bool o.done] 117, pt c ((ints l)) 3, own 3 1 (.slice a1 l.length c2) l.length (l.map (Value.int .i64))] _ := hM
  exact ⟨_, _, rfl, hM.join⟩
set_option maxRecDepth 100000 in
set_option maxHeartbeats 400000 in
theorem last16_ok (b c : Nat) (l : List Int) (s : Int) (o : CellOp) (hne : b ≠ c) (w : World) (hm : (memO b c l s o).holds w) :
    Calls Try.prog 53 #[.pointer (some ⟨b, 0, none⟩)] w fun e w' => e = .returned (.agg #[.int .i64 o.kind, .int .i64 o.cell, .int .i64 o.old, .int .i64 o.new, .bool o.done]) ∧ Mem w (two b c) [memO b c l s o] w' := by
  have hM := memO.open hm hne
  replace hM : Mem w (two b c) [pt b #[.slice (some ⟨c, 0, none⟩) l.length l.length, .int .i64 s, .int .i64 o.kind, .int .i64 o.cell, .int .i64 o.old, .int .i64 o.new, .bool o.done] 117, pt c ((ints l)) 3] w := hM
  refine Calls.of_ends (vs := [.pointer (some ⟨b, 0, none⟩)]) Try.func53 rfl Try.ntmps53 rfl ?_
  intro a hA
  replace hA : St 10 [(0, _)] a := hA
  refine Ends.seq ?_
  refine Ends.region ?_
  refine S.alloc hA hM info79 rfl rfl ?_; clear hA hM a; intro b1 w1 hb2 hM a hA
  replace hM : Mem _ _ [pt b1 #[.int .i64 0, .int .i64 0, .int .i64 0, .int .i64 0, .bool false] 79, pt b #[.slice (some ⟨c, 0, none⟩) l.length l.length, .int .i64 s, .int .i64 o.kind, .int .i64 o.cell, .int .i64 o.old, .int .i64 o.new, .bool o.done] 117, pt c ((ints l)) 3] _ := hM
  refine S.done ?_
  replace hA : St 10 [(0, _), (2, _)] a := hA.sub ((.cons rfl (.cons rfl .nil)))
  refine Ends.seq ?_
  refine Ends.seq ?_
  refine Ends.region ?_
  refine S.val hA (R.move rfl) rfl ?_; clear hA a; intro a hA
  refine S.val hA (R.eqlNil Try.underlying64 rfl rfl) rfl ?_; clear hA a; intro a hA
  refine S.done ?_
  replace hA : St 10 [(0, _), (2, _), (4, _)] a := hA.sub ((.cons rfl (.cons rfl (.cons rfl .nil))))
  refine Ends.condF hA rfl ?_
  refine Ends.skip ?_
  refine Ends.seq ?_
  refine Ends.region ?_
  refine S.val hA (R.move rfl) rfl ?_; clear hA a; intro a hA
  refine S.val hA (R.nilCheck rfl) rfl ?_; clear hA a; intro a hA
  refine S.val hA (R.fieldAddr (q := 2) fi117_2 rfl rfl rfl) rfl ?_; clear hA a; intro a hA
  refine S.val hA (R.loadA sz79 rfl (hM.part (k := 1) rfl 2 5 rfl) rfl) rfl ?_; clear hA a; intro a hA
  refine S.storeA (k := 0) hA hM sz79 rfl rfl rfl rfl rfl rfl ?_; clear hM
  intro w2 hM
  replace hM : Mem _ _ [pt b1 #[.int .i64 o.kind, .int .i64 o.cell, .int .i64 o.old, .int .i64 o.new, .bool o.done] 79, pt b #[.slice (some ⟨c, 0, none⟩) l.length l.length, .int .i64 s, .int .i64 o.kind, .int .i64 o.cell, .int .i64 o.old, .int .i64 o.new, .bool o.done] 117, pt c ((ints l)) 3] _ := hM
  refine S.done ?_
  replace hA : St 10 [(2, _)] a := hA.sub ((.cons rfl .nil))
  refine Ends.retC (k := 0) Try.func53 Try.results53 hA hM rfl rfl sz79 rfl ?_
  exact ⟨rfl, (hM.drop 0).join⟩
set_option maxRecDepth 100000 in
set_option maxHeartbeats 400000 in
theorem none16b  (w : World) :
    Calls Try.prog 49 #[] w fun e w' => e = .returned (.pointer none) ∧ w = w' := by
  have hM := Mem.start w
  refine Calls.of_ends (vs := []) Try.func49 rfl Try.ntmps49 rfl ?_
  intro a hA
  replace hA : St 1 [] a := hA
  refine Ends.seq ?_
  refine Ends.region ?_
  refine S.val hA (R.assign rfl) rfl ?_; clear hA a; intro a hA
  refine S.done ?_
  replace hA : St 1 [(0, _)] a := hA.sub ((.cons rfl .nil))
  refine Ends.seq ?_
  refine Ends.region ?_
  refine S.val hA (R.assign rfl) rfl ?_; clear hA a; intro a hA
  refine S.done ?_
  replace hA : St 1 [(0, _)] a := hA.sub ((.cons rfl .nil))
  refine Ends.ret1 Try.func49 Try.results49 hA rfl ?_
  exact ⟨rfl, rfl⟩
set_option maxRecDepth 100000 in
set_option maxHeartbeats 400000 in
theorem cellJobs_w (n : Int) (ad : Option Addr) (nr cap : Nat) (rws : List Int) (hrall : AllI rws) (w : World) (hrow : RowSl w (.slice ad nr cap) 4 nr rws) :
    Calls Try.prog 14 #[.int .i64 n, .slice ad nr cap] w fun e w' => e = .returned (.bool true) ∧ Below w.heap.size w w' := by
  have hM := Mem.start w
  refine Calls.of_ends (vs := [.int .i64 n, .slice ad nr cap]) Try.func14 rfl Try.ntmps14 rfl ?_
  intro a hA
  replace hA : St 231 [(0, _), (1, _)] a := hA
  refine Ends.seq ?_
  refine Ends.region ?_
  refine S.val hA (R.assign rfl) rfl ?_; clear hA a; intro a hA
  refine S.done ?_
  replace hA : St 231 [(0, _), (1, _), (4, _)] a := hA.sub ((.cons rfl (.cons rfl (.cons rfl .nil))))
  refine Ends.seq ?_
  refine Ends.region ?_
  refine S.call hA (R.callF Try.func49 rfl rfl rfl) rfl (none16b _) ?_; clear hA a
  rintro e w1 ⟨rfl, rfl⟩
  refine ⟨.pointer none, rfl, fun a hA => ?_⟩
  refine S.call hA (R.callF Try.func45 rfl rfl rfl) rfl (get_nil _ _) ?_; clear hA a
  rintro e w2 ⟨rfl, rfl⟩
  refine ⟨.tuple #[.int .i64 0, .int .i64 1], rfl, fun a hA => ?_⟩
  refine S.val hA (R.move rfl) rfl ?_; clear hA a; intro a hA
  refine S.val hA (R.extract (v := .int .i64 0) rfl rfl) rfl ?_; clear hA a; intro a hA
  refine S.val hA (R.extract (v := .int .i64 1) rfl rfl) rfl ?_; clear hA a; intro a hA
  refine S.val hA (R.assign rfl) rfl ?_; clear hA a; intro a hA
  refine S.val hA (R.assign rfl) rfl ?_; clear hA a; intro a hA
  refine S.done ?_
  replace hA : St 231 [(0, _), (1, _), (4, _), (6, _)] a := hA.sub ((.cons rfl (.cons rfl (.cons rfl (.cons rfl .nil)))))
  refine Ends.seq ?_
  refine Ends.region ?_
  refine S.call hA (R.callF Try.func49 rfl rfl rfl) rfl (none16b _) ?_; clear hA a
  rintro e w3 ⟨rfl, rfl⟩
  refine ⟨.pointer none, rfl, fun a hA => ?_⟩
  refine S.call hA (R.callF Try.func50 rfl rfl rfl) rfl (cas_nil _ _ _ _) ?_; clear hA a
  rintro e w4 ⟨rfl, rfl⟩
  refine ⟨.tuple #[.bool false, .int .i64 1], rfl, fun a hA => ?_⟩
  refine S.val hA (R.move rfl) rfl ?_; clear hA a; intro a hA
  refine S.val hA (R.extract (v := .bool false) rfl rfl) rfl ?_; clear hA a; intro a hA
  refine S.val hA (R.extract (v := .int .i64 1) rfl rfl) rfl ?_; clear hA a; intro a hA
  refine S.val hA (R.assign rfl) rfl ?_; clear hA a; intro a hA
  refine S.val hA (R.assign rfl) rfl ?_; clear hA a; intro a hA
  refine S.done ?_
  replace hA : St 231 [(0, _), (1, _), (4, _), (6, _), (8, _)] a := hA.sub ((.cons rfl (.cons rfl (.cons rfl (.cons rfl (.cons rfl .nil))))))
  refine Ends.seq ?_
  refine Ends.region ?_
  refine S.call hA (R.callF Try.func49 rfl rfl rfl) rfl (none16b _) ?_; clear hA a
  rintro e w5 ⟨rfl, rfl⟩
  refine ⟨.pointer none, rfl, fun a hA => ?_⟩
  refine S.call hA (R.callF Try.func51 rfl rfl rfl) rfl (bump_nil _ _ _) ?_; clear hA a
  rintro e w6 ⟨rfl, rfl⟩
  refine ⟨.tuple #[.int .i64 0, .int .i64 1], rfl, fun a hA => ?_⟩
  refine S.val hA (R.move rfl) rfl ?_; clear hA a; intro a hA
  refine S.val hA (R.extract (v := .int .i64 0) rfl rfl) rfl ?_; clear hA a; intro a hA
  refine S.val hA (R.extract (v := .int .i64 1) rfl rfl) rfl ?_; clear hA a; intro a hA
  refine S.val hA (R.assign rfl) rfl ?_; clear hA a; intro a hA
  refine S.val hA (R.assign rfl) rfl ?_; clear hA a; intro a hA
  refine S.done ?_
  replace hA : St 231 [(0, _), (1, _), (4, _), (6, _), (8, _), (10, _)] a := hA.sub ((.cons rfl (.cons rfl (.cons rfl (.cons rfl (.cons rfl (.cons rfl .nil)))))))
  refine Ends.seq ?_
  refine Ends.seq ?_
  refine Ends.region ?_
  refine S.call hA (R.callF Try.func42 rfl rfl rfl) rfl (cells16 _) ?_; clear hA a
  rintro e w7 ⟨rfl, hb⟩
  replace hM := hM.callB hb; clear hb
  refine ⟨.bool true, rfl, fun a hA => ?_⟩
  refine S.val hA (R.not rfl) rfl ?_; clear hA a; intro a hA
  refine S.val hA (R.move rfl) rfl ?_; clear hA a; intro a hA
  refine S.valg (dj := 42) hA (by kernel_rfl) rfl (R.move rfl) rfl ?_; clear hA a; intro a hA
  refine S.valg (dj := 42) hA (by kernel_rfl) rfl (R.ff (R.neq rfl rfl) (by first | decide | simp | omega)) rfl ?_; clear hA a; intro a hA
  refine S.val hA (R.pickF rfl rfl) rfl ?_; clear hA a; intro a hA
  refine S.val hA (R.move rfl) rfl ?_; clear hA a; intro a hA
  refine S.valg (dj := 46) hA (by kernel_rfl) rfl (R.move rfl) rfl ?_; clear hA a; intro a hA
  refine S.valg (dj := 46) hA (by kernel_rfl) rfl (R.ff (R.neq rfl rfl) (by first | decide | simp | omega)) rfl ?_; clear hA a; intro a hA
  refine S.val hA (R.pickF rfl rfl) rfl ?_; clear hA a; intro a hA
  refine S.val hA (R.move rfl) rfl ?_; clear hA a; intro a hA
  refine S.valg (dj := 50) hA (by kernel_rfl) rfl (R.move rfl) rfl ?_; clear hA a; intro a hA
  refine S.valg (dj := 50) hA (by kernel_rfl) rfl (R.ff (R.neq rfl rfl) (by first | decide | simp | omega)) rfl ?_; clear hA a; intro a hA
  refine S.val hA (R.pickF rfl rfl) rfl ?_; clear hA a; intro a hA
  refine S.val hA (R.move rfl) rfl ?_; clear hA a; intro a hA
  refine S.callg (dj := 54) hA (by kernel_rfl) rfl (R.callF Try.func49 rfl rfl rfl) rfl (none16b _) ?_; clear hA a
  rintro e w8 ⟨rfl, rfl⟩
  refine ⟨.pointer none, rfl, fun a hA => ?_⟩
  refine S.callg (dj := 54) hA (by kernel_rfl) rfl (R.callF Try.func52 rfl rfl rfl) rfl (set_nil _ _ _) ?_; clear hA a
  rintro e w9 ⟨rfl, rfl⟩
  refine ⟨.int .i64 1, rfl, fun a hA => ?_⟩
  refine S.valg (dj := 54) hA (by kernel_rfl) rfl (R.ff (R.neq rfl rfl) (by first | decide | simp | omega)) rfl ?_; clear hA a; intro a hA
  refine S.val hA (R.pickF rfl rfl) rfl ?_; clear hA a; intro a hA
  refine S.val hA (R.move rfl) rfl ?_; clear hA a; intro a hA
  refine S.callg (dj := 59) hA (by kernel_rfl) rfl (R.callF Try.func49 rfl rfl rfl) rfl (none16b _) ?_; clear hA a
  rintro e w10 ⟨rfl, rfl⟩
  refine ⟨.pointer none, rfl, fun a hA => ?_⟩
  refine S.callg (dj := 59) hA (by kernel_rfl) rfl (R.callF Try.func46 rfl rfl rfl) rfl (size_nil _) ?_; clear hA a
  rintro e w11 ⟨rfl, rfl⟩
  refine ⟨.int .i64 0, rfl, fun a hA => ?_⟩
  refine S.valg (dj := 59) hA (by kernel_rfl) rfl (R.ff (R.neq rfl rfl) (by first | decide | simp | omega)) rfl ?_; clear hA a; intro a hA
  refine S.val hA (R.pickF rfl rfl) rfl ?_; clear hA a; intro a hA
  refine S.val hA (R.move rfl) rfl ?_; clear hA a; intro a hA
  refine S.callg (dj := 64) hA (by kernel_rfl) rfl (R.callF Try.func49 rfl rfl rfl) rfl (none16b _) ?_; clear hA a
  rintro e w12 ⟨rfl, rfl⟩
  refine ⟨.pointer none, rfl, fun a hA => ?_⟩
  refine S.callg (dj := 64) hA (by kernel_rfl) rfl (R.callF Try.func47 rfl rfl rfl) rfl (steps_nil _) ?_; clear hA a
  rintro e w13 ⟨rfl, rfl⟩
  refine ⟨.int .i64 0, rfl, fun a hA => ?_⟩
  refine S.valg (dj := 64) hA (by kernel_rfl) rfl (R.ff (R.neq rfl rfl) (by first | decide | simp | omega)) rfl ?_; clear hA a; intro a hA
  refine S.val hA (R.pickF rfl rfl) rfl ?_; clear hA a; intro a hA
  refine S.val hA (R.move rfl) rfl ?_; clear hA a; intro a hA
  refine S.callg (dj := 69) hA (by kernel_rfl) rfl (R.callF Try.func49 rfl rfl rfl) rfl (none16b _) ?_; clear hA a
  rintro e w14 ⟨rfl, rfl⟩
  refine ⟨.pointer none, rfl, fun a hA => ?_⟩
  refine S.callg (dj := 69) hA (by kernel_rfl) rfl (R.callF Try.func53 rfl rfl rfl) rfl (last_nil _) ?_; clear hA a
  rintro e w15 ⟨rfl, hb⟩
  replace hM := hM.callB hb; clear hb
  refine ⟨.agg #[.int .i64 0, .int .i64 0, .int .i64 0, .int .i64 0, .bool false], rfl, fun a hA => ?_⟩
  refine S.valg (dj := 69) hA (by kernel_rfl) rfl (R.build (cells := #[.int .i64 0, .int .i64 0, .int .i64 0, .int .i64 0, .bool false]) rfl (by kernel_rfl)) rfl ?_; clear hA a; intro a hA
  refine S.valg (dj := 69) hA (by kernel_rfl) rfl (R.to (v := .bool false) (R.neqS (b := true) Try.eqGuardType79 (fun w => eq_cop _ _ _ _ _ w) rfl rfl) rfl) rfl ?_; clear hA a; intro a hA
  refine S.val hA (R.pickF rfl rfl) rfl ?_; clear hA a; intro a hA
  refine S.val hA (R.move rfl) rfl ?_; clear hA a; intro a hA
  refine S.callg (dj := 75) hA (by kernel_rfl) rfl (R.callF Try.func49 rfl rfl rfl) rfl (none16b _) ?_; clear hA a
  rintro e w16 ⟨rfl, rfl⟩
  refine ⟨.pointer none, rfl, fun a hA => ?_⟩
  refine S.callg (dj := 75) hA (by kernel_rfl) rfl (R.callF Try.func54 rfl rfl rfl) rfl (all_nil _) ?_; clear hA a
  rintro e w17 ⟨rfl, rfl⟩
  refine ⟨.slice none 0 0, rfl, fun a hA => ?_⟩
  refine S.valg (dj := 75) hA (by kernel_rfl) rfl (R.lenS Try.underlying40 rfl rfl) rfl ?_; clear hA a; intro a hA
  refine S.valg (dj := 75) hA (by kernel_rfl) rfl (R.ff (R.neq rfl rfl) (by first | decide | simp | omega)) rfl ?_; clear hA a; intro a hA
  refine S.val hA (R.pickF rfl rfl) rfl ?_; clear hA a; intro a hA
  refine S.val hA (R.move rfl) rfl ?_; clear hA a; intro a hA
  refine S.callg (dj := 81) hA (by kernel_rfl) rfl (R.callF Try.func49 rfl rfl rfl) rfl (none16b _) ?_; clear hA a
  rintro e w18 ⟨rfl, rfl⟩
  refine ⟨.pointer none, rfl, fun a hA => ?_⟩
  refine S.callg (dj := 81) hA (by kernel_rfl) rfl (R.callF Try.func48 rfl rfl rfl) rfl (peek_nil _ _) ?_; clear hA a
  rintro e w19 ⟨rfl, rfl⟩
  refine ⟨.int .i64 0, rfl, fun a hA => ?_⟩
  refine S.valg (dj := 81) hA (by kernel_rfl) rfl (R.ff (R.neq rfl rfl) (by first | decide | simp | omega)) rfl ?_; clear hA a; intro a hA
  refine S.val hA (R.pickF rfl rfl) rfl ?_; clear hA a; intro a hA
  refine S.done ?_
  replace hA : St 231 [(0, _), (1, _), (4, _), (6, _), (85, _)] a := hA.sub ((.cons rfl (.cons rfl (.cons rfl (.cons rfl (.cons rfl .nil))))))
  refine Ends.condF hA rfl ?_
  refine Ends.skip ?_
  refine Ends.seq ?_
  refine Ends.region ?_
  refine S.val hA (R.move rfl) rfl ?_; clear hA a; intro a hA
  refine S.val hA (R.conv Try.underlying22 Try.underlying3 rfl) rfl ?_; clear hA a; intro a hA
  refine S.val hA (R.remI rfl rfl rfl ⟨u64_nn _, by decide⟩) rfl ?_; clear hA a; intro a hA
  obtain ⟨n1, hn2, en3⟩ := umod_ex n 20 (by decide)
  refine S.val hA (R.to (v := .int .i64 (n1 : Int)) (R.conv Try.underlying3 Try.underlying22 rfl) (congrArg (Value.int .i64) en3)) rfl ?_; clear hA a; intro a hA
  refine S.val hA (R.assign rfl) rfl ?_; clear hA a; intro a hA
  refine S.done ?_
  replace hA : St 231 [(0, _), (1, _), (4, _), (6, _)] a := hA.sub ((.cons rfl (.cons rfl (.cons rfl (.cons rfl .nil)))))
  refine Ends.seq ?_
  refine Ends.region ?_
  refine S.val hA (R.move rfl) rfl ?_; clear hA a; intro a hA
  refine S.call hA (R.callF Try.func44 rfl rfl rfl) rfl (new_ok ((n1 : Int)) (by omega) (by omega) _) ?_; clear hA a
  rintro e w20 ⟨m4, c5, rfl, hm4c5, hn⟩
  replace hM : Mem _ _ [memO m4 c5 ((List.replicate ((n1 : Int)).toNat 0)) 0 ⟨0, 0, 0, 0, false⟩] _ := hM.call hn; clear hn
  refine ⟨.tuple #[.pointer (some ⟨m4, 0, none⟩), .int .i64 0], rfl, fun a hA => ?_⟩
  refine S.val hA (R.move rfl) rfl ?_; clear hA a; intro a hA
  refine S.val hA (R.extract (v := .pointer (some ⟨m4, 0, none⟩)) rfl rfl) rfl ?_; clear hA a; intro a hA
  refine S.val hA (R.extract (v := .int .i64 0) rfl rfl) rfl ?_; clear hA a; intro a hA
  refine S.val hA (R.assign rfl) rfl ?_; clear hA a; intro a hA
  refine S.val hA (R.assign rfl) rfl ?_; clear hA a; intro a hA
  refine S.done ?_
  replace hA : St 231 [(0, _), (1, _), (4, _), (6, _), (11, _)] a := hA.sub ((.cons rfl (.cons rfl (.cons rfl (.cons rfl (.cons rfl .nil))))))
  refine Ends.seq ?_
  refine Ends.region ?_
  refine S.val hA (R.move rfl) rfl ?_; clear hA a; intro a hA
  refine S.make hA hM Try.underlying40 info3 rfl rfl rfl (by omega) (by show (8 : Int) * _ ≤ _; omega) (by omega) rfl ?_; clear hA hM a; intro b6 w21 hb7 hM a hA
  replace hM : Mem _ _ [pt b6 (madeCells #[.int .i64 0] (n1 * 1)) 3, memO m4 c5 ((List.replicate ((n1 : Int)).toNat 0)) 0 ⟨0, 0, 0, 0, false⟩] _ := hM
  rw [Nat.mul_one, made_ints] at hM
  replace hM : Mem _ _ [pt b6 ((ints (List.replicate n1 0))) 3, memO m4 c5 ((List.replicate ((n1 : Int)).toNat 0)) 0 ⟨0, 0, 0, 0, false⟩] _ := hM
  refine S.val hA (R.build (cells := #[.slice (some ⟨b6, 0, none⟩) n1 n1, .int .i64 0, .int .i64 0, .int .i64 0, .int .i64 0, .int .i64 0, .bool false]) rfl (by kernel_rfl)) rfl ?_; clear hA a; intro a hA
  refine S.box hA hM rfl rfl ?_; clear hA hM a; intro b8 w22 hb9 hM a hA
  replace hM : Mem _ _ [pt b8 #[.slice (some ⟨b6, 0, none⟩) n1 n1, .int .i64 0, .int .i64 0, .int .i64 0, .int .i64 0, .int .i64 0, .bool false] 85, pt b6 ((ints (List.replicate n1 0))) 3, memO m4 c5 ((List.replicate ((n1 : Int)).toNat 0)) 0 ⟨0, 0, 0, 0, false⟩] _ := hM
  refine S.val hA (R.assign rfl) rfl ?_; clear hA a; intro a hA
  refine S.done ?_
  have hb8b6 := hM.ne2
  replace hM : Mem _ _ [refO b8 b6 ((List.replicate n1 0)) 0 ⟨0, 0, 0, 0, false⟩, memO m4 c5 ((List.replicate ((n1 : Int)).toNat 0)) 0 ⟨0, 0, 0, 0, false⟩] _ := hM.toR (by simp)
  replace hA : St 231 [(0, _), (1, _), (4, _), (6, _), (11, _), (12, _)] a := hA.sub ((.cons rfl (.cons rfl (.cons rfl (.cons rfl (.cons rfl (.cons rfl .nil)))))))
  refine Ends.seq ?_
  refine Ends.seq ?_
  refine Ends.region ?_
  refine S.val hA (R.move rfl) rfl ?_; clear hA a; intro a hA
  refine S.val hA (R.ff (R.neq rfl rfl) (by first | decide | simp | omega)) rfl ?_; clear hA a; intro a hA
  refine S.val hA (R.move rfl) rfl ?_; clear hA a; intro a hA
  refine S.valg (dj := 101) hA (by kernel_rfl) rfl (R.move rfl) rfl ?_; clear hA a; intro a hA
  refine S.callg (dj := 101) hA (by kernel_rfl) rfl (R.callF Try.func46 rfl rfl rfl) rfl (size_ok m4 c5 ((List.replicate ((n1 : Int)).toNat 0)) 0 ⟨0, 0, 0, 0, false⟩ hm4c5 _ (hM.mem (k := 1) rfl)) ?_; clear hA a
  rintro e w23 ⟨rfl, rfl⟩
  refine ⟨.int .i64 ((((List.replicate ((n1 : Int)).toNat 0)).length : Int)), rfl, fun a hA => ?_⟩
  refine S.valg (dj := 101) hA (by kernel_rfl) rfl (R.move rfl) rfl ?_; clear hA a; intro a hA
  refine S.valg (dj := 101) hA (by kernel_rfl) rfl (R.ff (R.neq rfl rfl) (by simp)) rfl ?_; clear hA a; intro a hA
  refine S.val hA (R.pickF rfl rfl) rfl ?_; clear hA a; intro a hA
  refine S.done ?_
  replace hA : St 231 [(0, _), (1, _), (4, _), (11, _), (12, _), (106, _)] a := hA.sub ((.cons rfl (.cons rfl (.cons rfl (.cons rfl (.cons rfl (.cons rfl .nil)))))))
  refine Ends.condF hA rfl ?_
  refine Ends.skip ?_
  refine Ends.seq ?_
  refine Ends.seq ?_
  refine Ends.region ?_
  refine S.val hA (R.assign rfl) rfl ?_; clear hA a; intro a hA
  refine S.done ?_
  replace hA : St 231 [(0, _), (1, _), (4, _), (11, _), (12, _), (13, _)] a := hA.sub ((.cons rfl (.cons rfl (.cons rfl (.cons rfl (.cons rfl (.cons rfl .nil)))))))
  refine Ends.block ?_
  refine Ends.loop (σ := Nat × List Int × Int × CellOp) (fun (i, l, s, o) (a : Act) (wv : World) => St 231 [(0, .int .i64 ((n1 : Int))), (1, .slice ad nr cap), (11, .pointer (some ⟨m4, 0, none⟩)), (12, .pointer (some ⟨b8, 0, none⟩)), (13, .int .i64 ((i : Int)))] a ∧ Mem w nof [refO b8 b6 l s o, memO m4 c5 l s o] wv ∧ (i ≤ 50) ∧ (AllI l) ∧ (l.length = n1) ∧ (0 ≤ s ∧ s ≤ i)) (fun (i, l, s, o) => 50 - i) ((0, (List.replicate n1 0), 0, ⟨0, 0, 0, 0, false⟩)) ⟨hA.sub ((.cons rfl (.cons rfl (.cons rfl (.cons rfl (.cons rfl .nil)))))), hM, (by omega), (by intro x hx; have := List.eq_of_mem_replicate hx; omega), (by simp), (by omega)⟩ ?_
  clear hA hM a
  rintro ⟨i, l, s, o⟩ a w24 ⟨hA, hM, hi50, hall, hlen, hs⟩ hNext
  refine Ends.seq ?_
  refine Ends.seq ?_
  refine Ends.cut (fun (a : Act) (wv : World) => St 231 [(0, .int .i64 ((n1 : Int))), (1, .slice ad nr cap), (11, .pointer (some ⟨m4, 0, none⟩)), (12, .pointer (some ⟨b8, 0, none⟩)), (13, .int .i64 ((i : Int))), (114, .bool (decide ((((i : Int)) < ((nr : Int)) ∧ ((i : Int)) < 50))))] a ∧ Mem w nof [refO b8 b6 l s o, memO m4 c5 l s o] wv) ?_ (fun k2 hJ => ?_)
  · clear hA hM a; rintro a w25 ⟨hA, hM⟩
    refine Ends.ite hA rfl (fun hc10 => ?_) (fun hc10 => ?_)
    ·
      refine Ends.skip ?_
      refine Ends.seq ?_
      refine Ends.block ?_
      refine Ends.seq ?_
      obtain ⟨g, off, x0, x1, x2, x3, hg, hx2, hx3, hcell⟩ := hrow.four hrall (i := i) (by omega)
      subst hg
      refine Ends.region ?_
      refine S.val hA (R.move rfl) rfl ?_; clear hA a; intro a hA
      refine S.val hA (R.move rfl) rfl ?_; clear hA a; intro a hA
      refine S.val hA (R.indexAddr (q := off + i * 4) sl72 rfl rfl (by omega) (by omega)) rfl ?_; clear hA a; intro a hA
      refine S.val hA (R.loadA sz87 rfl (fun j v hj => hM.cell0 (hcell j v hj) (fun h => h)) rfl) rfl ?_; clear hA a; intro a hA
      refine S.alloc hA hM info87 rfl rfl ?_; clear hA hM a; intro b11 w26 hb12 hM a hA
      replace hM : Mem _ _ [pt b11 #[.int .i64 0, .int .i64 0, .int .i64 0, .int .i64 0] 87, refO b8 b6 l s o, memO m4 c5 l s o] _ := hM
      refine S.storeA (k := 0) hA hM sz87 rfl rfl rfl rfl rfl rfl ?_; clear hM
      intro w27 hM
      replace hM : Mem _ _ [pt b11 #[.int .i64 x0, .int .i64 x1, .int .i64 x2, .int .i64 x3] 87, refO b8 b6 l s o, memO m4 c5 l s o] _ := hM
      refine S.done ?_
      replace hA : St 231 [(0, _), (1, _), (11, _), (12, _), (13, _), (14, _), (114, _), (117, _), (118, _), (119, _), (120, _)] a := hA.sub ((.cons rfl (.cons rfl (.cons rfl (.cons rfl (.cons rfl (.cons rfl (.cons rfl (.cons rfl (.cons rfl (.cons rfl (.cons rfl .nil))))))))))))
      refine Ends.seq ?_
      refine Ends.region ?_
      refine S.val hA (R.fieldAddr (q := 0) fi87_0 rfl rfl rfl) rfl ?_; clear hA a; intro a hA
      refine S.val hA (R.load sz3 rfl (hM.cell (k := 0) rfl rfl)) rfl ?_; clear hA a; intro a hA
      refine S.val hA (R.conv Try.underlying22 Try.underlying3 rfl) rfl ?_; clear hA a; intro a hA
      refine S.val hA (R.remI rfl rfl rfl ⟨u64_nn _, by decide⟩) rfl ?_; clear hA a; intro a hA
      obtain ⟨n13, hn14, en15⟩ := umod_ex x0 4 (by decide)
      refine S.val hA (R.to (v := .int .i64 (n13 : Int)) (R.conv Try.underlying3 Try.underlying22 rfl) (congrArg (Value.int .i64) en15)) rfl ?_; clear hA a; intro a hA
      refine S.val hA (R.addI rfl rfl (r := 1 + ((n13 : Int))) rfl (by omega)) rfl ?_; clear hA a; intro a hA
      refine S.val hA (R.assign rfl) rfl ?_; clear hA a; intro a hA
      refine S.done ?_
      replace hA : St 231 [(0, _), (1, _), (11, _), (12, _), (13, _), (14, _), (15, _), (114, _), (117, _), (118, _), (119, _), (120, _), (121, _), (122, _), (123, _), (124, _), (125, _), (126, _)] a := hA.sub ((.cons rfl (.cons rfl (.cons rfl (.cons rfl (.cons rfl (.cons rfl (.cons rfl (.cons rfl (.cons rfl (.cons rfl (.cons rfl (.cons rfl (.cons rfl (.cons rfl (.cons rfl (.cons rfl (.cons rfl (.cons rfl .nil)))))))))))))))))))
      refine Ends.seq ?_
      refine Ends.region ?_
      refine S.val hA (R.move rfl) rfl ?_; clear hA a; intro a hA
      refine S.val hA (R.loadA sz87 rfl (hM.range (k := 0) rfl) rfl) rfl ?_; clear hA a; intro a hA
      refine S.val hA (R.move rfl) rfl ?_; clear hA a; intro a hA
      refine S.call hA (R.callF Try.func55 rfl rfl rfl) rfl (do_any m4 c5 l s o hm4c5 hall (1 + ((n13 : Int))) x0 x1 x2 x3 (by omega) hx2 (by omega) _ (hM.mem (k := 2) rfl)) ?_; clear hA a
      rintro e w28 ⟨rfl, hn⟩
      replace hM : Mem _ _ [memO m4 c5 ((jobL l (1 + ((n13 : Int))) x1 x2 x3)) ((jobN l s (1 + ((n13 : Int))) x1 x2)) (jobO l o (1 + ((n13 : Int))) x1 x2 x3), pt b11 #[.int .i64 x0, .int .i64 x1, .int .i64 x2, .int .i64 x3] 87, refO b8 b6 l s o] _ := hM.callW (k := 2) rfl hn (fun _ h => h); clear hn
      refine ⟨.tuple #[.int .i64 ((jobV l (1 + ((n13 : Int))) x1 x2).1), .bool ((jobV l (1 + ((n13 : Int))) x1 x2).2.1), .int .i64 ((jobV l (1 + ((n13 : Int))) x1 x2).2.2)], rfl, fun a hA => ?_⟩
      refine S.val hA (R.move rfl) rfl ?_; clear hA a; intro a hA
      refine S.val hA (R.extract (v := .int .i64 ((jobV l (1 + ((n13 : Int))) x1 x2).1)) rfl rfl) rfl ?_; clear hA a; intro a hA
      refine S.val hA (R.extract (v := .bool ((jobV l (1 + ((n13 : Int))) x1 x2).2.1)) rfl rfl) rfl ?_; clear hA a; intro a hA
      refine S.val hA (R.extract (v := .int .i64 ((jobV l (1 + ((n13 : Int))) x1 x2).2.2)) rfl rfl) rfl ?_; clear hA a; intro a hA
      refine S.val hA (R.assign rfl) rfl ?_; clear hA a; intro a hA
      refine S.val hA (R.assign rfl) rfl ?_; clear hA a; intro a hA
      refine S.val hA (R.assign rfl) rfl ?_; clear hA a; intro a hA
      refine S.done ?_
      replace hA : St 231 [(0, _), (1, _), (11, _), (12, _), (13, _), (14, _), (15, _), (16, _), (17, _), (18, _), (114, _), (117, _), (118, _), (119, _), (120, _), (121, _), (122, _), (123, _), (124, _), (125, _), (126, _), (127, _), (128, _), (129, _), (130, _), (131, _), (132, _), (133, _), (134, _)] a := hA.sub ((.cons rfl (.cons rfl (.cons rfl (.cons rfl (.cons rfl (.cons rfl (.cons rfl (.cons rfl (.cons rfl (.cons rfl (.cons rfl (.cons rfl (.cons rfl (.cons rfl (.cons rfl (.cons rfl (.cons rfl (.cons rfl (.cons rfl (.cons rfl (.cons rfl (.cons rfl (.cons rfl (.cons rfl (.cons rfl (.cons rfl (.cons rfl (.cons rfl (.cons rfl .nil))))))))))))))))))))))))))))))
      refine Ends.seq ?_
      have hjn := jobN_bd l s (1 + ((n13 : Int))) x1 x2
      refine Ends.region ?_
      refine S.val hA (R.move rfl) rfl ?_; clear hA a; intro a hA
      refine S.val hA (R.move rfl) rfl ?_; clear hA a; intro a hA
      refine S.val hA (R.fieldAddr (q := 1) fi87_1 rfl rfl rfl) rfl ?_; clear hA a; intro a hA
      refine S.val hA (R.load sz3 rfl (hM.cell (k := 1) rfl rfl)) rfl ?_; clear hA a; intro a hA
      refine S.val hA (R.fieldAddr (q := 2) fi87_2 rfl rfl rfl) rfl ?_; clear hA a; intro a hA
      refine S.val hA (R.load sz3 rfl (hM.cell (k := 1) rfl rfl)) rfl ?_; clear hA a; intro a hA
      refine S.val hA (R.fieldAddr (q := 3) fi87_3 rfl rfl rfl) rfl ?_; clear hA a; intro a hA
      refine S.val hA (R.load sz3 rfl (hM.cell (k := 1) rfl rfl)) rfl ?_; clear hA a; intro a hA
      refine S.call hA (R.callF Try.func56 rfl rfl rfl) rfl (rdo_any b8 b6 l s o hb8b6 hall (1 + ((n13 : Int))) x1 x2 x3 (by omega) hx2 (by omega) _ (hM.mem (k := 2) rfl)) ?_; clear hA a
      rintro e w29 ⟨rfl, hn⟩
      replace hM : Mem _ _ [refO b8 b6 ((jobL l (1 + ((n13 : Int))) x1 x2 x3)) ((jobN l s (1 + ((n13 : Int))) x1 x2)) (jobO l o (1 + ((n13 : Int))) x1 x2 x3), memO m4 c5 ((jobL l (1 + ((n13 : Int))) x1 x2 x3)) ((jobN l s (1 + ((n13 : Int))) x1 x2)) (jobO l o (1 + ((n13 : Int))) x1 x2 x3), pt b11 #[.int .i64 x0, .int .i64 x1, .int .i64 x2, .int .i64 x3] 87] _ := hM.callW (k := 2) rfl hn (fun _ h => h); clear hn
      refine ⟨.tuple #[.int .i64 ((jobV l (1 + ((n13 : Int))) x1 x2).1), .bool ((jobV l (1 + ((n13 : Int))) x1 x2).2.1), .int .i64 ((jobV l (1 + ((n13 : Int))) x1 x2).2.2)], rfl, fun a hA => ?_⟩
      refine S.val hA (R.move rfl) rfl ?_; clear hA a; intro a hA
      refine S.val hA (R.extract (v := .int .i64 ((jobV l (1 + ((n13 : Int))) x1 x2).1)) rfl rfl) rfl ?_; clear hA a; intro a hA
      refine S.val hA (R.extract (v := .bool ((jobV l (1 + ((n13 : Int))) x1 x2).2.1)) rfl rfl) rfl ?_; clear hA a; intro a hA
      refine S.val hA (R.extract (v := .int .i64 ((jobV l (1 + ((n13 : Int))) x1 x2).2.2)) rfl rfl) rfl ?_; clear hA a; intro a hA
      refine S.val hA (R.assign rfl) rfl ?_; clear hA a; intro a hA
      refine S.val hA (R.assign rfl) rfl ?_; clear hA a; intro a hA
      refine S.val hA (R.assign rfl) rfl ?_; clear hA a; intro a hA
      refine S.done ?_
      replace hA : St 231 [(0, _), (1, _), (11, _), (12, _), (13, _), (14, _), (15, _), (16, _), (17, _), (18, _), (19, _), (20, _), (21, _), (114, _), (117, _), (118, _), (119, _), (120, _), (121, _), (122, _), (123, _), (124, _), (125, _), (126, _), (127, _), (128, _), (129, _), (130, _), (131, _), (132, _), (133, _), (134, _), (135, _), (136, _), (137, _), (138, _), (139, _), (140, _), (141, _), (142, _), (143, _), (144, _), (145, _), (146, _), (147, _)] a := hA.sub ((.cons rfl (.cons rfl (.cons rfl (.cons rfl (.cons rfl (.cons rfl (.cons rfl (.cons rfl (.cons rfl (.cons rfl (.cons rfl (.cons rfl (.cons rfl (.cons rfl (.cons rfl (.cons rfl (.cons rfl (.cons rfl (.cons rfl (.cons rfl (.cons rfl (.cons rfl (.cons rfl (.cons rfl (.cons rfl (.cons rfl (.cons rfl (.cons rfl (.cons rfl (.cons rfl (.cons rfl (.cons rfl (.cons rfl (.cons rfl (.cons rfl (.cons rfl (.cons rfl (.cons rfl (.cons rfl (.cons rfl (.cons rfl (.cons rfl (.cons rfl (.cons rfl (.cons rfl .nil))))))))))))))))))))))))))))))))))))))))))))))
      refine Ends.seq ?_
      refine Ends.region ?_
      refine S.val hA (R.move rfl) rfl ?_; clear hA a; intro a hA
      refine S.call hA (R.callF Try.func53 rfl rfl rfl) rfl (last16_ok m4 c5 ((jobL l (1 + ((n13 : Int))) x1 x2 x3)) ((jobN l s (1 + ((n13 : Int))) x1 x2)) (jobO l o (1 + ((n13 : Int))) x1 x2 x3) hm4c5 _ (hM.mem (k := 1) rfl)) ?_; clear hA a
      rintro e w30 ⟨rfl, hn⟩
      replace hM : Mem _ _ [memO m4 c5 ((jobL l (1 + ((n13 : Int))) x1 x2 x3)) ((jobN l s (1 + ((n13 : Int))) x1 x2)) (jobO l o (1 + ((n13 : Int))) x1 x2 x3), refO b8 b6 ((jobL l (1 + ((n13 : Int))) x1 x2 x3)) ((jobN l s (1 + ((n13 : Int))) x1 x2)) (jobO l o (1 + ((n13 : Int))) x1 x2 x3), pt b11 #[.int .i64 x0, .int .i64 x1, .int .i64 x2, .int .i64 x3] 87] _ := hM.callW (k := 1) rfl hn (fun _ h => h); clear hn
      refine ⟨.agg #[.int .i64 (((jobO l o (1 + ((n13 : Int))) x1 x2 x3)).kind), .int .i64 (((jobO l o (1 + ((n13 : Int))) x1 x2 x3)).cell), .int .i64 (((jobO l o (1 + ((n13 : Int))) x1 x2 x3)).old), .int .i64 (((jobO l o (1 + ((n13 : Int))) x1 x2 x3)).new), .bool (((jobO l o (1 + ((n13 : Int))) x1 x2 x3)).done)], rfl, fun a hA => ?_⟩
      refine S.alloc hA hM info79 rfl rfl ?_; clear hA hM a; intro b16 w31 hb17 hM a hA
      replace hM : Mem _ _ [pt b16 #[.int .i64 0, .int .i64 0, .int .i64 0, .int .i64 0, .bool false] 79, memO m4 c5 ((jobL l (1 + ((n13 : Int))) x1 x2 x3)) ((jobN l s (1 + ((n13 : Int))) x1 x2)) (jobO l o (1 + ((n13 : Int))) x1 x2 x3), refO b8 b6 ((jobL l (1 + ((n13 : Int))) x1 x2 x3)) ((jobN l s (1 + ((n13 : Int))) x1 x2)) (jobO l o (1 + ((n13 : Int))) x1 x2 x3), pt b11 #[.int .i64 x0, .int .i64 x1, .int .i64 x2, .int .i64 x3] 87] _ := hM
      refine S.storeA (k := 0) hA hM sz79 rfl rfl rfl rfl rfl rfl ?_; clear hM
      intro w32 hM
      replace hM : Mem _ _ [pt b16 #[.int .i64 (((jobO l o (1 + ((n13 : Int))) x1 x2 x3)).kind), .int .i64 (((jobO l o (1 + ((n13 : Int))) x1 x2 x3)).cell), .int .i64 (((jobO l o (1 + ((n13 : Int))) x1 x2 x3)).old), .int .i64 (((jobO l o (1 + ((n13 : Int))) x1 x2 x3)).new), .bool (((jobO l o (1 + ((n13 : Int))) x1 x2 x3)).done)] 79, memO m4 c5 ((jobL l (1 + ((n13 : Int))) x1 x2 x3)) ((jobN l s (1 + ((n13 : Int))) x1 x2)) (jobO l o (1 + ((n13 : Int))) x1 x2 x3), refO b8 b6 ((jobL l (1 + ((n13 : Int))) x1 x2 x3)) ((jobN l s (1 + ((n13 : Int))) x1 x2)) (jobO l o (1 + ((n13 : Int))) x1 x2 x3), pt b11 #[.int .i64 x0, .int .i64 x1, .int .i64 x2, .int .i64 x3] 87] _ := hM
      refine S.done ?_
      replace hA : St 231 [(0, _), (1, _), (11, _), (12, _), (13, _), (14, _), (15, _), (16, _), (17, _), (18, _), (19, _), (20, _), (21, _), (22, _), (114, _), (117, _), (118, _), (119, _), (120, _), (121, _), (122, _), (123, _), (124, _), (125, _), (126, _), (127, _), (128, _), (129, _), (130, _), (131, _), (132, _), (133, _), (134, _), (135, _), (136, _), (137, _), (138, _), (139, _), (140, _), (141, _), (142, _), (143, _), (144, _), (145, _), (146, _), (147, _), (148, _), (149, _)] a := hA.sub ((.cons rfl (.cons rfl (.cons rfl (.cons rfl (.cons rfl (.cons rfl (.cons rfl (.cons rfl (.cons rfl (.cons rfl (.cons rfl (.cons rfl (.cons rfl (.cons rfl (.cons rfl (.cons rfl (.cons rfl (.cons rfl (.cons rfl (.cons rfl (.cons rfl (.cons rfl (.cons rfl (.cons rfl (.cons rfl (.cons rfl (.cons rfl (.cons rfl (.cons rfl (.cons rfl (.cons rfl (.cons rfl (.cons rfl (.cons rfl (.cons rfl (.cons rfl (.cons rfl (.cons rfl (.cons rfl (.cons rfl (.cons rfl (.cons rfl (.cons rfl (.cons rfl (.cons rfl (.cons rfl (.cons rfl (.cons rfl .nil)))))))))))))))))))))))))))))))))))))))))))))))))
      refine Ends.seq ?_
      refine Ends.seq ?_
      refine Ends.drawn (Mem w nof [pt b16 #[.int .i64 (((jobO l o (1 + ((n13 : Int))) x1 x2 x3)).kind), .int .i64 (((jobO l o (1 + ((n13 : Int))) x1 x2 x3)).cell), .int .i64 (((jobO l o (1 + ((n13 : Int))) x1 x2 x3)).old), .int .i64 (((jobO l o (1 + ((n13 : Int))) x1 x2 x3)).new), .bool (((jobO l o (1 + ((n13 : Int))) x1 x2 x3)).done)] 79, memO m4 c5 ((jobL l (1 + ((n13 : Int))) x1 x2 x3)) ((jobN l s (1 + ((n13 : Int))) x1 x2)) (jobO l o (1 + ((n13 : Int))) x1 x2 x3), refO b8 b6 ((jobL l (1 + ((n13 : Int))) x1 x2 x3)) ((jobN l s (1 + ((n13 : Int))) x1 x2)) (jobO l o (1 + ((n13 : Int))) x1 x2 x3), pt b11 #[.int .i64 x0, .int .i64 x1, .int .i64 x2, .int .i64 x3] 87]) [(0, true), (1, true), (2, true), (3, true), (4, true), (5, true), (6, true), (7, true), (8, true), (9, true), (10, true), (11, true), (12, true), (13, true), (14, true), (16, true), (17, true), (18, true), (19, true), (15, false), (20, true), (21, true), (22, true), (23, true), (24, true), (25, true), (26, true), (27, true), (28, true), (29, true), (30, true), (31, true), (32, true), (33, true), (34, true), (35, true), (36, true), (37, true), (38, true), (39, true)] 40 mixed (by kernel_rfl) (by kernel_rfl) (by kernel_rfl) hM.drew ?_
      replace hM := hM.drew
      refine D.valF hA rfl (fun _ => R.move rfl) rfl ?_; clear hA a; intro a hA
      refine D.valF hA rfl (fun _ => R.move rfl) rfl ?_; clear hA a; intro a hA
      refine D.valF hA rfl (fun _ => R.ff (R.neq rfl rfl) (by first | decide | simp | omega)) rfl ?_; clear hA a; intro a hA
      refine D.valF hA rfl (fun _ => R.move rfl) rfl ?_; clear hA a; intro a hA
      refine D.valgF (dj := 153) hA rfl (by kernel_rfl) rfl (fun _ => R.move rfl) rfl ?_; clear hA a; intro a hA
      refine D.valgF (dj := 153) hA rfl (by kernel_rfl) rfl (fun _ => R.move rfl) rfl ?_; clear hA a; intro a hA
      refine D.valgF (dj := 153) hA rfl (by kernel_rfl) rfl (fun _ => R.to (v := .bool false) (R.neqB Try.underlying4 rfl rfl) (congrArg Value.bool (by simp))) rfl ?_; clear hA a; intro a hA
      refine D.valF hA rfl (fun _ => R.pickF rfl rfl) rfl ?_; clear hA a; intro a hA
      refine D.valF hA rfl (fun _ => R.move rfl) rfl ?_; clear hA a; intro a hA
      refine D.valgF (dj := 158) hA rfl (by kernel_rfl) rfl (fun _ => R.move rfl) rfl ?_; clear hA a; intro a hA
      refine D.valgF (dj := 158) hA rfl (by kernel_rfl) rfl (fun _ => R.move rfl) rfl ?_; clear hA a; intro a hA
      refine D.valgF (dj := 158) hA rfl (by kernel_rfl) rfl (fun _ => R.ff (R.neq rfl rfl) (by first | decide | simp | omega)) rfl ?_; clear hA a; intro a hA
      refine D.valF hA rfl (fun _ => R.pickF rfl rfl) rfl ?_; clear hA a; intro a hA
      refine D.valF hA rfl (fun _ => R.move rfl) rfl ?_; clear hA a; intro a hA
      refine D.valgF (dj := 163) hA rfl (by kernel_rfl) rfl (fun _ => R.move rfl) rfl ?_; clear hA a; intro a hA
      refine D.valgF (dj := 163) hA rfl (by kernel_rfl) rfl (fun _ => R.move rfl) rfl ?_; clear hA a; intro a hA
      refine D.valgF (dj := 163) hA rfl (by kernel_rfl) rfl (fun _ => R.nilCheck rfl) rfl ?_; clear hA a; intro a hA
      refine D.valgF (dj := 163) hA rfl (by kernel_rfl) rfl (fun _ => R.fieldAddr (q := 1) fi85_1 rfl rfl rfl) rfl ?_; clear hA a; intro a hA
      refine D.valg (dj := 163) hA rfl (by kernel_rfl) (by kernel_rfl) rfl (fun _ hM => R.load sz3 rfl ((refO.open (hM.mem (k := 2) rfl) hb8b6).cell (k := 0) rfl rfl)) rfl ?_; clear hA a; intro a hA
      refine D.callg (dj := 163) hA rfl (by kernel_rfl) rfl (R.callF Try.func47 rfl rfl rfl) rfl (steps_ok m4 c5 ((jobL l (1 + ((n13 : Int))) x1 x2 x3)) ((jobN l s (1 + ((n13 : Int))) x1 x2)) (jobO l o (1 + ((n13 : Int))) x1 x2 x3) hm4c5 _ (hM.mem (k := 1) rfl)) ?_; clear hA a
      rintro e w33 ⟨rfl, rfl⟩
      refine ⟨.int .i64 ((jobN l s (1 + ((n13 : Int))) x1 x2)), rfl, hM, fun a hA => ?_⟩
      refine D.valgF (dj := 163) hA rfl (by kernel_rfl) rfl (fun _ => R.ff (R.neq rfl rfl) (by first | decide | simp | omega)) rfl ?_; clear hA a; intro a hA
      refine D.valF hA rfl (fun _ => R.pickF rfl rfl) rfl ?_; clear hA a; intro a hA
      refine D.valF hA rfl (fun _ => R.move rfl) rfl ?_; clear hA a; intro a hA
      refine D.valgF (dj := 172) hA rfl (by kernel_rfl) rfl (fun _ => R.fieldAddr (q := 0) fi79_0 rfl rfl rfl) rfl ?_; clear hA a; intro a hA
      refine D.valg (dj := 172) hA rfl (by kernel_rfl) (by kernel_rfl) rfl (fun _ hM => R.load sz3 rfl (hM.cell (k := 0) rfl rfl)) rfl ?_; clear hA a; intro a hA
      refine D.valgF (dj := 172) hA rfl (by kernel_rfl) rfl (fun _ => R.fieldAddr (q := 1) fi79_1 rfl rfl rfl) rfl ?_; clear hA a; intro a hA
      refine D.valg (dj := 172) hA rfl (by kernel_rfl) (by kernel_rfl) rfl (fun _ hM => R.load sz3 rfl (hM.cell (k := 0) rfl rfl)) rfl ?_; clear hA a; intro a hA
      refine D.valgF (dj := 172) hA rfl (by kernel_rfl) rfl (fun _ => R.fieldAddr (q := 2) fi79_2 rfl rfl rfl) rfl ?_; clear hA a; intro a hA
      refine D.valg (dj := 172) hA rfl (by kernel_rfl) (by kernel_rfl) rfl (fun _ hM => R.load sz3 rfl (hM.cell (k := 0) rfl rfl)) rfl ?_; clear hA a; intro a hA
      refine D.valgF (dj := 172) hA rfl (by kernel_rfl) rfl (fun _ => R.fieldAddr (q := 3) fi79_3 rfl rfl rfl) rfl ?_; clear hA a; intro a hA
      refine D.valg (dj := 172) hA rfl (by kernel_rfl) (by kernel_rfl) rfl (fun _ hM => R.load sz3 rfl (hM.cell (k := 0) rfl rfl)) rfl ?_; clear hA a; intro a hA
      refine D.valgF (dj := 172) hA rfl (by kernel_rfl) rfl (fun _ => R.fieldAddr (q := 4) fi79_4 rfl rfl rfl) rfl ?_; clear hA a; intro a hA
      refine D.valg (dj := 172) hA rfl (by kernel_rfl) (by kernel_rfl) rfl (fun _ hM => R.load sz4 rfl (hM.cell (k := 0) rfl rfl)) rfl ?_; clear hA a; intro a hA
      refine D.valgF (dj := 172) hA rfl (by kernel_rfl) rfl (fun _ => R.build (cells := #[.int .i64 (((jobO l o (1 + ((n13 : Int))) x1 x2 x3)).kind), .int .i64 (((jobO l o (1 + ((n13 : Int))) x1 x2 x3)).cell), .int .i64 (((jobO l o (1 + ((n13 : Int))) x1 x2 x3)).old), .int .i64 (((jobO l o (1 + ((n13 : Int))) x1 x2 x3)).new), .bool (((jobO l o (1 + ((n13 : Int))) x1 x2 x3)).done)]) rfl (by kernel_rfl)) rfl ?_; clear hA a; intro a hA
      refine D.valgF (dj := 172) hA rfl (by kernel_rfl) rfl (fun _ => R.move rfl) rfl ?_; clear hA a; intro a hA
      refine D.valgF (dj := 172) hA rfl (by kernel_rfl) rfl (fun _ => R.nilCheck rfl) rfl ?_; clear hA a; intro a hA
      refine D.valgF (dj := 172) hA rfl (by kernel_rfl) rfl (fun _ => R.fieldAddr (q := 2) fi85_2 rfl rfl rfl) rfl ?_; clear hA a; intro a hA
      refine D.valg (dj := 172) hA rfl (by kernel_rfl) (by kernel_rfl) rfl (fun _ hM => R.loadA sz83 rfl ((refO.open (hM.mem (k := 2) rfl) hb8b6).part (cs := (memA b6 ((jobL l (1 + ((n13 : Int))) x1 x2 x3)) ((jobN l s (1 + ((n13 : Int))) x1 x2)) (jobO l o (1 + ((n13 : Int))) x1 x2 x3)).toList) (k := 0) rfl 2 5 rfl) rfl) rfl ?_; clear hA a; intro a hA
      refine D.valgF (dj := 172) hA rfl (by kernel_rfl) rfl (fun _ => R.to (v := .bool false) (R.neqS (b := true) Try.eqGuardType83 (fun w => eq_rop _ _ _ _ _ w) rfl rfl) rfl) rfl ?_; clear hA a; intro a hA
      refine D.valF hA rfl (fun _ => R.pickF rfl rfl) rfl ?_; clear hA a; intro a hA
      refine D.done ?_
      replace hA : St 231 [(0, _), (1, _), (11, _), (12, _), (13, _), (14, _), (15, _), (16, _), (17, _), (18, _), (19, _), (20, _), (21, _), (22, _), (114, _), (117, _), (118, _), (119, _), (120, _), (121, _), (122, _), (123, _), (124, _), (125, _), (126, _), (127, _), (128, _), (129, _), (130, _), (131, _), (132, _), (133, _), (134, _), (135, _), (136, _), (137, _), (138, _), (139, _), (140, _), (141, _), (142, _), (143, _), (144, _), (145, _), (146, _), (147, _), (148, _), (149, _), (150, _), (151, _), (152, _), (153, _), (154, _), (155, _), (156, _), (157, _), (158, _), (159, _), (160, _), (161, _), (162, _), (163, _), (164, _), (165, _), (166, _), (167, _), (168, _), (169, _), (170, _), (171, _), (172, _), (173, _), (174, _), (175, _), (176, _), (177, _), (178, _), (179, _), (180, _), (181, _), (182, _), (183, _), (184, _), (185, _), (186, _), (187, _), (188, _), (189, _)] a := hA.sub ((.cons rfl (.cons rfl (.cons rfl (.cons rfl (.cons rfl (.cons rfl (.cons rfl (.cons rfl (.cons rfl (.cons rfl (.cons rfl (.cons rfl (.cons rfl (.cons rfl (.cons rfl (.cons rfl (.cons rfl (.cons rfl (.cons rfl (.cons rfl (.cons rfl (.cons rfl (.cons rfl (.cons rfl (.cons rfl (.cons rfl (.cons rfl (.cons rfl (.cons rfl (.cons rfl (.cons rfl (.cons rfl (.cons rfl (.cons rfl (.cons rfl (.cons rfl (.cons rfl (.cons rfl (.cons rfl (.cons rfl (.cons rfl (.cons rfl (.cons rfl (.cons rfl (.cons rfl (.cons rfl (.cons rfl (.cons rfl (.cons rfl (.cons rfl (.cons rfl (.cons rfl (.cons rfl (.cons rfl (.cons rfl (.cons rfl (.cons rfl (.cons rfl (.cons rfl (.cons rfl (.cons rfl (.cons rfl (.cons rfl (.cons rfl (.cons rfl (.cons rfl (.cons rfl (.cons rfl (.cons rfl (.cons rfl (.cons rfl (.cons rfl (.cons rfl (.cons rfl (.cons rfl (.cons rfl (.cons rfl (.cons rfl (.cons rfl (.cons rfl (.cons rfl (.cons rfl (.cons rfl (.cons rfl (.cons rfl (.cons rfl (.cons rfl (.cons rfl .nil)))))))))))))))))))))))))))))))))))))))))))))))))))))))))))))))))))))))))))))))))))))))))
      refine Ends.condF hA rfl ?_
      refine Ends.skip ?_
      refine Ends.seq ?_
      refine Ends.region ?_
      refine S.val hA (R.move rfl) rfl ?_; clear hA a; intro a hA
      refine S.call hA (R.callF Try.func54 rfl rfl rfl) rfl (all_ok m4 c5 ((jobL l (1 + ((n13 : Int))) x1 x2 x3)) ((jobN l s (1 + ((n13 : Int))) x1 x2)) (jobO l o (1 + ((n13 : Int))) x1 x2 x3) hm4c5 (by rw [jobL_len]; omega) _ (hM.mem (k := 1) rfl)) ?_; clear hA a
      rintro e w34 ⟨a18, c19, rfl, hn⟩
      replace hM : Mem _ _ [memO m4 c5 ((jobL l (1 + ((n13 : Int))) x1 x2 x3)) ((jobN l s (1 + ((n13 : Int))) x1 x2)) (jobO l o (1 + ((n13 : Int))) x1 x2 x3), own 3 1 (.slice a18 (((jobL l (1 + ((n13 : Int))) x1 x2 x3)).length) c19) (((jobL l (1 + ((n13 : Int))) x1 x2 x3)).length) (((jobL l (1 + ((n13 : Int))) x1 x2 x3)).map (Value.int .i64)), pt b16 #[.int .i64 (((jobO l o (1 + ((n13 : Int))) x1 x2 x3)).kind), .int .i64 (((jobO l o (1 + ((n13 : Int))) x1 x2 x3)).cell), .int .i64 (((jobO l o (1 + ((n13 : Int))) x1 x2 x3)).old), .int .i64 (((jobO l o (1 + ((n13 : Int))) x1 x2 x3)).new), .bool (((jobO l o (1 + ((n13 : Int))) x1 x2 x3)).done)] 79, refO b8 b6 ((jobL l (1 + ((n13 : Int))) x1 x2 x3)) ((jobN l s (1 + ((n13 : Int))) x1 x2)) (jobO l o (1 + ((n13 : Int))) x1 x2 x3), pt b11 #[.int .i64 x0, .int .i64 x1, .int .i64 x2, .int .i64 x3] 87] _ := hM.callW (k := 1) rfl hn (fun _ h => h); clear hn
      refine ⟨.slice a18 (((jobL l (1 + ((n13 : Int))) x1 x2 x3)).length) c19, rfl, fun a hA => ?_⟩
      refine S.val hA (R.assign rfl) rfl ?_; clear hA a; intro a hA
      refine S.done ?_
      replace hA : St 231 [(0, _), (1, _), (11, _), (12, _), (13, _), (14, _), (15, _), (16, _), (17, _), (18, _), (19, _), (20, _), (21, _), (22, _), (23, _), (114, _), (117, _), (118, _), (119, _), (120, _), (121, _), (122, _), (123, _), (124, _), (125, _), (126, _), (127, _), (128, _), (129, _), (130, _), (131, _), (132, _), (133, _), (134, _), (135, _), (136, _), (137, _), (138, _), (139, _), (140, _), (141, _), (142, _), (143, _), (144, _), (145, _), (146, _), (147, _), (148, _), (149, _), (150, _), (151, _), (152, _), (153, _), (154, _), (155, _), (156, _), (157, _), (158, _), (159, _), (160, _), (161, _), (162, _), (163, _), (164, _), (165, _), (166, _), (167, _), (168, _), (169, _), (170, _), (171, _), (172, _), (173, _), (174, _), (175, _), (176, _), (177, _), (178, _), (179, _), (180, _), (181, _), (182, _), (183, _), (184, _), (185, _), (186, _), (187, _), (188, _), (189, _), (190, _), (191, _)] a := hA.sub ((.cons rfl (.cons rfl (.cons rfl (.cons rfl (.cons rfl (.cons rfl (.cons rfl (.cons rfl (.cons rfl (.cons rfl (.cons rfl (.cons rfl (.cons rfl (.cons rfl (.cons rfl (.cons rfl (.cons rfl (.cons rfl (.cons rfl (.cons rfl (.cons rfl (.cons rfl (.cons rfl (.cons rfl (.cons rfl (.cons rfl (.cons rfl (.cons rfl (.cons rfl (.cons rfl (.cons rfl (.cons rfl (.cons rfl (.cons rfl (.cons rfl (.cons rfl (.cons rfl (.cons rfl (.cons rfl (.cons rfl (.cons rfl (.cons rfl (.cons rfl (.cons rfl (.cons rfl (.cons rfl (.cons rfl (.cons rfl (.cons rfl (.cons rfl (.cons rfl (.cons rfl (.cons rfl (.cons rfl (.cons rfl (.cons rfl (.cons rfl (.cons rfl (.cons rfl (.cons rfl (.cons rfl (.cons rfl (.cons rfl (.cons rfl (.cons rfl (.cons rfl (.cons rfl (.cons rfl (.cons rfl (.cons rfl (.cons rfl (.cons rfl (.cons rfl (.cons rfl (.cons rfl (.cons rfl (.cons rfl (.cons rfl (.cons rfl (.cons rfl (.cons rfl (.cons rfl (.cons rfl (.cons rfl (.cons rfl (.cons rfl (.cons rfl (.cons rfl (.cons rfl (.cons rfl (.cons rfl .nil))))))))))))))))))))))))))))))))))))))))))))))))))))))))))))))))))))))))))))))))))))))))))))
      refine Ends.seq ?_
      refine Ends.seq ?_
      have hL : ((jobL l (1 + ((n13 : Int))) x1 x2 x3)).length = n1 := by rw [jobL_len]; exact hlen
      refine Ends.region ?_
      refine S.val hA (R.move rfl) rfl ?_; clear hA a; intro a hA
      refine S.val hA (R.lenS Try.underlying40 rfl rfl) rfl ?_; clear hA a; intro a hA
      refine S.val hA (R.move rfl) rfl ?_; clear hA a; intro a hA
      refine S.val hA (R.ff (R.neq rfl rfl) (by omega)) rfl ?_; clear hA a; intro a hA
      refine S.done ?_
      replace hA : St 231 [(0, _), (1, _), (11, _), (12, _), (13, _), (14, _), (15, _), (16, _), (17, _), (18, _), (19, _), (20, _), (21, _), (22, _), (23, _), (114, _), (117, _), (118, _), (119, _), (120, _), (121, _), (122, _), (123, _), (124, _), (125, _), (126, _), (127, _), (128, _), (129, _), (130, _), (131, _), (132, _), (133, _), (134, _), (135, _), (136, _), (137, _), (138, _), (139, _), (140, _), (141, _), (142, _), (143, _), (144, _), (145, _), (146, _), (147, _), (148, _), (149, _), (150, _), (151, _), (152, _), (153, _), (154, _), (155, _), (156, _), (157, _), (158, _), (159, _), (160, _), (161, _), (162, _), (163, _), (164, _), (165, _), (166, _), (167, _), (168, _), (169, _), (170, _), (171, _), (172, _), (173, _), (174, _), (175, _), (176, _), (177, _), (178, _), (179, _), (180, _), (181, _), (182, _), (183, _), (184, _), (185, _), (186, _), (187, _), (188, _), (189, _), (190, _), (191, _), (192, _), (193, _), (194, _), (195, _)] a := hA.sub ((.cons rfl (.cons rfl (.cons rfl (.cons rfl (.cons rfl (.cons rfl (.cons rfl (.cons rfl (.cons rfl (.cons rfl (.cons rfl (.cons rfl (.cons rfl (.cons rfl (.cons rfl (.cons rfl (.cons rfl (.cons rfl (.cons rfl (.cons rfl (.cons rfl (.cons rfl (.cons rfl (.cons rfl (.cons rfl (.cons rfl (.cons rfl (.cons rfl (.cons rfl (.cons rfl (.cons rfl (.cons rfl (.cons rfl (.cons rfl (.cons rfl (.cons rfl (.cons rfl (.cons rfl (.cons rfl (.cons rfl (.cons rfl (.cons rfl (.cons rfl (.cons rfl (.cons rfl (.cons rfl (.cons rfl (.cons rfl (.cons rfl (.cons rfl (.cons rfl (.cons rfl (.cons rfl (.cons rfl (.cons rfl (.cons rfl (.cons rfl (.cons rfl (.cons rfl (.cons rfl (.cons rfl (.cons rfl (.cons rfl (.cons rfl (.cons rfl (.cons rfl (.cons rfl (.cons rfl (.cons rfl (.cons rfl (.cons rfl (.cons rfl (.cons rfl (.cons rfl (.cons rfl (.cons rfl (.cons rfl (.cons rfl (.cons rfl (.cons rfl (.cons rfl (.cons rfl (.cons rfl (.cons rfl (.cons rfl (.cons rfl (.cons rfl (.cons rfl (.cons rfl (.cons rfl (.cons rfl (.cons rfl (.cons rfl (.cons rfl (.cons rfl .nil))))))))))))))))))))))))))))))))))))))))))))))))))))))))))))))))))))))))))))))))))))))))))))))))
      refine Ends.condF hA rfl ?_
      refine Ends.skip ?_
      refine Ends.seq ?_
      refine Ends.region ?_
      refine S.val hA (R.assign rfl) rfl ?_; clear hA a; intro a hA
      refine S.done ?_
      replace hA : St 231 [(0, _), (1, _), (11, _), (12, _), (13, _), (14, _), (15, _), (16, _), (17, _), (18, _), (19, _), (20, _), (21, _), (22, _), (23, _), (24, _), (114, _), (117, _), (118, _), (119, _), (120, _), (121, _), (122, _), (123, _), (124, _), (125, _), (126, _), (127, _), (128, _), (129, _), (130, _), (131, _), (132, _), (133, _), (134, _), (135, _), (136, _), (137, _), (138, _), (139, _), (140, _), (141, _), (142, _), (143, _), (144, _), (145, _), (146, _), (147, _), (148, _), (149, _), (150, _), (151, _), (152, _), (153, _), (154, _), (155, _), (156, _), (157, _), (158, _), (159, _), (160, _), (161, _), (162, _), (163, _), (164, _), (165, _), (166, _), (167, _), (168, _), (169, _), (170, _), (171, _), (172, _), (173, _), (174, _), (175, _), (176, _), (177, _), (178, _), (179, _), (180, _), (181, _), (182, _), (183, _), (184, _), (185, _), (186, _), (187, _), (188, _), (189, _), (190, _), (191, _), (192, _), (193, _), (194, _), (195, _)] a := hA.sub ((.cons rfl (.cons rfl (.cons rfl (.cons rfl (.cons rfl (.cons rfl (.cons rfl (.cons rfl (.cons rfl (.cons rfl (.cons rfl (.cons rfl (.cons rfl (.cons rfl (.cons rfl (.cons rfl (.cons rfl (.cons rfl (.cons rfl (.cons rfl (.cons rfl (.cons rfl (.cons rfl (.cons rfl (.cons rfl (.cons rfl (.cons rfl (.cons rfl (.cons rfl (.cons rfl (.cons rfl (.cons rfl (.cons rfl (.cons rfl (.cons rfl (.cons rfl (.cons rfl (.cons rfl (.cons rfl (.cons rfl (.cons rfl (.cons rfl (.cons rfl (.cons rfl (.cons rfl (.cons rfl (.cons rfl (.cons rfl (.cons rfl (.cons rfl (.cons rfl (.cons rfl (.cons rfl (.cons rfl (.cons rfl (.cons rfl (.cons rfl (.cons rfl (.cons rfl (.cons rfl (.cons rfl (.cons rfl (.cons rfl (.cons rfl (.cons rfl (.cons rfl (.cons rfl (.cons rfl (.cons rfl (.cons rfl (.cons rfl (.cons rfl (.cons rfl (.cons rfl (.cons rfl (.cons rfl (.cons rfl (.cons rfl (.cons rfl (.cons rfl (.cons rfl (.cons rfl (.cons rfl (.cons rfl (.cons rfl (.cons rfl (.cons rfl (.cons rfl (.cons rfl (.cons rfl (.cons rfl (.cons rfl (.cons rfl (.cons rfl (.cons rfl (.cons rfl .nil)))))))))))))))))))))))))))))))))))))))))))))))))))))))))))))))))))))))))))))))))))))))))))))))))
      refine Ends.block ?_
      replace hM := hM.front (k := 3) rfl
      replace hM := hM.front (k := 2) rfl
      replace hM : Mem _ _ [own 3 1 (.slice a18 (((jobL l (1 + ((n13 : Int))) x1 x2 x3)).length) c19) (((jobL l (1 + ((n13 : Int))) x1 x2 x3)).length) (((jobL l (1 + ((n13 : Int))) x1 x2 x3)).map (Value.int .i64)), refO b8 b6 ((jobL l (1 + ((n13 : Int))) x1 x2 x3)) ((jobN l s (1 + ((n13 : Int))) x1 x2)) (jobO l o (1 + ((n13 : Int))) x1 x2 x3), memO m4 c5 ((jobL l (1 + ((n13 : Int))) x1 x2 x3)) ((jobN l s (1 + ((n13 : Int))) x1 x2)) (jobO l o (1 + ((n13 : Int))) x1 x2 x3), pt b16 #[.int .i64 (((jobO l o (1 + ((n13 : Int))) x1 x2 x3)).kind), .int .i64 (((jobO l o (1 + ((n13 : Int))) x1 x2 x3)).cell), .int .i64 (((jobO l o (1 + ((n13 : Int))) x1 x2 x3)).old), .int .i64 (((jobO l o (1 + ((n13 : Int))) x1 x2 x3)).new), .bool (((jobO l o (1 + ((n13 : Int))) x1 x2 x3)).done)] 79, pt b11 #[.int .i64 x0, .int .i64 x1, .int .i64 x2, .int .i64 x3] 87] _ := hM
      replace hM : Mem _ _ [own 3 1 (.slice a18 (((jobL l (1 + ((n13 : Int))) x1 x2 x3)).length) c19) (((jobL l (1 + ((n13 : Int))) x1 x2 x3)).length) (((jobL l (1 + ((n13 : Int))) x1 x2 x3)).map (Value.int .i64)), refO b8 b6 ((jobL l (1 + ((n13 : Int))) x1 x2 x3)) ((jobN l s (1 + ((n13 : Int))) x1 x2)) (jobO l o (1 + ((n13 : Int))) x1 x2 x3), memO m4 c5 ((jobL l (1 + ((n13 : Int))) x1 x2 x3)) ((jobN l s (1 + ((n13 : Int))) x1 x2)) (jobO l o (1 + ((n13 : Int))) x1 x2 x3)] _ := hM.firstN 3
      refine Ends.loop (σ := Nat × List Int) (fun (k, lx) (a : Act) (wv : World) => St 231 [(0, .int .i64 ((n1 : Int))), (1, .slice (some ⟨g, off, none⟩) nr cap), (11, .pointer (some ⟨m4, 0, none⟩)), (12, .pointer (some ⟨b8, 0, none⟩)), (13, .int .i64 ((i : Int))), (14, .pointer (some ⟨b11, 0, none⟩)), (15, .int .i64 (1 + ((n13 : Int)))), (16, .int .i64 ((jobV l (1 + ((n13 : Int))) x1 x2).1)), (17, .bool ((jobV l (1 + ((n13 : Int))) x1 x2).2.1)), (18, .int .i64 ((jobV l (1 + ((n13 : Int))) x1 x2).2.2)), (19, .int .i64 ((jobV l (1 + ((n13 : Int))) x1 x2).1)), (20, .bool ((jobV l (1 + ((n13 : Int))) x1 x2).2.1)), (21, .int .i64 ((jobV l (1 + ((n13 : Int))) x1 x2).2.2)), (22, .pointer (some ⟨b16, 0, none⟩)), (23, .slice a18 (((jobL l (1 + ((n13 : Int))) x1 x2 x3)).length) c19), (24, .int .i64 ((k : Int))), (114, .bool (decide ((((i : Int)) < ((nr : Int)) ∧ ((i : Int)) < 50)))), (117, .slice (some ⟨g, off, none⟩) nr cap), (118, .int .i64 ((i : Int))), (119, .pointer (some ⟨g, off + i * 4, none⟩)), (120, .agg #[.int .i64 x0, .int .i64 x1, .int .i64 x2, .int .i64 x3]), (121, .pointer (some ⟨b11, 0, none⟩)), (122, .int .i64 x0), (123, .int .u64 (IntKind.u64.wrap x0)), (124, .int .u64 (IntKind.u64.wrap x0 % 4)), (125, .int .i64 ((n13 : Int))), (126, .int .i64 (1 + ((n13 : Int)))), (127, .tuple #[.int .i64 ((jobV l (1 + ((n13 : Int))) x1 x2).1), .bool ((jobV l (1 + ((n13 : Int))) x1 x2).2.1), .int .i64 ((jobV l (1 + ((n13 : Int))) x1 x2).2.2)]), (128, .pointer (some ⟨m4, 0, none⟩)), (129, .agg #[.int .i64 x0, .int .i64 x1, .int .i64 x2, .int .i64 x3]), (130, .int .i64 (1 + ((n13 : Int)))), (131, .tuple #[.int .i64 ((jobV l (1 + ((n13 : Int))) x1 x2).1), .bool ((jobV l (1 + ((n13 : Int))) x1 x2).2.1), .int .i64 ((jobV l (1 + ((n13 : Int))) x1 x2).2.2)]), (132, .int .i64 ((jobV l (1 + ((n13 : Int))) x1 x2).1)), (133, .bool ((jobV l (1 + ((n13 : Int))) x1 x2).2.1)), (134, .int .i64 ((jobV l (1 + ((n13 : Int))) x1 x2).2.2)), (135, .tuple #[.int .i64 ((jobV l (1 + ((n13 : Int))) x1 x2).1), .bool ((jobV l (1 + ((n13 : Int))) x1 x2).2.1), .int .i64 ((jobV l (1 + ((n13 : Int))) x1 x2).2.2)]), (136, .pointer (some ⟨b8, 0, none⟩)), (137, .int .i64 (1 + ((n13 : Int)))), (138, .pointer (some ⟨b11, 1, none⟩)), (139, .int .i64 x1), (140, .pointer (some ⟨b11, 2, none⟩)), (141, .int .i64 x2), (142, .pointer (some ⟨b11, 3, none⟩)), (143, .int .i64 x3), (144, .tuple #[.int .i64 ((jobV l (1 + ((n13 : Int))) x1 x2).1), .bool ((jobV l (1 + ((n13 : Int))) x1 x2).2.1), .int .i64 ((jobV l (1 + ((n13 : Int))) x1 x2).2.2)]), (145, .int .i64 ((jobV l (1 + ((n13 : Int))) x1 x2).1)), (146, .bool ((jobV l (1 + ((n13 : Int))) x1 x2).2.1)), (147, .int .i64 ((jobV l (1 + ((n13 : Int))) x1 x2).2.2)), (148, .pointer (some ⟨m4, 0, none⟩)), (149, .agg #[.int .i64 (((jobO l o (1 + ((n13 : Int))) x1 x2 x3)).kind), .int .i64 (((jobO l o (1 + ((n13 : Int))) x1 x2 x3)).cell), .int .i64 (((jobO l o (1 + ((n13 : Int))) x1 x2 x3)).old), .int .i64 (((jobO l o (1 + ((n13 : Int))) x1 x2 x3)).new), .bool (((jobO l o (1 + ((n13 : Int))) x1 x2 x3)).done)]), (150, .int .i64 ((jobV l (1 + ((n13 : Int))) x1 x2).1)), (151, .int .i64 ((jobV l (1 + ((n13 : Int))) x1 x2).1)), (152, .bool false), (153, .bool false), (154, .bool ((jobV l (1 + ((n13 : Int))) x1 x2).2.1)), (155, .bool ((jobV l (1 + ((n13 : Int))) x1 x2).2.1)), (156, .bool false), (157, .bool false), (158, .bool false), (159, .int .i64 ((jobV l (1 + ((n13 : Int))) x1 x2).2.2)), (160, .int .i64 ((jobV l (1 + ((n13 : Int))) x1 x2).2.2)), (161, .bool false), (162, .bool false), (163, .bool false), (164, .pointer (some ⟨m4, 0, none⟩)), (165, .int .i64 ((jobN l s (1 + ((n13 : Int))) x1 x2))), (166, .pointer (some ⟨b8, 0, none⟩)), (167, .pointer (some ⟨b8, 0, none⟩)), (168, .pointer (some ⟨b8, 1, none⟩)), (169, .int .i64 ((jobN l s (1 + ((n13 : Int))) x1 x2))), (170, .bool false), (171, .bool false), (172, .bool false), (173, .pointer (some ⟨b16, 0, none⟩)), (174, .int .i64 (((jobO l o (1 + ((n13 : Int))) x1 x2 x3)).kind)), (175, .pointer (some ⟨b16, 1, none⟩)), (176, .int .i64 (((jobO l o (1 + ((n13 : Int))) x1 x2 x3)).cell)), (177, .pointer (some ⟨b16, 2, none⟩)), (178, .int .i64 (((jobO l o (1 + ((n13 : Int))) x1 x2 x3)).old)), (179, .pointer (some ⟨b16, 3, none⟩)), (180, .int .i64 (((jobO l o (1 + ((n13 : Int))) x1 x2 x3)).new)), (181, .pointer (some ⟨b16, 4, none⟩)), (182, .bool (((jobO l o (1 + ((n13 : Int))) x1 x2 x3)).done)), (183, .agg #[.int .i64 (((jobO l o (1 + ((n13 : Int))) x1 x2 x3)).kind), .int .i64 (((jobO l o (1 + ((n13 : Int))) x1 x2 x3)).cell), .int .i64 (((jobO l o (1 + ((n13 : Int))) x1 x2 x3)).old), .int .i64 (((jobO l o (1 + ((n13 : Int))) x1 x2 x3)).new), .bool (((jobO l o (1 + ((n13 : Int))) x1 x2 x3)).done)]), (184, .pointer (some ⟨b8, 0, none⟩)), (185, .pointer (some ⟨b8, 0, none⟩)), (186, .pointer (some ⟨b8, 2, none⟩)), (187, .agg #[.int .i64 (((jobO l o (1 + ((n13 : Int))) x1 x2 x3)).kind), .int .i64 (((jobO l o (1 + ((n13 : Int))) x1 x2 x3)).cell), .int .i64 (((jobO l o (1 + ((n13 : Int))) x1 x2 x3)).old), .int .i64 (((jobO l o (1 + ((n13 : Int))) x1 x2 x3)).new), .bool (((jobO l o (1 + ((n13 : Int))) x1 x2 x3)).done)]), (188, .bool false), (189, .bool false), (190, .pointer (some ⟨m4, 0, none⟩)), (191, .slice a18 (((jobL l (1 + ((n13 : Int))) x1 x2 x3)).length) c19), (192, .slice a18 (((jobL l (1 + ((n13 : Int))) x1 x2 x3)).length) c19), (193, .int .i64 ((((jobL l (1 + ((n13 : Int))) x1 x2 x3)).length : Int))), (194, .int .i64 ((n1 : Int))), (195, .bool false)] a ∧ Mem w nof [own 3 1 (.slice a18 (((jobL l (1 + ((n13 : Int))) x1 x2 x3)).length) c19) (((jobL l (1 + ((n13 : Int))) x1 x2 x3)).length) (lx.map (Value.int .i64)), refO b8 b6 ((jobL l (1 + ((n13 : Int))) x1 x2 x3)) ((jobN l s (1 + ((n13 : Int))) x1 x2)) (jobO l o (1 + ((n13 : Int))) x1 x2 x3), memO m4 c5 ((jobL l (1 + ((n13 : Int))) x1 x2 x3)) ((jobN l s (1 + ((n13 : Int))) x1 x2)) (jobO l o (1 + ((n13 : Int))) x1 x2 x3)] wv ∧ (k ≤ n1) ∧ (lx.length = ((jobL l (1 + ((n13 : Int))) x1 x2 x3)).length) ∧ (∀ j, k ≤ j → lx.getD j 0 = ((jobL l (1 + ((n13 : Int))) x1 x2 x3)).getD j 0)) (fun (k, lx) => n1 - k) ((0, (jobL l (1 + ((n13 : Int))) x1 x2 x3))) ⟨hA.sub ((.cons rfl (.cons rfl (.cons rfl (.cons rfl (.cons rfl (.cons rfl (.cons rfl (.cons rfl (.cons rfl (.cons rfl (.cons rfl (.cons rfl (.cons rfl (.cons rfl (.cons rfl (.cons rfl (.cons rfl (.cons rfl (.cons rfl (.cons rfl (.cons rfl (.cons rfl (.cons rfl (.cons rfl (.cons rfl (.cons rfl (.cons rfl (.cons rfl (.cons rfl (.cons rfl (.cons rfl (.cons rfl (.cons rfl (.cons rfl (.cons rfl (.cons rfl (.cons rfl (.cons rfl (.cons rfl (.cons rfl (.cons rfl (.cons rfl (.cons rfl (.cons rfl (.cons rfl (.cons rfl (.cons rfl (.cons rfl (.cons rfl (.cons rfl (.cons rfl (.cons rfl (.cons rfl (.cons rfl (.cons rfl (.cons rfl (.cons rfl (.cons rfl (.cons rfl (.cons rfl (.cons rfl (.cons rfl (.cons rfl (.cons rfl (.cons rfl (.cons rfl (.cons rfl (.cons rfl (.cons rfl (.cons rfl (.cons rfl (.cons rfl (.cons rfl (.cons rfl (.cons rfl (.cons rfl (.cons rfl (.cons rfl (.cons rfl (.cons rfl (.cons rfl (.cons rfl (.cons rfl (.cons rfl (.cons rfl (.cons rfl (.cons rfl (.cons rfl (.cons rfl (.cons rfl (.cons rfl (.cons rfl (.cons rfl (.cons rfl (.cons rfl (.cons rfl .nil))))))))))))))))))))))))))))))))))))))))))))))))))))))))))))))))))))))))))))))))))))))))))))))))), hM, (by omega), rfl, (fun _ _ => rfl)⟩ ?_
      clear hA hM a
      rintro ⟨k, lx⟩ a w35 ⟨hA, hM, hk, hlx, hsame⟩ hNext1
      refine Ends.seq ?_
      refine Ends.seq ?_
      refine Ends.region ?_
      refine S.val hA (R.move rfl) rfl ?_; clear hA a; intro a hA
      refine S.val hA (R.move rfl) rfl ?_; clear hA a; intro a hA
      refine S.val hA (R.lss rfl rfl) rfl ?_; clear hA a; intro a hA
      refine S.done ?_
      replace hA : St 231 [(0, _), (1, _), (11, _), (12, _), (13, _), (14, _), (15, _), (16, _), (17, _), (18, _), (19, _), (20, _), (21, _), (22, _), (23, _), (24, _), (114, _), (117, _), (118, _), (119, _), (120, _), (121, _), (122, _), (123, _), (124, _), (125, _), (126, _), (127, _), (128, _), (129, _), (130, _), (131, _), (132, _), (133, _), (134, _), (135, _), (136, _), (137, _), (138, _), (139, _), (140, _), (141, _), (142, _), (143, _), (144, _), (145, _), (146, _), (147, _), (148, _), (149, _), (150, _), (151, _), (152, _), (153, _), (154, _), (155, _), (156, _), (157, _), (158, _), (159, _), (160, _), (161, _), (162, _), (163, _), (164, _), (165, _), (166, _), (167, _), (168, _), (169, _), (170, _), (171, _), (172, _), (173, _), (174, _), (175, _), (176, _), (177, _), (178, _), (179, _), (180, _), (181, _), (182, _), (183, _), (184, _), (185, _), (186, _), (187, _), (188, _), (189, _), (190, _), (191, _), (192, _), (193, _), (194, _), (195, _), (196, _), (197, _), (198, _)] a := hA.sub ((.cons rfl (.cons rfl (.cons rfl (.cons rfl (.cons rfl (.cons rfl (.cons rfl (.cons rfl (.cons rfl (.cons rfl (.cons rfl (.cons rfl (.cons rfl (.cons rfl (.cons rfl (.cons rfl (.cons rfl (.cons rfl (.cons rfl (.cons rfl (.cons rfl (.cons rfl (.cons rfl (.cons rfl (.cons rfl (.cons rfl (.cons rfl (.cons rfl (.cons rfl (.cons rfl (.cons rfl (.cons rfl (.cons rfl (.cons rfl (.cons rfl (.cons rfl (.cons rfl (.cons rfl (.cons rfl (.cons rfl (.cons rfl (.cons rfl (.cons rfl (.cons rfl (.cons rfl (.cons rfl (.cons rfl (.cons rfl (.cons rfl (.cons rfl (.cons rfl (.cons rfl (.cons rfl (.cons rfl (.cons rfl (.cons rfl (.cons rfl (.cons rfl (.cons rfl (.cons rfl (.cons rfl (.cons rfl (.cons rfl (.cons rfl (.cons rfl (.cons rfl (.cons rfl (.cons rfl (.cons rfl (.cons rfl (.cons rfl (.cons rfl (.cons rfl (.cons rfl (.cons rfl (.cons rfl (.cons rfl (.cons rfl (.cons rfl (.cons rfl (.cons rfl (.cons rfl (.cons rfl (.cons rfl (.cons rfl (.cons rfl (.cons rfl (.cons rfl (.cons rfl (.cons rfl (.cons rfl (.cons rfl (.cons rfl (.cons rfl (.cons rfl (.cons rfl (.cons rfl (.cons rfl (.cons rfl .nil))))))))))))))))))))))))))))))))))))))))))))))))))))))))))))))))))))))))))))))))))))))))))))))))))))
      refine Ends.ite hA rfl (fun hc20 => ?_) (fun hc20 => ?_)
      ·
        refine Ends.skip ?_
        refine Ends.seq ?_
        refine Ends.block ?_
        refine Ends.seq ?_
        refine Ends.seq ?_
        have hLn : ((jobL l (1 + ((n13 : Int))) x1 x2 x3)).length = n1 := by rw [jobL_len]; exact hlen
        obtain ⟨gx, hgx⟩ := hM.ownAt (k := 0) rfl (by omega)
        subst hgx
        replace hM : Mem _ _ [own 3 1 (.slice (some ⟨gx, 0, none⟩) (((jobL l (1 + ((n13 : Int))) x1 x2 x3)).length) c19) (((jobL l (1 + ((n13 : Int))) x1 x2 x3)).length) (lx.map (Value.int .i64)), refO b8 b6 ((jobL l (1 + ((n13 : Int))) x1 x2 x3)) ((jobN l s (1 + ((n13 : Int))) x1 x2)) (jobO l o (1 + ((n13 : Int))) x1 x2 x3), memO m4 c5 ((jobL l (1 + ((n13 : Int))) x1 x2 x3)) ((jobN l s (1 + ((n13 : Int))) x1 x2)) (jobO l o (1 + ((n13 : Int))) x1 x2 x3)] _ := hM
        refine Ends.drawn (Mem w nof [own 3 1 (.slice (some ⟨gx, 0, none⟩) (((jobL l (1 + ((n13 : Int))) x1 x2 x3)).length) c19) (((jobL l (1 + ((n13 : Int))) x1 x2 x3)).length) (lx.map (Value.int .i64)), refO b8 b6 ((jobL l (1 + ((n13 : Int))) x1 x2 x3)) ((jobN l s (1 + ((n13 : Int))) x1 x2)) (jobO l o (1 + ((n13 : Int))) x1 x2 x3), memO m4 c5 ((jobL l (1 + ((n13 : Int))) x1 x2 x3)) ((jobN l s (1 + ((n13 : Int))) x1 x2)) (jobO l o (1 + ((n13 : Int))) x1 x2 x3)]) [(0, true), (1, true), (2, true), (3, true), (4, true), (5, true), (6, true), (7, true), (8, true), (9, true), (10, true), (11, true), (12, true), (13, true), (14, true), (16, true), (17, true), (18, true), (19, true), (15, false), (20, true), (21, true)] 22 mixed (by kernel_rfl) (by kernel_rfl) (by kernel_rfl) hM.drew ?_
        replace hM := hM.drew
        refine D.valF hA rfl (fun _ => R.move rfl) rfl ?_; clear hA a; intro a hA
        refine D.valF hA rfl (fun _ => R.move rfl) rfl ?_; clear hA a; intro a hA
        refine D.valF hA rfl (fun _ => R.indexAddr (q := k) sl40 rfl rfl (by omega) (by omega)) rfl ?_; clear hA a; intro a hA
        refine D.val hA rfl (by kernel_rfl) (fun _ hM => R.load sz3 rfl (hM.ownCell (k := 0) rfl (mapi_get _ _ (by omega)))) rfl ?_; clear hA a; intro a hA
        refine D.valF hA rfl (fun _ => R.move rfl) rfl ?_; clear hA a; intro a hA
        refine D.valF hA rfl (fun _ => R.nilCheck rfl) rfl ?_; clear hA a; intro a hA
        refine D.valF hA rfl (fun _ => R.fieldAddr (q := 0) fi85_0 rfl rfl rfl) rfl ?_; clear hA a; intro a hA
        refine D.val hA rfl (by kernel_rfl) (fun _ hM => R.load sz40 rfl ((refO.open (hM.mem (k := 1) rfl) hb8b6).cell (k := 0) rfl rfl)) rfl ?_; clear hA a; intro a hA
        refine D.valF hA rfl (fun _ => R.move rfl) rfl ?_; clear hA a; intro a hA
        refine D.valF hA rfl (fun _ => R.indexAddr (q := k) sl40 rfl rfl (by omega) (by omega)) rfl ?_; clear hA a; intro a hA
        refine D.val hA rfl (by kernel_rfl) (fun _ hM => R.load sz3 rfl ((refO.open (hM.mem (k := 1) rfl) hb8b6).cell (k := 1) rfl (ints_getD ((jobL l (1 + ((n13 : Int))) x1 x2 x3)) _ (by rw [jobL_len]; omega)))) rfl ?_; clear hA a; intro a hA
        refine D.valF hA rfl (fun _ => R.ff (R.neq rfl rfl) (by exact fun h => h (hsame k (Nat.le_refl _)))) rfl ?_; clear hA a; intro a hA
        refine D.valF hA rfl (fun _ => R.move rfl) rfl ?_; clear hA a; intro a hA
        refine D.valgF (dj := 213) hA rfl (by kernel_rfl) rfl (fun _ => R.move rfl) rfl ?_; clear hA a; intro a hA
        refine D.valgF (dj := 213) hA rfl (by kernel_rfl) rfl (fun _ => R.move rfl) rfl ?_; clear hA a; intro a hA
        refine D.valgF (dj := 213) hA rfl (by kernel_rfl) rfl (fun _ => R.move rfl) rfl ?_; clear hA a; intro a hA
        refine D.valgF (dj := 213) hA rfl (by kernel_rfl) rfl (fun _ => R.move rfl) rfl ?_; clear hA a; intro a hA
        refine D.valgF (dj := 213) hA rfl (by kernel_rfl) rfl (fun _ => R.indexAddr (q := k) sl40 rfl rfl (by omega) (by omega)) rfl ?_; clear hA a; intro a hA
        refine D.valg (dj := 213) hA rfl (by kernel_rfl) (by kernel_rfl) rfl (fun _ hM => R.load sz3 rfl (hM.ownCell (k := 0) rfl (mapi_get _ _ (by omega)))) rfl ?_; clear hA a; intro a hA
        refine D.callg (dj := 213) hA rfl (by kernel_rfl) rfl (R.callF Try.func48 rfl rfl rfl) rfl (peek_ok m4 c5 ((jobL l (1 + ((n13 : Int))) x1 x2 x3)) ((jobN l s (1 + ((n13 : Int))) x1 x2)) (jobO l o (1 + ((n13 : Int))) x1 x2 x3) hm4c5 ((k : Int)) (by omega) (by rw [jobL_len]; omega) _ (hM.mem (k := 2) rfl)) ?_; clear hA a
        rintro e w36 ⟨rfl, rfl⟩
        refine ⟨.int .i64 (((jobL l (1 + ((n13 : Int))) x1 x2 x3)).getD ((k : Int)).toNat 0), rfl, hM, fun a hA => ?_⟩
        refine D.valgF (dj := 213) hA rfl (by kernel_rfl) rfl (fun _ => R.ff (R.neq rfl rfl) (by exact fun h => h (hsame k (Nat.le_refl _)).symm)) rfl ?_; clear hA a; intro a hA
        refine D.valF hA rfl (fun _ => R.pickF rfl rfl) rfl ?_; clear hA a; intro a hA
        refine D.done ?_
        replace hA : St 231 [(0, _), (1, _), (11, _), (12, _), (13, _), (14, _), (15, _), (16, _), (17, _), (18, _), (19, _), (20, _), (21, _), (22, _), (23, _), (24, _), (114, _), (117, _), (118, _), (119, _), (120, _), (121, _), (122, _), (123, _), (124, _), (125, _), (126, _), (127, _), (128, _), (129, _), (130, _), (131, _), (132, _), (133, _), (134, _), (135, _), (136, _), (137, _), (138, _), (139, _), (140, _), (141, _), (142, _), (143, _), (144, _), (145, _), (146, _), (147, _), (148, _), (149, _), (150, _), (151, _), (152, _), (153, _), (154, _), (155, _), (156, _), (157, _), (158, _), (159, _), (160, _), (161, _), (162, _), (163, _), (164, _), (165, _), (166, _), (167, _), (168, _), (169, _), (170, _), (171, _), (172, _), (173, _), (174, _), (175, _), (176, _), (177, _), (178, _), (179, _), (180, _), (181, _), (182, _), (183, _), (184, _), (185, _), (186, _), (187, _), (188, _), (189, _), (190, _), (191, _), (192, _), (193, _), (194, _), (195, _), (196, _), (197, _), (198, _), (201, _), (202, _), (203, _), (204, _), (205, _), (206, _), (207, _), (208, _), (209, _), (210, _), (211, _), (212, _), (213, _), (214, _), (215, _), (216, _), (217, _), (218, _), (219, _), (220, _), (221, _), (222, _)] a := hA.sub ((.cons rfl (.cons rfl (.cons rfl (.cons rfl (.cons rfl (.cons rfl (.cons rfl (.cons rfl (.cons rfl (.cons rfl (.cons rfl (.cons rfl (.cons rfl (.cons rfl (.cons rfl (.cons rfl (.cons rfl (.cons rfl (.cons rfl (.cons rfl (.cons rfl (.cons rfl (.cons rfl (.cons rfl (.cons rfl (.cons rfl (.cons rfl (.cons rfl (.cons rfl (.cons rfl (.cons rfl (.cons rfl (.cons rfl (.cons rfl (.cons rfl (.cons rfl (.cons rfl (.cons rfl (.cons rfl (.cons rfl (.cons rfl (.cons rfl (.cons rfl (.cons rfl (.cons rfl (.cons rfl (.cons rfl (.cons rfl (.cons rfl (.cons rfl (.cons rfl (.cons rfl (.cons rfl (.cons rfl (.cons rfl (.cons rfl (.cons rfl (.cons rfl (.cons rfl (.cons rfl (.cons rfl (.cons rfl (.cons rfl (.cons rfl (.cons rfl (.cons rfl (.cons rfl (.cons rfl (.cons rfl (.cons rfl (.cons rfl (.cons rfl (.cons rfl (.cons rfl (.cons rfl (.cons rfl (.cons rfl (.cons rfl (.cons rfl (.cons rfl (.cons rfl (.cons rfl (.cons rfl (.cons rfl (.cons rfl (.cons rfl (.cons rfl (.cons rfl (.cons rfl (.cons rfl (.cons rfl (.cons rfl (.cons rfl (.cons rfl (.cons rfl (.cons rfl (.cons rfl (.cons rfl (.cons rfl (.cons rfl (.cons rfl (.cons rfl (.cons rfl (.cons rfl (.cons rfl (.cons rfl (.cons rfl (.cons rfl (.cons rfl (.cons rfl (.cons rfl (.cons rfl (.cons rfl (.cons rfl (.cons rfl (.cons rfl (.cons rfl (.cons rfl (.cons rfl (.cons rfl (.cons rfl .nil))))))))))))))))))))))))))))))))))))))))))))))))))))))))))))))))))))))))))))))))))))))))))))))))))))))))))))))))))))))))))
        refine Ends.condF hA rfl ?_
        refine Ends.skip ?_
        refine Ends.region ?_
        refine S.val hA (R.move rfl) rfl ?_; clear hA a; intro a hA
        refine S.val hA (R.move rfl) rfl ?_; clear hA a; intro a hA
        refine S.val hA (R.move rfl) rfl ?_; clear hA a; intro a hA
        refine S.val hA (R.move rfl) rfl ?_; clear hA a; intro a hA
        refine S.val hA (R.indexAddr (q := k) sl40 rfl rfl (by omega) (by omega)) rfl ?_; clear hA a; intro a hA
        refine S.val hA (R.load sz3 rfl (hM.ownCell (k := 0) rfl (mapi_get _ _ (by omega)))) rfl ?_; clear hA a; intro a hA
        refine S.val hA (R.bits (by simp) rfl rfl) rfl ?_; clear hA a; intro a hA
        refine S.val hA (R.indexAddr (q := k) sl40 rfl rfl (by omega) (by omega)) rfl ?_; clear hA a; intro a hA
        refine S.storeO (k := 0) hA hM sz3 rfl rfl rfl rfl (mapi_get _ _ (by omega)) ?_; clear hM; intro w37 hM; rw [mapi_set] at hM
        replace hM : Mem _ _ [own 3 1 (.slice (some ⟨gx, 0, none⟩) (((jobL l (1 + ((n13 : Int))) x1 x2 x3)).length) c19) (((jobL l (1 + ((n13 : Int))) x1 x2 x3)).length) (((lx.set k (bits .xor .i64 (lx.getD k 0) 1))).map (Value.int .i64)), refO b8 b6 ((jobL l (1 + ((n13 : Int))) x1 x2 x3)) ((jobN l s (1 + ((n13 : Int))) x1 x2)) (jobO l o (1 + ((n13 : Int))) x1 x2 x3), memO m4 c5 ((jobL l (1 + ((n13 : Int))) x1 x2 x3)) ((jobN l s (1 + ((n13 : Int))) x1 x2)) (jobO l o (1 + ((n13 : Int))) x1 x2 x3)] _ := hM
        refine S.done ?_
        replace hA : St 231 [(0, _), (1, _), (11, _), (12, _), (13, _), (14, _), (15, _), (16, _), (17, _), (18, _), (19, _), (20, _), (21, _), (22, _), (23, _), (24, _), (114, _), (117, _), (118, _), (119, _), (120, _), (121, _), (122, _), (123, _), (124, _), (125, _), (126, _), (127, _), (128, _), (129, _), (130, _), (131, _), (132, _), (133, _), (134, _), (135, _), (136, _), (137, _), (138, _), (139, _), (140, _), (141, _), (142, _), (143, _), (144, _), (145, _), (146, _), (147, _), (148, _), (149, _), (150, _), (151, _), (152, _), (153, _), (154, _), (155, _), (156, _), (157, _), (158, _), (159, _), (160, _), (161, _), (162, _), (163, _), (164, _), (165, _), (166, _), (167, _), (168, _), (169, _), (170, _), (171, _), (172, _), (173, _), (174, _), (175, _), (176, _), (177, _), (178, _), (179, _), (180, _), (181, _), (182, _), (183, _), (184, _), (185, _), (186, _), (187, _), (188, _), (189, _), (190, _), (191, _), (192, _), (193, _), (194, _), (195, _), (196, _), (197, _), (198, _), (201, _), (202, _), (203, _), (204, _), (205, _), (206, _), (207, _), (208, _), (209, _), (210, _), (211, _), (212, _), (213, _), (214, _), (215, _), (216, _), (217, _), (218, _), (219, _), (220, _), (221, _), (222, _), (223, _), (224, _), (225, _), (226, _), (227, _), (228, _), (229, _), (230, _)] a := hA.sub ((.cons rfl (.cons rfl (.cons rfl (.cons rfl (.cons rfl (.cons rfl (.cons rfl (.cons rfl (.cons rfl (.cons rfl (.cons rfl (.cons rfl (.cons rfl (.cons rfl (.cons rfl (.cons rfl (.cons rfl (.cons rfl (.cons rfl (.cons rfl (.cons rfl (.cons rfl (.cons rfl (.cons rfl (.cons rfl (.cons rfl (.cons rfl (.cons rfl (.cons rfl (.cons rfl (.cons rfl (.cons rfl (.cons rfl (.cons rfl (.cons rfl (.cons rfl (.cons rfl (.cons rfl (.cons rfl (.cons rfl (.cons rfl (.cons rfl (.cons rfl (.cons rfl (.cons rfl (.cons rfl (.cons rfl (.cons rfl (.cons rfl (.cons rfl (.cons rfl (.cons rfl (.cons rfl (.cons rfl (.cons rfl (.cons rfl (.cons rfl (.cons rfl (.cons rfl (.cons rfl (.cons rfl (.cons rfl (.cons rfl (.cons rfl (.cons rfl (.cons rfl (.cons rfl (.cons rfl (.cons rfl (.cons rfl (.cons rfl (.cons rfl (.cons rfl (.cons rfl (.cons rfl (.cons rfl (.cons rfl (.cons rfl (.cons rfl (.cons rfl (.cons rfl (.cons rfl (.cons rfl (.cons rfl (.cons rfl (.cons rfl (.cons rfl (.cons rfl (.cons rfl (.cons rfl (.cons rfl (.cons rfl (.cons rfl (.cons rfl (.cons rfl (.cons rfl (.cons rfl (.cons rfl (.cons rfl (.cons rfl (.cons rfl (.cons rfl (.cons rfl (.cons rfl (.cons rfl (.cons rfl (.cons rfl (.cons rfl (.cons rfl (.cons rfl (.cons rfl (.cons rfl (.cons rfl (.cons rfl (.cons rfl (.cons rfl (.cons rfl (.cons rfl (.cons rfl (.cons rfl (.cons rfl (.cons rfl (.cons rfl (.cons rfl (.cons rfl (.cons rfl (.cons rfl (.cons rfl (.cons rfl .nil))))))))))))))))))))))))))))))))))))))))))))))))))))))))))))))))))))))))))))))))))))))))))))))))))))))))))))))))))))))))))))))))))
        refine Ends.inBlock ?_
        refine Ends.region ?_
        refine S.val hA (R.move rfl) rfl ?_; clear hA a; intro a hA
        refine S.val hA (R.addI rfl rfl (r := ((k : Int)) + 1) rfl (by omega)) rfl ?_; clear hA a; intro a hA
        refine S.val hA (R.assign rfl) rfl ?_; clear hA a; intro a hA
        refine S.done ?_
        replace hA : St 231 [(0, _), (1, _), (11, _), (12, _), (13, _), (14, _), (15, _), (16, _), (17, _), (18, _), (19, _), (20, _), (21, _), (22, _), (23, _), (24, _), (114, _), (117, _), (118, _), (119, _), (120, _), (121, _), (122, _), (123, _), (124, _), (125, _), (126, _), (127, _), (128, _), (129, _), (130, _), (131, _), (132, _), (133, _), (134, _), (135, _), (136, _), (137, _), (138, _), (139, _), (140, _), (141, _), (142, _), (143, _), (144, _), (145, _), (146, _), (147, _), (148, _), (149, _), (150, _), (151, _), (152, _), (153, _), (154, _), (155, _), (156, _), (157, _), (158, _), (159, _), (160, _), (161, _), (162, _), (163, _), (164, _), (165, _), (166, _), (167, _), (168, _), (169, _), (170, _), (171, _), (172, _), (173, _), (174, _), (175, _), (176, _), (177, _), (178, _), (179, _), (180, _), (181, _), (182, _), (183, _), (184, _), (185, _), (186, _), (187, _), (188, _), (189, _), (190, _), (191, _), (192, _), (193, _), (194, _), (195, _), (196, _), (197, _), (198, _), (199, _), (200, _), (201, _), (202, _), (203, _), (204, _), (205, _), (206, _), (207, _), (208, _), (209, _), (210, _), (211, _), (212, _), (213, _), (214, _), (215, _), (216, _), (217, _), (218, _), (219, _), (220, _), (221, _), (222, _), (223, _), (224, _), (225, _), (226, _), (227, _), (228, _), (229, _), (230, _)] a := hA.sub ((.cons rfl (.cons rfl (.cons rfl (.cons rfl (.cons rfl (.cons rfl (.cons rfl (.cons rfl (.cons rfl (.cons rfl (.cons rfl (.cons rfl (.cons rfl (.cons rfl (.cons rfl (.cons rfl (.cons rfl (.cons rfl (.cons rfl (.cons rfl (.cons rfl (.cons rfl (.cons rfl (.cons rfl (.cons rfl (.cons rfl (.cons rfl (.cons rfl (.cons rfl (.cons rfl (.cons rfl (.cons rfl (.cons rfl (.cons rfl (.cons rfl (.cons rfl (.cons rfl (.cons rfl (.cons rfl (.cons rfl (.cons rfl (.cons rfl (.cons rfl (.cons rfl (.cons rfl (.cons rfl (.cons rfl (.cons rfl (.cons rfl (.cons rfl (.cons rfl (.cons rfl (.cons rfl (.cons rfl (.cons rfl (.cons rfl (.cons rfl (.cons rfl (.cons rfl (.cons rfl (.cons rfl (.cons rfl (.cons rfl (.cons rfl (.cons rfl (.cons rfl (.cons rfl (.cons rfl (.cons rfl (.cons rfl (.cons rfl (.cons rfl (.cons rfl (.cons rfl (.cons rfl (.cons rfl (.cons rfl (.cons rfl (.cons rfl (.cons rfl (.cons rfl (.cons rfl (.cons rfl (.cons rfl (.cons rfl (.cons rfl (.cons rfl (.cons rfl (.cons rfl (.cons rfl (.cons rfl (.cons rfl (.cons rfl (.cons rfl (.cons rfl (.cons rfl (.cons rfl (.cons rfl (.cons rfl (.cons rfl (.cons rfl (.cons rfl (.cons rfl (.cons rfl (.cons rfl (.cons rfl (.cons rfl (.cons rfl (.cons rfl (.cons rfl (.cons rfl (.cons rfl (.cons rfl (.cons rfl (.cons rfl (.cons rfl (.cons rfl (.cons rfl (.cons rfl (.cons rfl (.cons rfl (.cons rfl (.cons rfl (.cons rfl (.cons rfl (.cons rfl (.cons rfl (.cons rfl (.cons rfl (.cons rfl (.cons rfl .nil))))))))))))))))))))))))))))))))))))))))))))))))))))))))))))))))))))))))))))))))))))))))))))))))))))))))))))))))))))))))))))))))))))
        exact hNext1 ((k + 1, (lx.set k (bits .xor .i64 (lx.getD k 0) 1)))) _ _ ((by show n1 - (k + 1) < n1 - k; omega)) ⟨hA.sub ((.cons rfl (.cons rfl (.cons rfl (.cons rfl (.cons rfl (.cons rfl (.cons rfl (.cons rfl (.cons rfl (.cons rfl (.cons rfl (.cons rfl (.cons rfl (.cons rfl (.cons rfl (.cons rfl (.cons rfl (.cons rfl (.cons rfl (.cons rfl (.cons rfl (.cons rfl (.cons rfl (.cons rfl (.cons rfl (.cons rfl (.cons rfl (.cons rfl (.cons rfl (.cons rfl (.cons rfl (.cons rfl (.cons rfl (.cons rfl (.cons rfl (.cons rfl (.cons rfl (.cons rfl (.cons rfl (.cons rfl (.cons rfl (.cons rfl (.cons rfl (.cons rfl (.cons rfl (.cons rfl (.cons rfl (.cons rfl (.cons rfl (.cons rfl (.cons rfl (.cons rfl (.cons rfl (.cons rfl (.cons rfl (.cons rfl (.cons rfl (.cons rfl (.cons rfl (.cons rfl (.cons rfl (.cons rfl (.cons rfl (.cons rfl (.cons rfl (.cons rfl (.cons rfl (.cons rfl (.cons rfl (.cons rfl (.cons rfl (.cons rfl (.cons rfl (.cons rfl (.cons rfl (.cons rfl (.cons rfl (.cons rfl (.cons rfl (.cons rfl (.cons rfl (.cons rfl (.cons rfl (.cons rfl (.cons rfl (.cons rfl (.cons rfl (.cons rfl (.cons rfl (.cons rfl (.cons rfl (.cons rfl (.cons rfl (.cons rfl (.cons rfl (.cons rfl .nil))))))))))))))))))))))))))))))))))))))))))))))))))))))))))))))))))))))))))))))))))))))))))))))))), hM, (by omega), (by rw [List.length_set]; exact hlx), (fun j hj => by rw [List.getD_eq_getElem?_getD, List.getElem?_set_ne (by omega), ← List.getD_eq_getElem?_getD]; exact hsame j (by omega))⟩
      ·
        refine Ends.exit rfl ?_
        replace hA : St 231 [(0, _), (1, _), (11, _), (12, _), (13, _), (14, _), (15, _), (16, _), (17, _), (18, _), (19, _), (20, _), (21, _), (22, _), (23, _), (24, _), (114, _), (117, _), (118, _), (119, _), (120, _), (121, _), (122, _), (123, _), (124, _), (125, _), (126, _), (127, _), (128, _), (129, _), (130, _), (131, _), (132, _), (133, _), (134, _), (135, _), (136, _), (137, _), (138, _), (139, _), (140, _), (141, _), (142, _), (143, _), (144, _), (145, _), (146, _), (147, _), (148, _), (149, _), (150, _), (151, _), (152, _), (153, _), (154, _), (155, _), (156, _), (157, _), (158, _), (159, _), (160, _), (161, _), (162, _), (163, _), (164, _), (165, _), (166, _), (167, _), (168, _), (169, _), (170, _), (171, _), (172, _), (173, _), (174, _), (175, _), (176, _), (177, _), (178, _), (179, _), (180, _), (181, _), (182, _), (183, _), (184, _), (185, _), (186, _), (187, _), (188, _), (189, _), (190, _), (191, _), (192, _), (193, _), (194, _), (195, _), (196, _), (197, _), (198, _)] a := hA.sub ((.cons rfl (.cons rfl (.cons rfl (.cons rfl (.cons rfl (.cons rfl (.cons rfl (.cons rfl (.cons rfl (.cons rfl (.cons rfl (.cons rfl (.cons rfl (.cons rfl (.cons rfl (.cons rfl (.cons rfl (.cons rfl (.cons rfl (.cons rfl (.cons rfl (.cons rfl (.cons rfl (.cons rfl (.cons rfl (.cons rfl (.cons rfl (.cons rfl (.cons rfl (.cons rfl (.cons rfl (.cons rfl (.cons rfl (.cons rfl (.cons rfl (.cons rfl (.cons rfl (.cons rfl (.cons rfl (.cons rfl (.cons rfl (.cons rfl (.cons rfl (.cons rfl (.cons rfl (.cons rfl (.cons rfl (.cons rfl (.cons rfl (.cons rfl (.cons rfl (.cons rfl (.cons rfl (.cons rfl (.cons rfl (.cons rfl (.cons rfl (.cons rfl (.cons rfl (.cons rfl (.cons rfl (.cons rfl (.cons rfl (.cons rfl (.cons rfl (.cons rfl (.cons rfl (.cons rfl (.cons rfl (.cons rfl (.cons rfl (.cons rfl (.cons rfl (.cons rfl (.cons rfl (.cons rfl (.cons rfl (.cons rfl (.cons rfl (.cons rfl (.cons rfl (.cons rfl (.cons rfl (.cons rfl (.cons rfl (.cons rfl (.cons rfl (.cons rfl (.cons rfl (.cons rfl (.cons rfl (.cons rfl (.cons rfl (.cons rfl (.cons rfl (.cons rfl (.cons rfl (.cons rfl (.cons rfl .nil))))))))))))))))))))))))))))))))))))))))))))))))))))))))))))))))))))))))))))))))))))))))))))))))))))
        refine Ends.inBlock ?_
        refine Ends.region ?_
        refine S.val hA (R.move rfl) rfl ?_; clear hA a; intro a hA
        refine S.val hA (R.addI rfl rfl (r := ((i : Int)) + 1) rfl (by omega)) rfl ?_; clear hA a; intro a hA
        refine S.val hA (R.assign rfl) rfl ?_; clear hA a; intro a hA
        refine S.done ?_
        replace hA : St 231 [(0, _), (1, _), (11, _), (12, _), (13, _), (14, _), (15, _), (16, _), (17, _), (18, _), (19, _), (20, _), (21, _), (22, _), (23, _), (24, _), (114, _), (115, _), (116, _), (117, _), (118, _), (119, _), (120, _), (121, _), (122, _), (123, _), (124, _), (125, _), (126, _), (127, _), (128, _), (129, _), (130, _), (131, _), (132, _), (133, _), (134, _), (135, _), (136, _), (137, _), (138, _), (139, _), (140, _), (141, _), (142, _), (143, _), (144, _), (145, _), (146, _), (147, _), (148, _), (149, _), (150, _), (151, _), (152, _), (153, _), (154, _), (155, _), (156, _), (157, _), (158, _), (159, _), (160, _), (161, _), (162, _), (163, _), (164, _), (165, _), (166, _), (167, _), (168, _), (169, _), (170, _), (171, _), (172, _), (173, _), (174, _), (175, _), (176, _), (177, _), (178, _), (179, _), (180, _), (181, _), (182, _), (183, _), (184, _), (185, _), (186, _), (187, _), (188, _), (189, _), (190, _), (191, _), (192, _), (193, _), (194, _), (195, _), (196, _), (197, _), (198, _)] a := hA.sub ((.cons rfl (.cons rfl (.cons rfl (.cons rfl (.cons rfl (.cons rfl (.cons rfl (.cons rfl (.cons rfl (.cons rfl (.cons rfl (.cons rfl (.cons rfl (.cons rfl (.cons rfl (.cons rfl (.cons rfl (.cons rfl (.cons rfl (.cons rfl (.cons rfl (.cons rfl (.cons rfl (.cons rfl (.cons rfl (.cons rfl (.cons rfl (.cons rfl (.cons rfl (.cons rfl (.cons rfl (.cons rfl (.cons rfl (.cons rfl (.cons rfl (.cons rfl (.cons rfl (.cons rfl (.cons rfl (.cons rfl (.cons rfl (.cons rfl (.cons rfl (.cons rfl (.cons rfl (.cons rfl (.cons rfl (.cons rfl (.cons rfl (.cons rfl (.cons rfl (.cons rfl (.cons rfl (.cons rfl (.cons rfl (.cons rfl (.cons rfl (.cons rfl (.cons rfl (.cons rfl (.cons rfl (.cons rfl (.cons rfl (.cons rfl (.cons rfl (.cons rfl (.cons rfl (.cons rfl (.cons rfl (.cons rfl (.cons rfl (.cons rfl (.cons rfl (.cons rfl (.cons rfl (.cons rfl (.cons rfl (.cons rfl (.cons rfl (.cons rfl (.cons rfl (.cons rfl (.cons rfl (.cons rfl (.cons rfl (.cons rfl (.cons rfl (.cons rfl (.cons rfl (.cons rfl (.cons rfl (.cons rfl (.cons rfl (.cons rfl (.cons rfl (.cons rfl (.cons rfl (.cons rfl (.cons rfl (.cons rfl (.cons rfl .nil))))))))))))))))))))))))))))))))))))))))))))))))))))))))))))))))))))))))))))))))))))))))))))))))))))))
        replace hM := hM.front (k := 2) rfl
        replace hM := hM.front (k := 2) rfl
        replace hM : Mem _ _ [refO b8 b6 ((jobL l (1 + ((n13 : Int))) x1 x2 x3)) ((jobN l s (1 + ((n13 : Int))) x1 x2)) (jobO l o (1 + ((n13 : Int))) x1 x2 x3), memO m4 c5 ((jobL l (1 + ((n13 : Int))) x1 x2 x3)) ((jobN l s (1 + ((n13 : Int))) x1 x2)) (jobO l o (1 + ((n13 : Int))) x1 x2 x3), own 3 1 (.slice a18 (((jobL l (1 + ((n13 : Int))) x1 x2 x3)).length) c19) (((jobL l (1 + ((n13 : Int))) x1 x2 x3)).length) (lx.map (Value.int .i64))] _ := hM
        replace hM : Mem _ _ [refO b8 b6 ((jobL l (1 + ((n13 : Int))) x1 x2 x3)) ((jobN l s (1 + ((n13 : Int))) x1 x2)) (jobO l o (1 + ((n13 : Int))) x1 x2 x3), memO m4 c5 ((jobL l (1 + ((n13 : Int))) x1 x2 x3)) ((jobN l s (1 + ((n13 : Int))) x1 x2)) (jobO l o (1 + ((n13 : Int))) x1 x2 x3)] _ := hM.firstN 2
        exact hNext ((i + 1, (jobL l (1 + ((n13 : Int))) x1 x2 x3), (jobN l s (1 + ((n13 : Int))) x1 x2), (jobO l o (1 + ((n13 : Int))) x1 x2 x3))) _ _ ((by show 50 - (i + 1) < 50 - i; omega)) ⟨hA.sub ((.cons rfl (.cons rfl (.cons rfl (.cons rfl (.cons rfl .nil)))))), hM, (by omega), (jobL_all hall _ _ _ _ hx2 hx3), (by rw [jobL_len]; exact hlen), (by omega)⟩
    ·
      refine Ends.exit rfl ?_
      replace hA : St 231 [] a := hA.sub (.nil)
      refine Ends.seq ?_
      refine Ends.region ?_
      refine S.val hA (R.assign rfl) rfl ?_; clear hA a; intro a hA
      refine S.done ?_
      replace hA : St 231 [(4, _)] a := hA.sub ((.cons rfl .nil))
      refine Ends.ret1 Try.func14 Try.results14 hA rfl ?_
      exact ⟨rfl, hM.nilL.below⟩
  ·
    refine Ends.region ?_
    refine S.val hA (R.move rfl) rfl ?_; clear hA a; intro a hA
    refine S.val hA (R.move rfl) rfl ?_; clear hA a; intro a hA
    refine S.val hA (R.lenS Try.underlying72 rfl rfl) rfl ?_; clear hA a; intro a hA
    refine S.val hA (R.lss rfl rfl) rfl ?_; clear hA a; intro a hA
    refine S.val hA (R.move rfl) rfl ?_; clear hA a; intro a hA
    refine hA.split (d := 111) rfl ?_ ?_
    · clear hA; intro hg21 hA
      refine S.valg (dj := 111) hA (by kernel_rfl) rfl (R.move rfl) rfl ?_; clear hA a; intro a hA
      refine S.valg (dj := 111) hA (by kernel_rfl) rfl (R.lss rfl rfl) rfl ?_; clear hA a; intro a hA
      refine S.val hA (R.pickT rfl rfl) rfl ?_; clear hA a; intro a hA
      refine S.done ?_
      replace hA : St 231 [(0, _), (1, _), (11, _), (12, _), (13, _), (114, _)] a := hA.sub ((.cons rfl (.cons rfl (.cons rfl (.cons rfl (.cons rfl (.cons rfl .nil)))))))
      exact hJ _ _ ⟨hA.sub (.cons rfl (.cons rfl (.cons rfl (.cons rfl (.cons rfl (.cons (by first | rfl | exact congrArg (fun b => some (Value.bool b)) (by simp [hg21])) .nil)))))), hM⟩
    · clear hA; intro hg21 hA
      refine S.no (dj := 111) hA (by kernel_rfl) rfl rfl rfl ?_; clear hA a; intro a hA
      refine S.no (dj := 111) hA (by kernel_rfl) rfl rfl rfl ?_; clear hA a; intro a hA
      refine S.val hA (R.pickF rfl rfl) rfl ?_; clear hA a; intro a hA
      refine S.done ?_
      replace hA : St 231 [(0, _), (1, _), (11, _), (12, _), (13, _), (114, _)] a := hA.sub ((.cons rfl (.cons rfl (.cons rfl (.cons rfl (.cons rfl (.cons rfl .nil)))))))
      exact hJ _ _ ⟨hA.sub (.cons rfl (.cons rfl (.cons rfl (.cons rfl (.cons rfl (.cons (by first | rfl | exact congrArg (fun b => some (Value.bool b)) (by simp [hg21])) .nil)))))), hM⟩
theorem cellJobs_any (n : Int) (v : Value) (nr : Nat) (l : List Int) (w : World) (_hn : (Lit.int .i64 n).wf = true) (hrow : RowSl w v 4 nr l) (hl : ∀ x ∈ l, (Lit.int .i64 x).wf = true) :
    Calls Try.prog 14 #[.int .i64 n, v] w fun e w' => e = .returned (.bool true) ∧ Below w.heap.size w w' := by
  obtain ⟨ad, cap, rfl⟩ := hrow.form
  exact cellJobs_w n ad nr cap l (fun x hx => bd_i64 (hl x hx)) w hrow
end Go.Proofs.Ytlkemphhbamcfaa
