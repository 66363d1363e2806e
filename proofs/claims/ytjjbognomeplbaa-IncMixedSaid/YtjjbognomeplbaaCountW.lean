/-
  The contracts of package count: a worker leaves.
-/
import Derived.Test.YtjjbognomeplbaaCellW
import Derived.Test.YtjjbognomeplbaaEng7

namespace Go.Proofs.Ytjjbognomeplbaa
open Go.RowKit

set_option maxRecDepth 100000 in
set_option maxHeartbeats 400000 in
theorem cnt_open (q m : Nat) (bs : Int) (hbs : 0 ≤ bs ∧ bs ≤ 1000000) (w : World) (hq : w.heap[q]? = some (.cells #[.pointer (some ⟨m, 0, none⟩), .int .i64 bs] 108 (0, 0))) :
    Calls Try.prog 65 #[.pointer (some ⟨q, 0, none⟩)] w fun e w' => e = .returned (.int .i64 bs) ∧ w = w' := by
  have hM := Mem.start w
  refine Calls.of_ends (vs := [.pointer (some ⟨q, 0, none⟩)]) Try.func65 rfl Try.ntmps65 rfl ?_
  intro a hA
  replace hA : St 7 [(0, _)] a := hA
  refine Ends.seq ?_
  refine Ends.region ?_
  refine S.val hA (R.assign rfl) rfl ?_; clear hA a; intro a hA
  refine S.done ?_
  replace hA : St 7 [(0, _), (2, _)] a := hA.sub ((.cons rfl (.cons rfl .nil)))
  refine Ends.seq ?_
  refine Ends.region ?_
  refine S.val hA (R.move rfl) rfl ?_; clear hA a; intro a hA
  refine S.val hA (R.nilCheck rfl) rfl ?_; clear hA a; intro a hA
  refine S.val hA (R.fieldAddr (q := 1) fi108_1 rfl rfl rfl) rfl ?_; clear hA a; intro a hA
  refine S.val hA (R.load sz3 rfl (hM.cellB hq rfl)) rfl ?_; clear hA a; intro a hA
  refine S.val hA (R.assign rfl) rfl ?_; clear hA a; intro a hA
  refine S.done ?_
  replace hA : St 7 [(2, _)] a := hA.sub ((.cons rfl .nil))
  refine Ends.ret1 Try.func65 Try.results65 hA rfl ?_
  exact ⟨rfl, rfl⟩
set_option maxRecDepth 100000 in
set_option maxHeartbeats 400000 in
theorem cnt_working (q m : Nat) (bs : Int) (hbs : 0 ≤ bs ∧ bs ≤ 1000000) (w : World) (hq : w.heap[q]? = some (.cells #[.pointer (some ⟨m, 0, none⟩), .int .i64 bs] 108 (0, 0))) :
    Calls Try.prog 62 #[.pointer (some ⟨q, 0, none⟩)] w fun e w' => e = .returned (.int .i64 (bs + 1)) ∧ w = w' := by
  have hM := Mem.start w
  refine Calls.of_ends (vs := [.pointer (some ⟨q, 0, none⟩)]) Try.func62 rfl Try.ntmps62 rfl ?_
  intro a hA
  replace hA : St 8 [(0, _)] a := hA
  refine Ends.seq ?_
  refine Ends.region ?_
  refine S.val hA (R.assign rfl) rfl ?_; clear hA a; intro a hA
  refine S.done ?_
  replace hA : St 8 [(0, _), (2, _)] a := hA.sub ((.cons rfl (.cons rfl .nil)))
  refine Ends.seq ?_
  refine Ends.region ?_
  refine S.val hA (R.move rfl) rfl ?_; clear hA a; intro a hA
  refine S.val hA (R.nilCheck rfl) rfl ?_; clear hA a; intro a hA
  refine S.val hA (R.fieldAddr (q := 1) fi108_1 rfl rfl rfl) rfl ?_; clear hA a; intro a hA
  refine S.val hA (R.load sz3 rfl (hM.cellB hq rfl)) rfl ?_; clear hA a; intro a hA
  refine S.val hA (R.addI rfl rfl (r := bs + 1) rfl (by omega)) rfl ?_; clear hA a; intro a hA
  refine S.val hA (R.assign rfl) rfl ?_; clear hA a; intro a hA
  refine S.done ?_
  replace hA : St 8 [(2, _)] a := hA.sub ((.cons rfl .nil))
  refine Ends.ret1 Try.func62 Try.results62 hA rfl ?_
  exact ⟨rfl, rfl⟩
set_option maxRecDepth 100000 in
set_option maxHeartbeats 400000 in
theorem cact_over (p q : Nat) (hd : Int) (rd ov lf : Bool) (w : World) (hp : w.heap[p]? = some (.cells #[.pointer (some ⟨q, 0, none⟩), .bool rd, .int .i64 hd, .bool ov, .bool lf] 105 (0, 0))) :
    Calls Try.prog 16 #[.pointer (some ⟨p, 0, none⟩)] w fun e w' => e = .returned (.bool ov) ∧ w = w' := by
  have hM := Mem.start w
  refine Calls.of_ends (vs := [.pointer (some ⟨p, 0, none⟩)]) Try.func16 rfl Try.ntmps16 rfl ?_
  intro a hA
  replace hA : St 11 [(0, _)] a := hA
  refine Ends.seq ?_
  refine Ends.region ?_
  refine S.val hA (R.assign rfl) rfl ?_; clear hA a; intro a hA
  refine S.done ?_
  replace hA : St 11 [(0, _), (2, _)] a := hA.sub ((.cons rfl (.cons rfl .nil)))
  refine Ends.seq ?_
  refine Ends.region ?_
  refine S.val hA (R.move rfl) rfl ?_; clear hA a; intro a hA
  refine S.val hA (R.eqlNil Try.underlying28 rfl rfl) rfl ?_; clear hA a; intro a hA
  refine S.val hA (R.move rfl) rfl ?_; clear hA a; intro a hA
  refine S.valg (dj := 5) hA (by kernel_rfl) rfl (R.move rfl) rfl ?_; clear hA a; intro a hA
  refine S.valg (dj := 5) hA (by kernel_rfl) rfl (R.nilCheck rfl) rfl ?_; clear hA a; intro a hA
  refine S.valg (dj := 5) hA (by kernel_rfl) rfl (R.fieldAddr (q := 3) fi105_3 rfl rfl rfl) rfl ?_; clear hA a; intro a hA
  refine S.valg (dj := 5) hA (by kernel_rfl) rfl (R.load sz4 rfl (hM.cellB hp rfl)) rfl ?_; clear hA a; intro a hA
  refine S.val hA (R.pickF rfl rfl) rfl ?_; clear hA a; intro a hA
  refine S.val hA (R.assign rfl) rfl ?_; clear hA a; intro a hA
  refine S.done ?_
  replace hA : St 11 [(2, _)] a := hA.sub ((.cons rfl .nil))
  refine Ends.ret1 Try.func16 Try.results16 hA rfl ?_
  exact ⟨rfl, rfl⟩
set_option maxRecDepth 100000 in
set_option maxHeartbeats 400000 in
theorem cact_over_nil  (w : World) :
    Calls Try.prog 16 #[.pointer none] w fun e w' => e = .returned (.bool true) ∧ w = w' := by
  have hM := Mem.start w
  refine Calls.of_ends (vs := [.pointer none]) Try.func16 rfl Try.ntmps16 rfl ?_
  intro a hA
  replace hA : St 11 [(0, _)] a := hA
  refine Ends.seq ?_
  refine Ends.region ?_
  refine S.val hA (R.assign rfl) rfl ?_; clear hA a; intro a hA
  refine S.done ?_
  replace hA : St 11 [(0, _), (2, _)] a := hA.sub ((.cons rfl (.cons rfl .nil)))
  refine Ends.seq ?_
  refine Ends.region ?_
  refine S.val hA (R.move rfl) rfl ?_; clear hA a; intro a hA
  refine S.val hA (R.eqlNil Try.underlying28 rfl rfl) rfl ?_; clear hA a; intro a hA
  refine S.val hA (R.move rfl) rfl ?_; clear hA a; intro a hA
  refine S.no (dj := 5) hA (by kernel_rfl) rfl rfl rfl ?_; clear hA a; intro a hA
  refine S.no (dj := 5) hA (by kernel_rfl) rfl rfl rfl ?_; clear hA a; intro a hA
  refine S.no (dj := 5) hA (by kernel_rfl) rfl rfl rfl ?_; clear hA a; intro a hA
  refine S.no (dj := 5) hA (by kernel_rfl) rfl rfl rfl ?_; clear hA a; intro a hA
  refine S.val hA (R.pickT rfl rfl) rfl ?_; clear hA a; intro a hA
  refine S.val hA (R.assign rfl) rfl ?_; clear hA a; intro a hA
  refine S.done ?_
  replace hA : St 11 [(2, _)] a := hA.sub ((.cons rfl .nil))
  refine Ends.ret1 Try.func16 Try.results16 hA rfl ?_
  exact ⟨rfl, rfl⟩
set_option maxRecDepth 100000 in
set_option maxHeartbeats 400000 in
theorem cact_left (p q : Nat) (hd : Int) (rd ov lf : Bool) (w : World) (hp : w.heap[p]? = some (.cells #[.pointer (some ⟨q, 0, none⟩), .bool rd, .int .i64 hd, .bool ov, .bool lf] 105 (0, 0))) :
    Calls Try.prog 18 #[.pointer (some ⟨p, 0, none⟩)] w fun e w' => e = .returned (.bool lf) ∧ w = w' := by
  have hM := Mem.start w
  refine Calls.of_ends (vs := [.pointer (some ⟨p, 0, none⟩)]) Try.func18 rfl Try.ntmps18 rfl ?_
  intro a hA
  replace hA : St 11 [(0, _)] a := hA
  refine Ends.seq ?_
  refine Ends.region ?_
  refine S.val hA (R.assign rfl) rfl ?_; clear hA a; intro a hA
  refine S.done ?_
  replace hA : St 11 [(0, _), (2, _)] a := hA.sub ((.cons rfl (.cons rfl .nil)))
  refine Ends.seq ?_
  refine Ends.region ?_
  refine S.val hA (R.move rfl) rfl ?_; clear hA a; intro a hA
  refine S.val hA (R.neqNil Try.underlying28 rfl rfl) rfl ?_; clear hA a; intro a hA
  refine S.val hA (R.move rfl) rfl ?_; clear hA a; intro a hA
  refine S.valg (dj := 5) hA (by kernel_rfl) rfl (R.move rfl) rfl ?_; clear hA a; intro a hA
  refine S.valg (dj := 5) hA (by kernel_rfl) rfl (R.nilCheck rfl) rfl ?_; clear hA a; intro a hA
  refine S.valg (dj := 5) hA (by kernel_rfl) rfl (R.fieldAddr (q := 4) fi105_4 rfl rfl rfl) rfl ?_; clear hA a; intro a hA
  refine S.valg (dj := 5) hA (by kernel_rfl) rfl (R.load sz4 rfl (hM.cellB hp rfl)) rfl ?_; clear hA a; intro a hA
  refine S.val hA (R.pickT rfl rfl) rfl ?_; clear hA a; intro a hA
  refine S.val hA (R.assign rfl) rfl ?_; clear hA a; intro a hA
  refine S.done ?_
  replace hA : St 11 [(2, _)] a := hA.sub ((.cons rfl .nil))
  refine Ends.ret1 Try.func18 Try.results18 hA rfl ?_
  exact ⟨rfl, rfl⟩
set_option maxRecDepth 100000 in
set_option maxHeartbeats 400000 in
theorem cact_left_nil  (w : World) :
    Calls Try.prog 18 #[.pointer none] w fun e w' => e = .returned (.bool false) ∧ w = w' := by
  have hM := Mem.start w
  refine Calls.of_ends (vs := [.pointer none]) Try.func18 rfl Try.ntmps18 rfl ?_
  intro a hA
  replace hA : St 11 [(0, _)] a := hA
  refine Ends.seq ?_
  refine Ends.region ?_
  refine S.val hA (R.assign rfl) rfl ?_; clear hA a; intro a hA
  refine S.done ?_
  replace hA : St 11 [(0, _), (2, _)] a := hA.sub ((.cons rfl (.cons rfl .nil)))
  refine Ends.seq ?_
  refine Ends.region ?_
  refine S.val hA (R.move rfl) rfl ?_; clear hA a; intro a hA
  refine S.val hA (R.neqNil Try.underlying28 rfl rfl) rfl ?_; clear hA a; intro a hA
  refine S.val hA (R.move rfl) rfl ?_; clear hA a; intro a hA
  refine S.no (dj := 5) hA (by kernel_rfl) rfl rfl rfl ?_; clear hA a; intro a hA
  refine S.no (dj := 5) hA (by kernel_rfl) rfl rfl rfl ?_; clear hA a; intro a hA
  refine S.no (dj := 5) hA (by kernel_rfl) rfl rfl rfl ?_; clear hA a; intro a hA
  refine S.no (dj := 5) hA (by kernel_rfl) rfl rfl rfl ?_; clear hA a; intro a hA
  refine S.val hA (R.pickF rfl rfl) rfl ?_; clear hA a; intro a hA
  refine S.val hA (R.assign rfl) rfl ?_; clear hA a; intro a hA
  refine S.done ?_
  replace hA : St 11 [(2, _)] a := hA.sub ((.cons rfl .nil))
  refine Ends.ret1 Try.func18 Try.results18 hA rfl ?_
  exact ⟨rfl, rfl⟩
set_option maxRecDepth 100000 in
set_option maxHeartbeats 400000 in
theorem leave_ok (q : Nat) (w : World) :
    Calls Try.prog 15 #[.pointer (some ⟨q, 0, none⟩)] w fun e w' => ∃ p, e = .returned (.pointer (some ⟨p, 0, none⟩)) ∧ Mem w nof [pt p #[.pointer (some ⟨q, 0, none⟩), .bool false, .int .i64 0, .bool false, .bool false] 105] w' := by
  have hM := Mem.start w
  refine Calls.of_ends (vs := [.pointer (some ⟨q, 0, none⟩)]) Try.func15 rfl Try.ntmps15 rfl ?_
  intro a hA
  replace hA : St 8 [(0, _)] a := hA
  refine Ends.seq ?_
  refine Ends.region ?_
  refine S.val hA (R.assign rfl) rfl ?_; clear hA a; intro a hA
  refine S.done ?_
  replace hA : St 8 [(0, _), (2, _)] a := hA.sub ((.cons rfl (.cons rfl .nil)))
  refine Ends.seq ?_
  refine Ends.seq ?_
  refine Ends.region ?_
  refine S.val hA (R.move rfl) rfl ?_; clear hA a; intro a hA
  refine S.val hA (R.eqlNil Try.underlying23 rfl rfl) rfl ?_; clear hA a; intro a hA
  refine S.done ?_
  replace hA : St 8 [(0, _), (2, _), (4, _)] a := hA.sub ((.cons rfl (.cons rfl (.cons rfl .nil))))
  refine Ends.condF hA rfl ?_
  refine Ends.skip ?_
  refine Ends.seq ?_
  refine Ends.region ?_
  refine S.val hA (R.move rfl) rfl ?_; clear hA a; intro a hA
  refine S.val hA (R.build (cells := #[.pointer (some ⟨q, 0, none⟩), .bool false, .int .i64 0, .bool false, .bool false]) rfl (by kernel_rfl)) rfl ?_; clear hA a; intro a hA
  refine S.box hA hM rfl rfl ?_; clear hA hM a; intro b1 w1 hb2 hM a hA
  replace hM : Mem _ _ [pt b1 #[.pointer (some ⟨q, 0, none⟩), .bool false, .int .i64 0, .bool false, .bool false] 105] _ := hM
  refine S.val hA (R.assign rfl) rfl ?_; clear hA a; intro a hA
  refine S.done ?_
  replace hA : St 8 [(2, _)] a := hA.sub ((.cons rfl .nil))
  refine Ends.ret1 Try.func15 Try.results15 hA rfl ?_
  exact ⟨_, rfl, hM⟩
set_option maxRecDepth 100000 in
set_option maxHeartbeats 400000 in
theorem leave_nil  (w : World) :
    Calls Try.prog 15 #[.pointer none] w fun e w' => e = .returned (.pointer none) ∧ w = w' := by
  have hM := Mem.start w
  refine Calls.of_ends (vs := [.pointer none]) Try.func15 rfl Try.ntmps15 rfl ?_
  intro a hA
  replace hA : St 8 [(0, _)] a := hA
  refine Ends.seq ?_
  refine Ends.region ?_
  refine S.val hA (R.assign rfl) rfl ?_; clear hA a; intro a hA
  refine S.done ?_
  replace hA : St 8 [(0, _), (2, _)] a := hA.sub ((.cons rfl (.cons rfl .nil)))
  refine Ends.seq ?_
  refine Ends.seq ?_
  refine Ends.region ?_
  refine S.val hA (R.move rfl) rfl ?_; clear hA a; intro a hA
  refine S.val hA (R.eqlNil Try.underlying23 rfl rfl) rfl ?_; clear hA a; intro a hA
  refine S.done ?_
  replace hA : St 8 [(0, _), (2, _), (4, _)] a := hA.sub ((.cons rfl (.cons rfl (.cons rfl .nil))))
  refine Ends.condT hA rfl ?_
  refine Ends.seq ?_
  refine Ends.region ?_
  refine S.val hA (R.assign rfl) rfl ?_; clear hA a; intro a hA
  refine S.done ?_
  replace hA : St 8 [(0, _), (2, _)] a := hA.sub ((.cons rfl (.cons rfl .nil)))
  refine Ends.ret1 Try.func15 Try.results15 hA rfl ?_
  exact ⟨rfl, rfl⟩
set_option maxRecDepth 100000 in
set_option maxHeartbeats 400000 in
theorem cnt_Open (q m c : Nat) (bs : Int) (l : List Int) (s : Int) (o : CellOp) (hbs : 0 ≤ bs ∧ bs + 1 < l.length) (hl : l.length ≤ 1000000) (hs : 0 ≤ s ∧ s < 9223372036854775807) (hmc : m ≠ c)  (w : World) (hM : Mem w (feet [pt q #[.pointer (some ⟨m, 0, none⟩), .int .i64 bs] 108, memO m c l s o]) [pt q #[.pointer (some ⟨m, 0, none⟩), .int .i64 bs] 108, memO m c l s o] w) :
    Calls Try.prog 24 #[.pointer (some ⟨q, 0, none⟩)] w fun e w' => e = .returned (.int .i64 (l.getD bs.toNat 0)) ∧ Mem w (feet [pt q #[.pointer (some ⟨m, 0, none⟩), .int .i64 bs] 108, memO m c l s o]) [pt q #[.pointer (some ⟨m, 0, none⟩), .int .i64 bs] 108, memO m c (l.set bs.toNat (l.getD bs.toNat 0)) (s + 1) ⟨1, bs, l.getD bs.toNat 0, l.getD bs.toNat 0, true⟩] w' := by
  have hM0 : True := trivial  -- have hM
  refine Calls.of_ends (vs := [.pointer (some ⟨q, 0, none⟩)]) Try.func24 rfl Try.ntmps24 rfl ?_
  intro a hA
  replace hA : St 18 [(0, _)] a := hA
  refine Ends.seq ?_
  refine Ends.region ?_
  refine S.val hA (R.assign rfl) rfl ?_; clear hA a; intro a hA
  refine S.done ?_
  replace hA : St 18 [(0, _), (2, _)] a := hA.sub ((.cons rfl (.cons rfl .nil)))
  refine Ends.seq ?_
  refine Ends.seq ?_
  refine Ends.region ?_
  refine S.val hA (R.move rfl) rfl ?_; clear hA a; intro a hA
  refine S.val hA (R.eqlNil Try.underlying23 rfl rfl) rfl ?_; clear hA a; intro a hA
  refine S.done ?_
  replace hA : St 18 [(0, _), (2, _), (6, _)] a := hA.sub ((.cons rfl (.cons rfl (.cons rfl .nil))))
  refine Ends.condF hA rfl ?_
  refine Ends.skip ?_
  refine Ends.seq ?_
  refine Ends.drawn (Mem w (feet [pt q #[.pointer (some ⟨m, 0, none⟩), .int .i64 bs] 108, memO m c l s o]) [pt q #[.pointer (some ⟨m, 0, none⟩), .int .i64 bs] 108]) [(0, true), (1, true), (2, true), (3, true), (4, true), (5, false), (6, false), (7, true), (8, true), (9, true), (10, true), (11, true)] 12 mixed (by kernel_rfl) (by kernel_rfl) (by kernel_rfl) (hM.drop 1).drew ?_
  replace hM := hM.drew
  refine D.valF hA rfl (fun _ => R.move rfl) rfl ?_; clear hA a; intro a hA
  refine D.valF hA rfl (fun _ => R.nilCheck rfl) rfl ?_; clear hA a; intro a hA
  refine D.valF hA rfl (fun _ => R.fieldAddr (q := 0) fi108_0 rfl rfl rfl) rfl ?_; clear hA a; intro a hA
  refine D.val hA rfl (by kernel_rfl) (fun _ hM => R.load sz24 rfl (hM.cell (k := 0) rfl rfl)) rfl ?_; clear hA a; intro a hA
  refine D.valF hA rfl (fun _ => R.move rfl) rfl ?_; clear hA a; intro a hA
  refine D.call hA rfl (R.callF Try.func65 rfl rfl rfl) rfl (cnt_open q m bs (by omega) _ (hM.block (k := 0) rfl)) ?_; clear hA a
  rintro e w1 ⟨rfl, rfl⟩
  refine ⟨.int .i64 bs, rfl, (hM.drop 1), fun a hA => ?_⟩
  refine D.call hA rfl (R.callF Try.func63 rfl rfl rfl) rfl (get_ok m c l s o hmc bs (by omega) (by omega) (by omega) _ (hM.mem (k := 1) rfl)) ?_; clear hA a
  rintro e w2 ⟨rfl, hn⟩
  replace hM : Mem _ _ [memO m c ((l.set bs.toNat (l.getD bs.toNat 0))) (s + 1) ⟨1, bs, l.getD bs.toNat 0, l.getD bs.toNat 0, true⟩, pt q #[.pointer (some ⟨m, 0, none⟩), .int .i64 bs] 108] _ := hM.callW (k := 1) rfl hn (fun _ h => h); clear hn
  refine ⟨.tuple #[.int .i64 (l.getD bs.toNat 0), .int .i64 0], rfl, (hM.drop 0), fun a hA => ?_⟩
  refine D.valF hA rfl (fun _ => R.move rfl) rfl ?_; clear hA a; intro a hA
  refine D.valF hA rfl (fun _ => R.extract (v := .int .i64 (l.getD bs.toNat 0)) rfl rfl) rfl ?_; clear hA a; intro a hA
  refine D.valF hA rfl (fun _ => R.extract (v := .int .i64 0) rfl rfl) rfl ?_; clear hA a; intro a hA
  refine D.valF hA rfl (fun _ => R.assign rfl) rfl ?_; clear hA a; intro a hA
  refine D.valF hA rfl (fun _ => R.assign rfl) rfl ?_; clear hA a; intro a hA
  refine D.done ?_
  replace hA : St 18 [(2, _), (3, _)] a := hA.sub ((.cons rfl (.cons rfl .nil)))
  refine Ends.seq ?_
  refine Ends.region ?_
  refine S.val hA (R.move rfl) rfl ?_; clear hA a; intro a hA
  refine S.val hA (R.assign rfl) rfl ?_; clear hA a; intro a hA
  refine S.done ?_
  replace hA : St 18 [(2, _)] a := hA.sub ((.cons rfl .nil))
  refine Ends.ret1 Try.func24 Try.results24 hA rfl ?_
  replace hM := hM.front (k := 1) rfl
  replace hM : Mem _ _ [pt q #[.pointer (some ⟨m, 0, none⟩), .int .i64 bs] 108, memO m c ((l.set bs.toNat (l.getD bs.toNat 0))) (s + 1) ⟨1, bs, l.getD bs.toNat 0, l.getD bs.toNat 0, true⟩] _ := hM
  exact ⟨rfl, hM⟩
set_option maxRecDepth 100000 in
set_option maxHeartbeats 400000 in
theorem cnt_Working (q m c : Nat) (bs : Int) (l : List Int) (s : Int) (o : CellOp) (hbs : 0 ≤ bs ∧ bs + 1 < l.length) (hl : l.length ≤ 1000000) (hs : 0 ≤ s ∧ s < 9223372036854775807) (hmc : m ≠ c)  (w : World) (hM : Mem w (feet [pt q #[.pointer (some ⟨m, 0, none⟩), .int .i64 bs] 108, memO m c l s o]) [pt q #[.pointer (some ⟨m, 0, none⟩), .int .i64 bs] 108, memO m c l s o] w) :
    Calls Try.prog 25 #[.pointer (some ⟨q, 0, none⟩)] w fun e w' => e = .returned (.int .i64 (l.getD (bs + 1).toNat 0)) ∧ Mem w (feet [pt q #[.pointer (some ⟨m, 0, none⟩), .int .i64 bs] 108, memO m c l s o]) [pt q #[.pointer (some ⟨m, 0, none⟩), .int .i64 bs] 108, memO m c (l.set (bs + 1).toNat (l.getD (bs + 1).toNat 0)) (s + 1) ⟨1, bs + 1, l.getD (bs + 1).toNat 0, l.getD (bs + 1).toNat 0, true⟩] w' := by
  have hM0 : True := trivial  -- have hM
  refine Calls.of_ends (vs := [.pointer (some ⟨q, 0, none⟩)]) Try.func25 rfl Try.ntmps25 rfl ?_
  intro a hA
  replace hA : St 18 [(0, _)] a := hA
  refine Ends.seq ?_
  refine Ends.region ?_
  refine S.val hA (R.assign rfl) rfl ?_; clear hA a; intro a hA
  refine S.done ?_
  replace hA : St 18 [(0, _), (2, _)] a := hA.sub ((.cons rfl (.cons rfl .nil)))
  refine Ends.seq ?_
  refine Ends.seq ?_
  refine Ends.region ?_
  refine S.val hA (R.move rfl) rfl ?_; clear hA a; intro a hA
  refine S.val hA (R.eqlNil Try.underlying23 rfl rfl) rfl ?_; clear hA a; intro a hA
  refine S.done ?_
  replace hA : St 18 [(0, _), (2, _), (6, _)] a := hA.sub ((.cons rfl (.cons rfl (.cons rfl .nil))))
  refine Ends.condF hA rfl ?_
  refine Ends.skip ?_
  refine Ends.seq ?_
  refine Ends.drawn (Mem w (feet [pt q #[.pointer (some ⟨m, 0, none⟩), .int .i64 bs] 108, memO m c l s o]) [pt q #[.pointer (some ⟨m, 0, none⟩), .int .i64 bs] 108]) [(0, true), (1, true), (2, true), (3, true), (4, true), (5, false), (6, false), (7, true), (8, true), (9, true), (10, true), (11, true)] 12 mixed (by kernel_rfl) (by kernel_rfl) (by kernel_rfl) (hM.drop 1).drew ?_
  replace hM := hM.drew
  refine D.valF hA rfl (fun _ => R.move rfl) rfl ?_; clear hA a; intro a hA
  refine D.valF hA rfl (fun _ => R.nilCheck rfl) rfl ?_; clear hA a; intro a hA
  refine D.valF hA rfl (fun _ => R.fieldAddr (q := 0) fi108_0 rfl rfl rfl) rfl ?_; clear hA a; intro a hA
  refine D.val hA rfl (by kernel_rfl) (fun _ hM => R.load sz24 rfl (hM.cell (k := 0) rfl rfl)) rfl ?_; clear hA a; intro a hA
  refine D.valF hA rfl (fun _ => R.move rfl) rfl ?_; clear hA a; intro a hA
  refine D.call hA rfl (R.callF Try.func62 rfl rfl rfl) rfl (cnt_working q m bs (by omega) _ (hM.block (k := 0) rfl)) ?_; clear hA a
  rintro e w1 ⟨rfl, rfl⟩
  refine ⟨.int .i64 (bs + 1), rfl, (hM.drop 1), fun a hA => ?_⟩
  refine D.call hA rfl (R.callF Try.func63 rfl rfl rfl) rfl (get_ok m c l s o hmc (bs + 1) (by omega) (by omega) (by omega) _ (hM.mem (k := 1) rfl)) ?_; clear hA a
  rintro e w2 ⟨rfl, hn⟩
  replace hM : Mem _ _ [memO m c ((l.set (bs + 1).toNat (l.getD (bs + 1).toNat 0))) (s + 1) ⟨1, bs + 1, l.getD (bs + 1).toNat 0, l.getD (bs + 1).toNat 0, true⟩, pt q #[.pointer (some ⟨m, 0, none⟩), .int .i64 bs] 108] _ := hM.callW (k := 1) rfl hn (fun _ h => h); clear hn
  refine ⟨.tuple #[.int .i64 (l.getD (bs + 1).toNat 0), .int .i64 0], rfl, (hM.drop 0), fun a hA => ?_⟩
  refine D.valF hA rfl (fun _ => R.move rfl) rfl ?_; clear hA a; intro a hA
  refine D.valF hA rfl (fun _ => R.extract (v := .int .i64 (l.getD (bs + 1).toNat 0)) rfl rfl) rfl ?_; clear hA a; intro a hA
  refine D.valF hA rfl (fun _ => R.extract (v := .int .i64 0) rfl rfl) rfl ?_; clear hA a; intro a hA
  refine D.valF hA rfl (fun _ => R.assign rfl) rfl ?_; clear hA a; intro a hA
  refine D.valF hA rfl (fun _ => R.assign rfl) rfl ?_; clear hA a; intro a hA
  refine D.done ?_
  replace hA : St 18 [(2, _), (3, _)] a := hA.sub ((.cons rfl (.cons rfl .nil)))
  refine Ends.seq ?_
  refine Ends.region ?_
  refine S.val hA (R.move rfl) rfl ?_; clear hA a; intro a hA
  refine S.val hA (R.assign rfl) rfl ?_; clear hA a; intro a hA
  refine S.done ?_
  replace hA : St 18 [(2, _)] a := hA.sub ((.cons rfl .nil))
  refine Ends.ret1 Try.func25 Try.results25 hA rfl ?_
  replace hM := hM.front (k := 1) rfl
  replace hM : Mem _ _ [pt q #[.pointer (some ⟨m, 0, none⟩), .int .i64 bs] 108, memO m c ((l.set (bs + 1).toNat (l.getD (bs + 1).toNat 0))) (s + 1) ⟨1, bs + 1, l.getD (bs + 1).toNat 0, l.getD (bs + 1).toNat 0, true⟩] _ := hM
  exact ⟨rfl, hM⟩
set_option maxRecDepth 100000 in
set_option maxHeartbeats 400000 in
theorem cnt_Now (q m c : Nat) (bs : Int) (l : List Int) (s : Int) (o : CellOp) (hbs : 0 ≤ bs ∧ bs + 1 < l.length) (hl : l.length ≤ 1000000) (hs : 0 ≤ s ∧ s < 9223372036854775807) (hmc : m ≠ c)  (w : World) (hM : Mem w (feet [pt q #[.pointer (some ⟨m, 0, none⟩), .int .i64 bs] 108, memO m c l s o]) [pt q #[.pointer (some ⟨m, 0, none⟩), .int .i64 bs] 108, memO m c l s o] w) :
    Calls Try.prog 19 #[.pointer (some ⟨q, 0, none⟩)] w fun e w' => e = .returned (.tuple #[.int .i64 (l.getD bs.toNat 0), .int .i64 (l.getD (bs + 1).toNat 0)]) ∧ Mem w (feet [pt q #[.pointer (some ⟨m, 0, none⟩), .int .i64 bs] 108, memO m c l s o]) [pt q #[.pointer (some ⟨m, 0, none⟩), .int .i64 bs] 108, memO m c l s o] w' := by
  have hM0 : True := trivial  -- have hM
  refine Calls.of_ends (vs := [.pointer (some ⟨q, 0, none⟩)]) Try.func19 rfl Try.ntmps19 rfl ?_
  intro a hA
  replace hA : St 20 [(0, _)] a := hA
  refine Ends.seq ?_
  refine Ends.region ?_
  refine S.val hA (R.assign rfl) rfl ?_; clear hA a; intro a hA
  refine S.val hA (R.assign rfl) rfl ?_; clear hA a; intro a hA
  refine S.done ?_
  replace hA : St 20 [(0, _), (2, _), (3, _)] a := hA.sub ((.cons rfl (.cons rfl (.cons rfl .nil))))
  refine Ends.seq ?_
  refine Ends.seq ?_
  refine Ends.region ?_
  refine S.val hA (R.move rfl) rfl ?_; clear hA a; intro a hA
  refine S.val hA (R.eqlNil Try.underlying23 rfl rfl) rfl ?_; clear hA a; intro a hA
  refine S.done ?_
  replace hA : St 20 [(0, _), (2, _), (3, _), (5, _)] a := hA.sub ((.cons rfl (.cons rfl (.cons rfl (.cons rfl .nil)))))
  refine Ends.condF hA rfl ?_
  refine Ends.skip ?_
  refine Ends.seq ?_
  refine Ends.drawn (Mem w (feet [pt q #[.pointer (some ⟨m, 0, none⟩), .int .i64 bs] 108, memO m c l s o]) [pt q #[.pointer (some ⟨m, 0, none⟩), .int .i64 bs] 108]) [(0, true), (1, true), (2, true), (3, true), (4, true), (7, true), (8, true), (9, true), (10, true), (11, true), (5, false), (6, false), (12, false), (13, false), (14, true), (15, true)] 16 mixed (by kernel_rfl) (by kernel_rfl) (by kernel_rfl) (hM.drop 1).drew ?_
  replace hM := hM.drew
  refine D.valF hA rfl (fun _ => R.move rfl) rfl ?_; clear hA a; intro a hA
  refine D.valF hA rfl (fun _ => R.nilCheck rfl) rfl ?_; clear hA a; intro a hA
  refine D.valF hA rfl (fun _ => R.fieldAddr (q := 0) fi108_0 rfl rfl rfl) rfl ?_; clear hA a; intro a hA
  refine D.val hA rfl (by kernel_rfl) (fun _ hM => R.load sz24 rfl (hM.cell (k := 0) rfl rfl)) rfl ?_; clear hA a; intro a hA
  refine D.valF hA rfl (fun _ => R.move rfl) rfl ?_; clear hA a; intro a hA
  refine D.valF hA rfl (fun _ => R.move rfl) rfl ?_; clear hA a; intro a hA
  refine D.valF hA rfl (fun _ => R.nilCheck rfl) rfl ?_; clear hA a; intro a hA
  refine D.valF hA rfl (fun _ => R.fieldAddr (q := 0) fi108_0 rfl rfl rfl) rfl ?_; clear hA a; intro a hA
  refine D.val hA rfl (by kernel_rfl) (fun _ hM => R.load sz24 rfl (hM.cell (k := 0) rfl rfl)) rfl ?_; clear hA a; intro a hA
  refine D.valF hA rfl (fun _ => R.move rfl) rfl ?_; clear hA a; intro a hA
  refine D.call hA rfl (R.callF Try.func65 rfl rfl rfl) rfl (cnt_open q m bs (by omega) _ (hM.block (k := 0) rfl)) ?_; clear hA a
  rintro e w1 ⟨rfl, rfl⟩
  refine ⟨.int .i64 bs, rfl, (hM.drop 1), fun a hA => ?_⟩
  refine D.call hA rfl (R.callF Try.func64 rfl rfl rfl) rfl (peek_ok m c l s o hmc bs (by omega) (by omega) _ (hM.mem (k := 1) rfl)) ?_; clear hA a
  rintro e w2 ⟨rfl, rfl⟩
  refine ⟨.int .i64 (l.getD bs.toNat 0), rfl, (hM.drop 1), fun a hA => ?_⟩
  refine D.call hA rfl (R.callF Try.func62 rfl rfl rfl) rfl (cnt_working q m bs (by omega) _ (hM.block (k := 0) rfl)) ?_; clear hA a
  rintro e w3 ⟨rfl, rfl⟩
  refine ⟨.int .i64 (bs + 1), rfl, (hM.drop 1), fun a hA => ?_⟩
  refine D.call hA rfl (R.callF Try.func64 rfl rfl rfl) rfl (peek_ok m c l s o hmc (bs + 1) (by omega) (by omega) _ (hM.mem (k := 1) rfl)) ?_; clear hA a
  rintro e w4 ⟨rfl, rfl⟩
  refine ⟨.int .i64 (l.getD (bs + 1).toNat 0), rfl, (hM.drop 1), fun a hA => ?_⟩
  refine D.valF hA rfl (fun _ => R.assign rfl) rfl ?_; clear hA a; intro a hA
  refine D.valF hA rfl (fun _ => R.assign rfl) rfl ?_; clear hA a; intro a hA
  refine D.done ?_
  replace hA : St 20 [(2, _), (3, _)] a := hA.sub ((.cons rfl (.cons rfl .nil)))
  refine Ends.ret2 Try.func19 Try.results19 hA rfl rfl ?_
  exact ⟨rfl, hM⟩
set_option maxRecDepth 100000 in
set_option maxHeartbeats 400000 in
theorem cnt_open_nil  (w : World) :
    Calls Try.prog 24 #[.pointer none] w fun e w' => e = .returned (.int .i64 0) ∧ w = w' := by
  have hM := Mem.start w
  refine Calls.of_ends (vs := [.pointer none]) Try.func24 rfl Try.ntmps24 rfl ?_
  intro a hA
  replace hA : St 18 [(0, _)] a := hA
  refine Ends.seq ?_
  refine Ends.region ?_
  refine S.val hA (R.assign rfl) rfl ?_; clear hA a; intro a hA
  refine S.done ?_
  replace hA : St 18 [(0, _), (2, _)] a := hA.sub ((.cons rfl (.cons rfl .nil)))
  refine Ends.seq ?_
  refine Ends.seq ?_
  refine Ends.region ?_
  refine S.val hA (R.move rfl) rfl ?_; clear hA a; intro a hA
  refine S.val hA (R.eqlNil Try.underlying23 rfl rfl) rfl ?_; clear hA a; intro a hA
  refine S.done ?_
  replace hA : St 18 [(0, _), (2, _), (6, _)] a := hA.sub ((.cons rfl (.cons rfl (.cons rfl .nil))))
  refine Ends.condT hA rfl ?_
  refine Ends.seq ?_
  refine Ends.region ?_
  refine S.val hA (R.assign rfl) rfl ?_; clear hA a; intro a hA
  refine S.done ?_
  replace hA : St 18 [(0, _), (2, _)] a := hA.sub ((.cons rfl (.cons rfl .nil)))
  refine Ends.ret1 Try.func24 Try.results24 hA rfl ?_
  exact ⟨rfl, rfl⟩
set_option maxRecDepth 100000 in
set_option maxHeartbeats 400000 in
theorem cnt_working_nil  (w : World) :
    Calls Try.prog 25 #[.pointer none] w fun e w' => e = .returned (.int .i64 0) ∧ w = w' := by
  have hM := Mem.start w
  refine Calls.of_ends (vs := [.pointer none]) Try.func25 rfl Try.ntmps25 rfl ?_
  intro a hA
  replace hA : St 18 [(0, _)] a := hA
  refine Ends.seq ?_
  refine Ends.region ?_
  refine S.val hA (R.assign rfl) rfl ?_; clear hA a; intro a hA
  refine S.done ?_
  replace hA : St 18 [(0, _), (2, _)] a := hA.sub ((.cons rfl (.cons rfl .nil)))
  refine Ends.seq ?_
  refine Ends.seq ?_
  refine Ends.region ?_
  refine S.val hA (R.move rfl) rfl ?_; clear hA a; intro a hA
  refine S.val hA (R.eqlNil Try.underlying23 rfl rfl) rfl ?_; clear hA a; intro a hA
  refine S.done ?_
  replace hA : St 18 [(0, _), (2, _), (6, _)] a := hA.sub ((.cons rfl (.cons rfl (.cons rfl .nil))))
  refine Ends.condT hA rfl ?_
  refine Ends.seq ?_
  refine Ends.region ?_
  refine S.val hA (R.assign rfl) rfl ?_; clear hA a; intro a hA
  refine S.done ?_
  replace hA : St 18 [(0, _), (2, _)] a := hA.sub ((.cons rfl (.cons rfl .nil)))
  refine Ends.ret1 Try.func25 Try.results25 hA rfl ?_
  exact ⟨rfl, rfl⟩
set_option maxRecDepth 100000 in
set_option maxHeartbeats 400000 in
theorem cnt_now_nil  (w : World) :
    Calls Try.prog 19 #[.pointer none] w fun e w' => e = .returned (.tuple #[.int .i64 0, .int .i64 0]) ∧ w = w' := by
  have hM := Mem.start w
  refine Calls.of_ends (vs := [.pointer none]) Try.func19 rfl Try.ntmps19 rfl ?_
  intro a hA
  replace hA : St 20 [(0, _)] a := hA
  refine Ends.seq ?_
  refine Ends.region ?_
  refine S.val hA (R.assign rfl) rfl ?_; clear hA a; intro a hA
  refine S.val hA (R.assign rfl) rfl ?_; clear hA a; intro a hA
  refine S.done ?_
  replace hA : St 20 [(0, _), (2, _), (3, _)] a := hA.sub ((.cons rfl (.cons rfl (.cons rfl .nil))))
  refine Ends.seq ?_
  refine Ends.seq ?_
  refine Ends.region ?_
  refine S.val hA (R.move rfl) rfl ?_; clear hA a; intro a hA
  refine S.val hA (R.eqlNil Try.underlying23 rfl rfl) rfl ?_; clear hA a; intro a hA
  refine S.done ?_
  replace hA : St 20 [(0, _), (2, _), (3, _), (5, _)] a := hA.sub ((.cons rfl (.cons rfl (.cons rfl (.cons rfl .nil)))))
  refine Ends.condT hA rfl ?_
  refine Ends.seq ?_
  refine Ends.region ?_
  refine S.val hA (R.assign rfl) rfl ?_; clear hA a; intro a hA
  refine S.val hA (R.assign rfl) rfl ?_; clear hA a; intro a hA
  refine S.done ?_
  replace hA : St 20 [(0, _), (2, _), (3, _)] a := hA.sub ((.cons rfl (.cons rfl (.cons rfl .nil))))
  refine Ends.ret2 Try.func19 Try.results19 hA rfl rfl ?_
  exact ⟨rfl, rfl⟩
set_option maxRecDepth 100000 in
set_option maxHeartbeats 400000 in
theorem cnt_more_nil (n : Int) (w : World) :
    Calls Try.prog 23 #[.pointer none, .int .i64 n] w fun e w' => e = .returned (.tuple #[]) ∧ w = w' := by
  have hM := Mem.start w
  refine Calls.of_ends (vs := [.pointer none, .int .i64 n]) Try.func23 rfl Try.ntmps23 rfl ?_
  intro a hA
  replace hA : St 14 [(0, _), (1, _)] a := hA
  refine Ends.seq ?_
  refine Ends.region ?_
  refine S.val hA (R.move rfl) rfl ?_; clear hA a; intro a hA
  refine S.val hA (R.neqNil Try.underlying23 rfl rfl) rfl ?_; clear hA a; intro a hA
  refine S.done ?_
  replace hA : St 14 [(0, _), (1, _), (5, _)] a := hA.sub ((.cons rfl (.cons rfl (.cons rfl .nil))))
  refine Ends.condF hA rfl ?_
  refine Ends.skip ?_
  refine Ends.end0 Try.func23 Try.results23 hA ?_
  exact ⟨rfl, rfl⟩
set_option maxRecDepth 100000 in
set_option maxHeartbeats 400000 in
theorem cstep_nil  (w : World) :
    Calls Try.prog 17 #[.pointer none] w fun e w' => e = .returned (.bool true) ∧ w = w' := by
  have hM := Mem.start w
  refine Calls.of_ends (vs := [.pointer none]) Try.func17 rfl Try.ntmps17 rfl ?_
  intro a hA
  replace hA : St 88 [(0, _)] a := hA
  refine Ends.seq ?_
  refine Ends.region ?_
  refine S.val hA (R.assign rfl) rfl ?_; clear hA a; intro a hA
  refine S.done ?_
  replace hA : St 88 [(0, _), (2, _)] a := hA.sub ((.cons rfl (.cons rfl .nil)))
  refine Ends.seq ?_
  refine Ends.block ?_
  refine Ends.seq ?_
  refine Ends.region ?_
  refine S.val hA (R.move rfl) rfl ?_; clear hA a; intro a hA
  refine S.val hA (R.eqlNil Try.underlying28 rfl rfl) rfl ?_; clear hA a; intro a hA
  refine S.val hA (R.assign rfl) rfl ?_; clear hA a; intro a hA
  refine S.done ?_
  replace hA : St 88 [(0, _), (2, _), (33, _)] a := hA.sub ((.cons rfl (.cons rfl (.cons rfl .nil))))
  refine Ends.condT hA rfl ?_
  refine Ends.seq ?_
  refine Ends.region ?_
  refine S.val hA (R.assign rfl) rfl ?_; clear hA a; intro a hA
  refine S.done ?_
  replace hA : St 88 [(0, _), (2, _)] a := hA.sub ((.cons rfl (.cons rfl .nil)))
  refine Ends.ret1 Try.func17 Try.results17 hA rfl ?_
  exact ⟨rfl, rfl⟩
set_option maxRecDepth 100000 in
set_option maxHeartbeats 400000 in
theorem cstep_over (q m c : Nat) (bs : Int) (l : List Int) (s : Int) (o : CellOp) (hbs : 0 ≤ bs ∧ bs + 1 < l.length) (hl : l.length ≤ 1000000) (hs : 0 ≤ s ∧ s < 9223372036854775807) (hmc : m ≠ c) (p : Nat) (hd : Int) (rd lf : Bool) (w : World) (hM : Mem w (feet [pt p #[.pointer (some ⟨q, 0, none⟩), .bool rd, .int .i64 hd, .bool true, .bool lf] 105, pt q #[.pointer (some ⟨m, 0, none⟩), .int .i64 bs] 108, memO m c l s o]) [pt p #[.pointer (some ⟨q, 0, none⟩), .bool rd, .int .i64 hd, .bool true, .bool lf] 105, pt q #[.pointer (some ⟨m, 0, none⟩), .int .i64 bs] 108, memO m c l s o] w) :
    Calls Try.prog 17 #[.pointer (some ⟨p, 0, none⟩)] w fun e w' => e = .returned (.bool true) ∧ Mem w (feet [pt p #[.pointer (some ⟨q, 0, none⟩), .bool rd, .int .i64 hd, .bool true, .bool lf] 105, pt q #[.pointer (some ⟨m, 0, none⟩), .int .i64 bs] 108, memO m c l s o]) [pt p #[.pointer (some ⟨q, 0, none⟩), .bool rd, .int .i64 hd, .bool true, .bool lf] 105, pt q #[.pointer (some ⟨m, 0, none⟩), .int .i64 bs] 108, memO m c l s o] w' := by
  have hM0 : True := trivial  -- have hM
  refine Calls.of_ends (vs := [.pointer (some ⟨p, 0, none⟩)]) Try.func17 rfl Try.ntmps17 rfl ?_
  intro a hA
  replace hA : St 88 [(0, _)] a := hA
  refine Ends.seq ?_
  refine Ends.region ?_
  refine S.val hA (R.assign rfl) rfl ?_; clear hA a; intro a hA
  refine S.done ?_
  replace hA : St 88 [(0, _), (2, _)] a := hA.sub ((.cons rfl (.cons rfl .nil)))
  refine Ends.seq ?_
  refine Ends.block ?_
  refine Ends.seq ?_
  refine Ends.region ?_
  refine S.val hA (R.move rfl) rfl ?_; clear hA a; intro a hA
  refine S.val hA (R.eqlNil Try.underlying28 rfl rfl) rfl ?_; clear hA a; intro a hA
  refine S.val hA (R.assign rfl) rfl ?_; clear hA a; intro a hA
  refine S.done ?_
  replace hA : St 88 [(0, _), (2, _), (33, _)] a := hA.sub ((.cons rfl (.cons rfl (.cons rfl .nil))))
  refine Ends.condF hA rfl ?_
  refine Ends.seq ?_
  refine Ends.region ?_
  refine S.val hA (R.move rfl) rfl ?_; clear hA a; intro a hA
  refine S.val hA (R.nilCheck rfl) rfl ?_; clear hA a; intro a hA
  refine S.val hA (R.fieldAddr (q := 3) fi105_3 rfl rfl rfl) rfl ?_; clear hA a; intro a hA
  refine S.val hA (R.load sz4 rfl (hM.cell (k := 0) rfl rfl)) rfl ?_; clear hA a; intro a hA
  refine S.val hA (R.assign rfl) rfl ?_; clear hA a; intro a hA
  refine S.done ?_
  replace hA : St 88 [(0, _), (2, _), (36, _)] a := hA.sub ((.cons rfl (.cons rfl (.cons rfl .nil))))
  refine Ends.condT hA rfl ?_
  refine Ends.skip ?_
  refine Ends.inBlock ?_
  refine Ends.seq ?_
  refine Ends.region ?_
  refine S.val hA (R.move rfl) rfl ?_; clear hA a; intro a hA
  refine S.val hA (R.nilCheck rfl) rfl ?_; clear hA a; intro a hA
  refine S.val hA (R.fieldAddr (q := 3) fi105_3 rfl rfl rfl) rfl ?_; clear hA a; intro a hA
  refine S.val hA (R.load sz4 rfl (hM.cell (k := 0) rfl rfl)) rfl ?_; clear hA a; intro a hA
  refine S.val hA (R.assign rfl) rfl ?_; clear hA a; intro a hA
  refine S.done ?_
  replace hA : St 88 [(2, _)] a := hA.sub ((.cons rfl .nil))
  refine Ends.ret1 Try.func17 Try.results17 hA rfl ?_
  exact ⟨rfl, hM⟩
set_option maxRecDepth 100000 in
set_option maxHeartbeats 400000 in
theorem cstep_look_last (q m c : Nat) (bs : Int) (l : List Int) (s : Int) (o : CellOp) (hbs : 0 ≤ bs ∧ bs + 1 < l.length) (hl : l.length ≤ 1000000) (hs : 0 ≤ s ∧ s < 9223372036854775807) (hmc : m ≠ c) (p : Nat) (hd : Int) (lf : Bool) (hv : l.getD (bs + 1).toNat 0 ≤ 1) (w : World) (hM : Mem w (feet [pt p #[.pointer (some ⟨q, 0, none⟩), .bool false, .int .i64 hd, .bool false, .bool lf] 105, pt q #[.pointer (some ⟨m, 0, none⟩), .int .i64 bs] 108, memO m c l s o]) [pt p #[.pointer (some ⟨q, 0, none⟩), .bool false, .int .i64 hd, .bool false, .bool lf] 105, pt q #[.pointer (some ⟨m, 0, none⟩), .int .i64 bs] 108, memO m c l s o] w) :
    Calls Try.prog 17 #[.pointer (some ⟨p, 0, none⟩)] w fun e w' => e = .returned (.bool true) ∧ Mem w (feet [pt p #[.pointer (some ⟨q, 0, none⟩), .bool false, .int .i64 hd, .bool false, .bool lf] 105, pt q #[.pointer (some ⟨m, 0, none⟩), .int .i64 bs] 108, memO m c l s o]) [pt p #[.pointer (some ⟨q, 0, none⟩), .bool true, .int .i64 (l.getD (bs + 1).toNat 0), .bool true, .bool lf] 105, pt q #[.pointer (some ⟨m, 0, none⟩), .int .i64 bs] 108, memO m c (l.set (bs + 1).toNat (l.getD (bs + 1).toNat 0)) (s + 1) ⟨1, bs + 1, l.getD (bs + 1).toNat 0, l.getD (bs + 1).toNat 0, true⟩] w' := by
  have hM0 : True := trivial  -- have hM
  refine Calls.of_ends (vs := [.pointer (some ⟨p, 0, none⟩)]) Try.func17 rfl Try.ntmps17 rfl ?_
  intro a hA
  replace hA : St 88 [(0, _)] a := hA
  refine Ends.seq ?_
  refine Ends.region ?_
  refine S.val hA (R.assign rfl) rfl ?_; clear hA a; intro a hA
  refine S.done ?_
  replace hA : St 88 [(0, _), (2, _)] a := hA.sub ((.cons rfl (.cons rfl .nil)))
  refine Ends.seq ?_
  refine Ends.block ?_
  refine Ends.seq ?_
  refine Ends.region ?_
  refine S.val hA (R.move rfl) rfl ?_; clear hA a; intro a hA
  refine S.val hA (R.eqlNil Try.underlying28 rfl rfl) rfl ?_; clear hA a; intro a hA
  refine S.val hA (R.assign rfl) rfl ?_; clear hA a; intro a hA
  refine S.done ?_
  replace hA : St 88 [(0, _), (2, _), (33, _)] a := hA.sub ((.cons rfl (.cons rfl (.cons rfl .nil))))
  refine Ends.condF hA rfl ?_
  refine Ends.seq ?_
  refine Ends.region ?_
  refine S.val hA (R.move rfl) rfl ?_; clear hA a; intro a hA
  refine S.val hA (R.nilCheck rfl) rfl ?_; clear hA a; intro a hA
  refine S.val hA (R.fieldAddr (q := 3) fi105_3 rfl rfl rfl) rfl ?_; clear hA a; intro a hA
  refine S.val hA (R.load sz4 rfl (hM.cell (k := 0) rfl rfl)) rfl ?_; clear hA a; intro a hA
  refine S.val hA (R.assign rfl) rfl ?_; clear hA a; intro a hA
  refine S.done ?_
  replace hA : St 88 [(0, _), (2, _), (36, _)] a := hA.sub ((.cons rfl (.cons rfl (.cons rfl .nil))))
  refine Ends.condF hA rfl ?_
  refine Ends.seq ?_
  refine Ends.region ?_
  refine S.val hA (R.move rfl) rfl ?_; clear hA a; intro a hA
  refine S.val hA (R.nilCheck rfl) rfl ?_; clear hA a; intro a hA
  refine S.val hA (R.fieldAddr (q := 1) fi105_1 rfl rfl rfl) rfl ?_; clear hA a; intro a hA
  refine S.val hA (R.load sz4 rfl (hM.cell (k := 0) rfl rfl)) rfl ?_; clear hA a; intro a hA
  refine S.val hA (R.assign rfl) rfl ?_; clear hA a; intro a hA
  refine S.done ?_
  replace hA : St 88 [(0, _), (2, _), (41, _)] a := hA.sub ((.cons rfl (.cons rfl (.cons rfl .nil))))
  refine Ends.condF hA rfl ?_
  refine Ends.seq ?_
  refine Ends.drawn (Mem w (feet [pt p #[.pointer (some ⟨q, 0, none⟩), .bool false, .int .i64 hd, .bool false, .bool lf] 105, pt q #[.pointer (some ⟨m, 0, none⟩), .int .i64 bs] 108, memO m c l s o]) [pt p #[.pointer (some ⟨q, 0, none⟩), .bool false, .int .i64 hd, .bool false, .bool lf] 105, pt q #[.pointer (some ⟨m, 0, none⟩), .int .i64 bs] 108]) [(0, true), (1, true), (2, true), (3, true), (4, true), (5, true), (6, true), (7, true), (8, true), (9, true), (10, true), (11, true), (12, false), (13, false), (14, true), (15, true), (16, true), (17, true), (18, true), (19, false)] 19 mixed (by kernel_rfl) (by kernel_rfl) (by kernel_rfl) (hM.drop 2).drew ?_
  replace hM := hM.drew
  refine D.valF hA rfl (fun _ => R.move rfl) rfl ?_; clear hA a; intro a hA
  refine D.valF hA rfl (fun _ => R.move rfl) rfl ?_; clear hA a; intro a hA
  refine D.valF hA rfl (fun _ => R.nilCheck rfl) rfl ?_; clear hA a; intro a hA
  refine D.valF hA rfl (fun _ => R.fieldAddr (q := 0) fi105_0 rfl rfl rfl) rfl ?_; clear hA a; intro a hA
  refine D.val hA rfl (by kernel_rfl) (fun _ hM => R.load sz23 rfl (hM.cell (k := 0) rfl rfl)) rfl ?_; clear hA a; intro a hA
  refine D.valF hA rfl (fun _ => R.nilCheck rfl) rfl ?_; clear hA a; intro a hA
  refine D.valF hA rfl (fun _ => R.fieldAddr (q := 0) fi108_0 rfl rfl rfl) rfl ?_; clear hA a; intro a hA
  refine D.val hA rfl (by kernel_rfl) (fun _ hM => R.load sz24 rfl (hM.cell (k := 1) rfl rfl)) rfl ?_; clear hA a; intro a hA
  refine D.valF hA rfl (fun _ => R.move rfl) rfl ?_; clear hA a; intro a hA
  refine D.valF hA rfl (fun _ => R.nilCheck rfl) rfl ?_; clear hA a; intro a hA
  refine D.valF hA rfl (fun _ => R.fieldAddr (q := 0) fi105_0 rfl rfl rfl) rfl ?_; clear hA a; intro a hA
  refine D.val hA rfl (by kernel_rfl) (fun _ hM => R.load sz23 rfl (hM.cell (k := 0) rfl rfl)) rfl ?_; clear hA a; intro a hA
  refine D.call hA rfl (R.callF Try.func62 rfl rfl rfl) rfl (cnt_working q m bs (by omega) _ (hM.block (k := 1) rfl)) ?_; clear hA a
  rintro e w1 ⟨rfl, rfl⟩
  refine ⟨.int .i64 (bs + 1), rfl, (hM.drop 2), fun a hA => ?_⟩
  refine D.call hA rfl (R.callF Try.func63 rfl rfl rfl) rfl (get_ok m c l s o hmc (bs + 1) (by omega) (by omega) (by omega) _ (hM.mem (k := 2) rfl)) ?_; clear hA a
  rintro e w2 ⟨rfl, hn⟩
  replace hM : Mem _ _ [memO m c ((l.set (bs + 1).toNat (l.getD (bs + 1).toNat 0))) (s + 1) ⟨1, bs + 1, l.getD (bs + 1).toNat 0, l.getD (bs + 1).toNat 0, true⟩, pt p #[.pointer (some ⟨q, 0, none⟩), .bool false, .int .i64 hd, .bool false, .bool lf] 105, pt q #[.pointer (some ⟨m, 0, none⟩), .int .i64 bs] 108] _ := hM.callW (k := 2) rfl hn (fun _ h => h); clear hn
  refine ⟨.tuple #[.int .i64 (l.getD (bs + 1).toNat 0), .int .i64 0], rfl, (hM.drop 0), fun a hA => ?_⟩
  refine D.valF hA rfl (fun _ => R.move rfl) rfl ?_; clear hA a; intro a hA
  refine D.valF hA rfl (fun _ => R.extract (v := .int .i64 (l.getD (bs + 1).toNat 0)) rfl rfl) rfl ?_; clear hA a; intro a hA
  refine D.valF hA rfl (fun _ => R.extract (v := .int .i64 0) rfl rfl) rfl ?_; clear hA a; intro a hA
  refine D.valF hA rfl (fun _ => R.nilCheck rfl) rfl ?_; clear hA a; intro a hA
  refine D.valF hA rfl (fun _ => R.fieldAddr (q := 2) fi105_2 rfl rfl rfl) rfl ?_; clear hA a; intro a hA
  refine D.store (k := 1) hA hM rfl sz3 rfl rfl rfl rfl rfl ?_; clear hM
  intro w3 hM; refine ⟨fun hne => absurd rfl hne, ?_⟩
  replace hM : Mem _ _ [memO m c ((l.set (bs + 1).toNat (l.getD (bs + 1).toNat 0))) (s + 1) ⟨1, bs + 1, l.getD (bs + 1).toNat 0, l.getD (bs + 1).toNat 0, true⟩, pt p #[.pointer (some ⟨q, 0, none⟩), .bool false, .int .i64 (l.getD (bs + 1).toNat 0), .bool false, .bool lf] 105, pt q #[.pointer (some ⟨m, 0, none⟩), .int .i64 bs] 108] _ := hM
  refine D.done ?_
  replace hA : St 88 [(0, _), (2, _)] a := hA.sub ((.cons rfl (.cons rfl .nil)))
  refine Ends.seq ?_
  refine Ends.region ?_
  refine S.val hA (R.move rfl) rfl ?_; clear hA a; intro a hA
  refine S.val hA (R.nilCheck rfl) rfl ?_; clear hA a; intro a hA
  refine S.val hA (R.fieldAddr (q := 1) fi105_1 rfl rfl rfl) rfl ?_; clear hA a; intro a hA
  refine S.store (k := 1) hA hM sz4 rfl rfl rfl rfl rfl ?_; clear hM
  intro w4 hM
  replace hM : Mem _ _ [memO m c ((l.set (bs + 1).toNat (l.getD (bs + 1).toNat 0))) (s + 1) ⟨1, bs + 1, l.getD (bs + 1).toNat 0, l.getD (bs + 1).toNat 0, true⟩, pt p #[.pointer (some ⟨q, 0, none⟩), .bool true, .int .i64 (l.getD (bs + 1).toNat 0), .bool false, .bool lf] 105, pt q #[.pointer (some ⟨m, 0, none⟩), .int .i64 bs] 108] _ := hM
  refine S.done ?_
  replace hA : St 88 [(0, _), (2, _)] a := hA.sub ((.cons rfl (.cons rfl .nil)))
  refine Ends.region ?_
  refine S.val hA (R.move rfl) rfl ?_; clear hA a; intro a hA
  refine S.val hA (R.move rfl) rfl ?_; clear hA a; intro a hA
  refine S.val hA (R.nilCheck rfl) rfl ?_; clear hA a; intro a hA
  refine S.val hA (R.fieldAddr (q := 2) fi105_2 rfl rfl rfl) rfl ?_; clear hA a; intro a hA
  refine S.val hA (R.load sz3 rfl (hM.cell (k := 1) rfl rfl)) rfl ?_; clear hA a; intro a hA
  refine S.val hA (R.tt (R.leq rfl rfl) (by omega)) rfl ?_; clear hA a; intro a hA
  refine S.val hA (R.nilCheck rfl) rfl ?_; clear hA a; intro a hA
  refine S.val hA (R.fieldAddr (q := 3) fi105_3 rfl rfl rfl) rfl ?_; clear hA a; intro a hA
  refine S.store (k := 1) hA hM sz4 rfl rfl rfl rfl rfl ?_; clear hM
  intro w5 hM
  replace hM : Mem _ _ [memO m c ((l.set (bs + 1).toNat (l.getD (bs + 1).toNat 0))) (s + 1) ⟨1, bs + 1, l.getD (bs + 1).toNat 0, l.getD (bs + 1).toNat 0, true⟩, pt p #[.pointer (some ⟨q, 0, none⟩), .bool true, .int .i64 (l.getD (bs + 1).toNat 0), .bool true, .bool lf] 105, pt q #[.pointer (some ⟨m, 0, none⟩), .int .i64 bs] 108] _ := hM
  refine S.done ?_
  replace hA : St 88 [(0, _), (2, _)] a := hA.sub ((.cons rfl (.cons rfl .nil)))
  refine Ends.inBlock ?_
  refine Ends.seq ?_
  refine Ends.region ?_
  refine S.val hA (R.move rfl) rfl ?_; clear hA a; intro a hA
  refine S.val hA (R.nilCheck rfl) rfl ?_; clear hA a; intro a hA
  refine S.val hA (R.fieldAddr (q := 3) fi105_3 rfl rfl rfl) rfl ?_; clear hA a; intro a hA
  refine S.val hA (R.load sz4 rfl (hM.cell (k := 1) rfl rfl)) rfl ?_; clear hA a; intro a hA
  refine S.val hA (R.assign rfl) rfl ?_; clear hA a; intro a hA
  refine S.done ?_
  replace hA : St 88 [(2, _)] a := hA.sub ((.cons rfl .nil))
  refine Ends.ret1 Try.func17 Try.results17 hA rfl ?_
  replace hM := hM.front (k := 2) rfl
  replace hM := hM.front (k := 2) rfl
  replace hM : Mem _ _ [pt p #[.pointer (some ⟨q, 0, none⟩), .bool true, .int .i64 (l.getD (bs + 1).toNat 0), .bool true, .bool lf] 105, pt q #[.pointer (some ⟨m, 0, none⟩), .int .i64 bs] 108, memO m c ((l.set (bs + 1).toNat (l.getD (bs + 1).toNat 0))) (s + 1) ⟨1, bs + 1, l.getD (bs + 1).toNat 0, l.getD (bs + 1).toNat 0, true⟩] _ := hM
  exact ⟨rfl, hM⟩
set_option maxRecDepth 100000 in
set_option maxHeartbeats 400000 in
theorem cstep_look_more (q m c : Nat) (bs : Int) (l : List Int) (s : Int) (o : CellOp) (hbs : 0 ≤ bs ∧ bs + 1 < l.length) (hl : l.length ≤ 1000000) (hs : 0 ≤ s ∧ s < 9223372036854775807) (hmc : m ≠ c) (p : Nat) (hd : Int) (lf : Bool) (hv : 1 < l.getD (bs + 1).toNat 0) (w : World) (hM : Mem w (feet [pt p #[.pointer (some ⟨q, 0, none⟩), .bool false, .int .i64 hd, .bool false, .bool lf] 105, pt q #[.pointer (some ⟨m, 0, none⟩), .int .i64 bs] 108, memO m c l s o]) [pt p #[.pointer (some ⟨q, 0, none⟩), .bool false, .int .i64 hd, .bool false, .bool lf] 105, pt q #[.pointer (some ⟨m, 0, none⟩), .int .i64 bs] 108, memO m c l s o] w) :
    Calls Try.prog 17 #[.pointer (some ⟨p, 0, none⟩)] w fun e w' => e = .returned (.bool false) ∧ Mem w (feet [pt p #[.pointer (some ⟨q, 0, none⟩), .bool false, .int .i64 hd, .bool false, .bool lf] 105, pt q #[.pointer (some ⟨m, 0, none⟩), .int .i64 bs] 108, memO m c l s o]) [pt p #[.pointer (some ⟨q, 0, none⟩), .bool true, .int .i64 (l.getD (bs + 1).toNat 0), .bool false, .bool lf] 105, pt q #[.pointer (some ⟨m, 0, none⟩), .int .i64 bs] 108, memO m c (l.set (bs + 1).toNat (l.getD (bs + 1).toNat 0)) (s + 1) ⟨1, bs + 1, l.getD (bs + 1).toNat 0, l.getD (bs + 1).toNat 0, true⟩] w' := by
  have hM0 : True := trivial  -- have hM
  refine Calls.of_ends (vs := [.pointer (some ⟨p, 0, none⟩)]) Try.func17 rfl Try.ntmps17 rfl ?_
  intro a hA
  replace hA : St 88 [(0, _)] a := hA
  refine Ends.seq ?_
  refine Ends.region ?_
  refine S.val hA (R.assign rfl) rfl ?_; clear hA a; intro a hA
  refine S.done ?_
  replace hA : St 88 [(0, _), (2, _)] a := hA.sub ((.cons rfl (.cons rfl .nil)))
  refine Ends.seq ?_
  refine Ends.block ?_
  refine Ends.seq ?_
  refine Ends.region ?_
  refine S.val hA (R.move rfl) rfl ?_; clear hA a; intro a hA
  refine S.val hA (R.eqlNil Try.underlying28 rfl rfl) rfl ?_; clear hA a; intro a hA
  refine S.val hA (R.assign rfl) rfl ?_; clear hA a; intro a hA
  refine S.done ?_
  replace hA : St 88 [(0, _), (2, _), (33, _)] a := hA.sub ((.cons rfl (.cons rfl (.cons rfl .nil))))
  refine Ends.condF hA rfl ?_
  refine Ends.seq ?_
  refine Ends.region ?_
  refine S.val hA (R.move rfl) rfl ?_; clear hA a; intro a hA
  refine S.val hA (R.nilCheck rfl) rfl ?_; clear hA a; intro a hA
  refine S.val hA (R.fieldAddr (q := 3) fi105_3 rfl rfl rfl) rfl ?_; clear hA a; intro a hA
  refine S.val hA (R.load sz4 rfl (hM.cell (k := 0) rfl rfl)) rfl ?_; clear hA a; intro a hA
  refine S.val hA (R.assign rfl) rfl ?_; clear hA a; intro a hA
  refine S.done ?_
  replace hA : St 88 [(0, _), (2, _), (36, _)] a := hA.sub ((.cons rfl (.cons rfl (.cons rfl .nil))))
  refine Ends.condF hA rfl ?_
  refine Ends.seq ?_
  refine Ends.region ?_
  refine S.val hA (R.move rfl) rfl ?_; clear hA a; intro a hA
  refine S.val hA (R.nilCheck rfl) rfl ?_; clear hA a; intro a hA
  refine S.val hA (R.fieldAddr (q := 1) fi105_1 rfl rfl rfl) rfl ?_; clear hA a; intro a hA
  refine S.val hA (R.load sz4 rfl (hM.cell (k := 0) rfl rfl)) rfl ?_; clear hA a; intro a hA
  refine S.val hA (R.assign rfl) rfl ?_; clear hA a; intro a hA
  refine S.done ?_
  replace hA : St 88 [(0, _), (2, _), (41, _)] a := hA.sub ((.cons rfl (.cons rfl (.cons rfl .nil))))
  refine Ends.condF hA rfl ?_
  refine Ends.seq ?_
  refine Ends.drawn (Mem w (feet [pt p #[.pointer (some ⟨q, 0, none⟩), .bool false, .int .i64 hd, .bool false, .bool lf] 105, pt q #[.pointer (some ⟨m, 0, none⟩), .int .i64 bs] 108, memO m c l s o]) [pt p #[.pointer (some ⟨q, 0, none⟩), .bool false, .int .i64 hd, .bool false, .bool lf] 105, pt q #[.pointer (some ⟨m, 0, none⟩), .int .i64 bs] 108]) [(0, true), (1, true), (2, true), (3, true), (4, true), (5, true), (6, true), (7, true), (8, true), (9, true), (10, true), (11, true), (12, false), (13, false), (14, true), (15, true), (16, true), (17, true), (18, true), (19, false)] 19 mixed (by kernel_rfl) (by kernel_rfl) (by kernel_rfl) (hM.drop 2).drew ?_
  replace hM := hM.drew
  refine D.valF hA rfl (fun _ => R.move rfl) rfl ?_; clear hA a; intro a hA
  refine D.valF hA rfl (fun _ => R.move rfl) rfl ?_; clear hA a; intro a hA
  refine D.valF hA rfl (fun _ => R.nilCheck rfl) rfl ?_; clear hA a; intro a hA
  refine D.valF hA rfl (fun _ => R.fieldAddr (q := 0) fi105_0 rfl rfl rfl) rfl ?_; clear hA a; intro a hA
  refine D.val hA rfl (by kernel_rfl) (fun _ hM => R.load sz23 rfl (hM.cell (k := 0) rfl rfl)) rfl ?_; clear hA a; intro a hA
  refine D.valF hA rfl (fun _ => R.nilCheck rfl) rfl ?_; clear hA a; intro a hA
  refine D.valF hA rfl (fun _ => R.fieldAddr (q := 0) fi108_0 rfl rfl rfl) rfl ?_; clear hA a; intro a hA
  refine D.val hA rfl (by kernel_rfl) (fun _ hM => R.load sz24 rfl (hM.cell (k := 1) rfl rfl)) rfl ?_; clear hA a; intro a hA
  refine D.valF hA rfl (fun _ => R.move rfl) rfl ?_; clear hA a; intro a hA
  refine D.valF hA rfl (fun _ => R.nilCheck rfl) rfl ?_; clear hA a; intro a hA
  refine D.valF hA rfl (fun _ => R.fieldAddr (q := 0) fi105_0 rfl rfl rfl) rfl ?_; clear hA a; intro a hA
  refine D.val hA rfl (by kernel_rfl) (fun _ hM => R.load sz23 rfl (hM.cell (k := 0) rfl rfl)) rfl ?_; clear hA a; intro a hA
  refine D.call hA rfl (R.callF Try.func62 rfl rfl rfl) rfl (cnt_working q m bs (by omega) _ (hM.block (k := 1) rfl)) ?_; clear hA a
  rintro e w1 ⟨rfl, rfl⟩
  refine ⟨.int .i64 (bs + 1), rfl, (hM.drop 2), fun a hA => ?_⟩
  refine D.call hA rfl (R.callF Try.func63 rfl rfl rfl) rfl (get_ok m c l s o hmc (bs + 1) (by omega) (by omega) (by omega) _ (hM.mem (k := 2) rfl)) ?_; clear hA a
  rintro e w2 ⟨rfl, hn⟩
  replace hM : Mem _ _ [memO m c ((l.set (bs + 1).toNat (l.getD (bs + 1).toNat 0))) (s + 1) ⟨1, bs + 1, l.getD (bs + 1).toNat 0, l.getD (bs + 1).toNat 0, true⟩, pt p #[.pointer (some ⟨q, 0, none⟩), .bool false, .int .i64 hd, .bool false, .bool lf] 105, pt q #[.pointer (some ⟨m, 0, none⟩), .int .i64 bs] 108] _ := hM.callW (k := 2) rfl hn (fun _ h => h); clear hn
  refine ⟨.tuple #[.int .i64 (l.getD (bs + 1).toNat 0), .int .i64 0], rfl, (hM.drop 0), fun a hA => ?_⟩
  refine D.valF hA rfl (fun _ => R.move rfl) rfl ?_; clear hA a; intro a hA
  refine D.valF hA rfl (fun _ => R.extract (v := .int .i64 (l.getD (bs + 1).toNat 0)) rfl rfl) rfl ?_; clear hA a; intro a hA
  refine D.valF hA rfl (fun _ => R.extract (v := .int .i64 0) rfl rfl) rfl ?_; clear hA a; intro a hA
  refine D.valF hA rfl (fun _ => R.nilCheck rfl) rfl ?_; clear hA a; intro a hA
  refine D.valF hA rfl (fun _ => R.fieldAddr (q := 2) fi105_2 rfl rfl rfl) rfl ?_; clear hA a; intro a hA
  refine D.store (k := 1) hA hM rfl sz3 rfl rfl rfl rfl rfl ?_; clear hM
  intro w3 hM; refine ⟨fun hne => absurd rfl hne, ?_⟩
  replace hM : Mem _ _ [memO m c ((l.set (bs + 1).toNat (l.getD (bs + 1).toNat 0))) (s + 1) ⟨1, bs + 1, l.getD (bs + 1).toNat 0, l.getD (bs + 1).toNat 0, true⟩, pt p #[.pointer (some ⟨q, 0, none⟩), .bool false, .int .i64 (l.getD (bs + 1).toNat 0), .bool false, .bool lf] 105, pt q #[.pointer (some ⟨m, 0, none⟩), .int .i64 bs] 108] _ := hM
  refine D.done ?_
  replace hA : St 88 [(0, _), (2, _)] a := hA.sub ((.cons rfl (.cons rfl .nil)))
  refine Ends.seq ?_
  refine Ends.region ?_
  refine S.val hA (R.move rfl) rfl ?_; clear hA a; intro a hA
  refine S.val hA (R.nilCheck rfl) rfl ?_; clear hA a; intro a hA
  refine S.val hA (R.fieldAddr (q := 1) fi105_1 rfl rfl rfl) rfl ?_; clear hA a; intro a hA
  refine S.store (k := 1) hA hM sz4 rfl rfl rfl rfl rfl ?_; clear hM
  intro w4 hM
  replace hM : Mem _ _ [memO m c ((l.set (bs + 1).toNat (l.getD (bs + 1).toNat 0))) (s + 1) ⟨1, bs + 1, l.getD (bs + 1).toNat 0, l.getD (bs + 1).toNat 0, true⟩, pt p #[.pointer (some ⟨q, 0, none⟩), .bool true, .int .i64 (l.getD (bs + 1).toNat 0), .bool false, .bool lf] 105, pt q #[.pointer (some ⟨m, 0, none⟩), .int .i64 bs] 108] _ := hM
  refine S.done ?_
  replace hA : St 88 [(0, _), (2, _)] a := hA.sub ((.cons rfl (.cons rfl .nil)))
  refine Ends.region ?_
  refine S.val hA (R.move rfl) rfl ?_; clear hA a; intro a hA
  refine S.val hA (R.move rfl) rfl ?_; clear hA a; intro a hA
  refine S.val hA (R.nilCheck rfl) rfl ?_; clear hA a; intro a hA
  refine S.val hA (R.fieldAddr (q := 2) fi105_2 rfl rfl rfl) rfl ?_; clear hA a; intro a hA
  refine S.val hA (R.load sz3 rfl (hM.cell (k := 1) rfl rfl)) rfl ?_; clear hA a; intro a hA
  refine S.val hA (R.ff (R.leq rfl rfl) (by omega)) rfl ?_; clear hA a; intro a hA
  refine S.val hA (R.nilCheck rfl) rfl ?_; clear hA a; intro a hA
  refine S.val hA (R.fieldAddr (q := 3) fi105_3 rfl rfl rfl) rfl ?_; clear hA a; intro a hA
  refine S.store (k := 1) hA hM sz4 rfl rfl rfl rfl rfl ?_; clear hM
  intro w5 hM
  replace hM : Mem _ _ [memO m c ((l.set (bs + 1).toNat (l.getD (bs + 1).toNat 0))) (s + 1) ⟨1, bs + 1, l.getD (bs + 1).toNat 0, l.getD (bs + 1).toNat 0, true⟩, pt p #[.pointer (some ⟨q, 0, none⟩), .bool true, .int .i64 (l.getD (bs + 1).toNat 0), .bool false, .bool lf] 105, pt q #[.pointer (some ⟨m, 0, none⟩), .int .i64 bs] 108] _ := hM
  refine S.done ?_
  replace hA : St 88 [(0, _), (2, _)] a := hA.sub ((.cons rfl (.cons rfl .nil)))
  refine Ends.inBlock ?_
  refine Ends.seq ?_
  refine Ends.region ?_
  refine S.val hA (R.move rfl) rfl ?_; clear hA a; intro a hA
  refine S.val hA (R.nilCheck rfl) rfl ?_; clear hA a; intro a hA
  refine S.val hA (R.fieldAddr (q := 3) fi105_3 rfl rfl rfl) rfl ?_; clear hA a; intro a hA
  refine S.val hA (R.load sz4 rfl (hM.cell (k := 1) rfl rfl)) rfl ?_; clear hA a; intro a hA
  refine S.val hA (R.assign rfl) rfl ?_; clear hA a; intro a hA
  refine S.done ?_
  replace hA : St 88 [(2, _)] a := hA.sub ((.cons rfl .nil))
  refine Ends.ret1 Try.func17 Try.results17 hA rfl ?_
  replace hM := hM.front (k := 2) rfl
  replace hM := hM.front (k := 2) rfl
  replace hM : Mem _ _ [pt p #[.pointer (some ⟨q, 0, none⟩), .bool true, .int .i64 (l.getD (bs + 1).toNat 0), .bool false, .bool lf] 105, pt q #[.pointer (some ⟨m, 0, none⟩), .int .i64 bs] 108, memO m c ((l.set (bs + 1).toNat (l.getD (bs + 1).toNat 0))) (s + 1) ⟨1, bs + 1, l.getD (bs + 1).toNat 0, l.getD (bs + 1).toNat 0, true⟩] _ := hM
  exact ⟨rfl, hM⟩
set_option maxRecDepth 100000 in
set_option maxHeartbeats 400000 in
theorem cstep_hit (q m c : Nat) (bs : Int) (l : List Int) (s : Int) (o : CellOp) (hbs : 0 ≤ bs ∧ bs + 1 < l.length) (hl : l.length ≤ 1000000) (hs : 0 ≤ s ∧ s < 9223372036854775807) (hmc : m ≠ c) (p : Nat) (hd : Int) (lf : Bool) (hv : l.getD (bs + 1).toNat 0 = hd) (hh : 0 ≤ hd ∧ hd ≤ 1000) (w : World) (hM : Mem w (feet [pt p #[.pointer (some ⟨q, 0, none⟩), .bool true, .int .i64 hd, .bool false, .bool lf] 105, pt q #[.pointer (some ⟨m, 0, none⟩), .int .i64 bs] 108, memO m c l s o]) [pt p #[.pointer (some ⟨q, 0, none⟩), .bool true, .int .i64 hd, .bool false, .bool lf] 105, pt q #[.pointer (some ⟨m, 0, none⟩), .int .i64 bs] 108, memO m c l s o] w) :
    Calls Try.prog 17 #[.pointer (some ⟨p, 0, none⟩)] w fun e w' => e = .returned (.bool true) ∧ Mem w (feet [pt p #[.pointer (some ⟨q, 0, none⟩), .bool true, .int .i64 hd, .bool false, .bool lf] 105, pt q #[.pointer (some ⟨m, 0, none⟩), .int .i64 bs] 108, memO m c l s o]) [pt p #[.pointer (some ⟨q, 0, none⟩), .bool false, .int .i64 hd, .bool true, .bool true] 105, pt q #[.pointer (some ⟨m, 0, none⟩), .int .i64 bs] 108, memO m c (l.set (bs + 1).toNat (hd - 1)) (s + 1) ⟨3, bs + 1, l.getD (bs + 1).toNat 0, hd - 1, true⟩] w' := by
  have hM0 : True := trivial  -- have hM
  refine Calls.of_ends (vs := [.pointer (some ⟨p, 0, none⟩)]) Try.func17 rfl Try.ntmps17 rfl ?_
  intro a hA
  replace hA : St 88 [(0, _)] a := hA
  refine Ends.seq ?_
  refine Ends.region ?_
  refine S.val hA (R.assign rfl) rfl ?_; clear hA a; intro a hA
  refine S.done ?_
  replace hA : St 88 [(0, _), (2, _)] a := hA.sub ((.cons rfl (.cons rfl .nil)))
  refine Ends.seq ?_
  refine Ends.block ?_
  refine Ends.seq ?_
  refine Ends.region ?_
  refine S.val hA (R.move rfl) rfl ?_; clear hA a; intro a hA
  refine S.val hA (R.eqlNil Try.underlying28 rfl rfl) rfl ?_; clear hA a; intro a hA
  refine S.val hA (R.assign rfl) rfl ?_; clear hA a; intro a hA
  refine S.done ?_
  replace hA : St 88 [(0, _), (2, _), (33, _)] a := hA.sub ((.cons rfl (.cons rfl (.cons rfl .nil))))
  refine Ends.condF hA rfl ?_
  refine Ends.seq ?_
  refine Ends.region ?_
  refine S.val hA (R.move rfl) rfl ?_; clear hA a; intro a hA
  refine S.val hA (R.nilCheck rfl) rfl ?_; clear hA a; intro a hA
  refine S.val hA (R.fieldAddr (q := 3) fi105_3 rfl rfl rfl) rfl ?_; clear hA a; intro a hA
  refine S.val hA (R.load sz4 rfl (hM.cell (k := 0) rfl rfl)) rfl ?_; clear hA a; intro a hA
  refine S.val hA (R.assign rfl) rfl ?_; clear hA a; intro a hA
  refine S.done ?_
  replace hA : St 88 [(0, _), (2, _), (36, _)] a := hA.sub ((.cons rfl (.cons rfl (.cons rfl .nil))))
  refine Ends.condF hA rfl ?_
  refine Ends.seq ?_
  refine Ends.region ?_
  refine S.val hA (R.move rfl) rfl ?_; clear hA a; intro a hA
  refine S.val hA (R.nilCheck rfl) rfl ?_; clear hA a; intro a hA
  refine S.val hA (R.fieldAddr (q := 1) fi105_1 rfl rfl rfl) rfl ?_; clear hA a; intro a hA
  refine S.val hA (R.load sz4 rfl (hM.cell (k := 0) rfl rfl)) rfl ?_; clear hA a; intro a hA
  refine S.val hA (R.assign rfl) rfl ?_; clear hA a; intro a hA
  refine S.done ?_
  replace hA : St 88 [(0, _), (2, _), (41, _)] a := hA.sub ((.cons rfl (.cons rfl (.cons rfl .nil))))
  refine Ends.condT hA rfl ?_
  refine Ends.seq ?_
  refine Ends.drawn (Mem w (feet [pt p #[.pointer (some ⟨q, 0, none⟩), .bool true, .int .i64 hd, .bool false, .bool lf] 105, pt q #[.pointer (some ⟨m, 0, none⟩), .int .i64 bs] 108, memO m c l s o]) [pt p #[.pointer (some ⟨q, 0, none⟩), .bool true, .int .i64 hd, .bool false, .bool lf] 105, pt q #[.pointer (some ⟨m, 0, none⟩), .int .i64 bs] 108]) [(0, true), (1, true), (2, true), (3, true), (4, true), (5, true), (6, true), (7, true), (8, true), (9, true), (10, true), (11, true), (13, true), (14, true), (15, true), (16, true), (17, true), (18, true), (19, true), (20, true), (21, true), (12, false), (22, false), (23, true), (24, true), (25, true), (26, true), (27, true), (28, false)] 28 mixed (by kernel_rfl) (by kernel_rfl) (by kernel_rfl) (hM.drop 2).drew ?_
  replace hM := hM.drew
  refine D.valF hA rfl (fun _ => R.move rfl) rfl ?_; clear hA a; intro a hA
  refine D.valF hA rfl (fun _ => R.move rfl) rfl ?_; clear hA a; intro a hA
  refine D.valF hA rfl (fun _ => R.nilCheck rfl) rfl ?_; clear hA a; intro a hA
  refine D.valF hA rfl (fun _ => R.fieldAddr (q := 0) fi105_0 rfl rfl rfl) rfl ?_; clear hA a; intro a hA
  refine D.val hA rfl (by kernel_rfl) (fun _ hM => R.load sz23 rfl (hM.cell (k := 0) rfl rfl)) rfl ?_; clear hA a; intro a hA
  refine D.valF hA rfl (fun _ => R.nilCheck rfl) rfl ?_; clear hA a; intro a hA
  refine D.valF hA rfl (fun _ => R.fieldAddr (q := 0) fi108_0 rfl rfl rfl) rfl ?_; clear hA a; intro a hA
  refine D.val hA rfl (by kernel_rfl) (fun _ hM => R.load sz24 rfl (hM.cell (k := 1) rfl rfl)) rfl ?_; clear hA a; intro a hA
  refine D.valF hA rfl (fun _ => R.move rfl) rfl ?_; clear hA a; intro a hA
  refine D.valF hA rfl (fun _ => R.nilCheck rfl) rfl ?_; clear hA a; intro a hA
  refine D.valF hA rfl (fun _ => R.fieldAddr (q := 0) fi105_0 rfl rfl rfl) rfl ?_; clear hA a; intro a hA
  refine D.val hA rfl (by kernel_rfl) (fun _ hM => R.load sz23 rfl (hM.cell (k := 0) rfl rfl)) rfl ?_; clear hA a; intro a hA
  refine D.valF hA rfl (fun _ => R.move rfl) rfl ?_; clear hA a; intro a hA
  refine D.valF hA rfl (fun _ => R.nilCheck rfl) rfl ?_; clear hA a; intro a hA
  refine D.valF hA rfl (fun _ => R.fieldAddr (q := 2) fi105_2 rfl rfl rfl) rfl ?_; clear hA a; intro a hA
  refine D.val hA rfl (by kernel_rfl) (fun _ hM => R.load sz3 rfl (hM.cell (k := 0) rfl rfl)) rfl ?_; clear hA a; intro a hA
  refine D.valF hA rfl (fun _ => R.move rfl) rfl ?_; clear hA a; intro a hA
  refine D.valF hA rfl (fun _ => R.nilCheck rfl) rfl ?_; clear hA a; intro a hA
  refine D.valF hA rfl (fun _ => R.fieldAddr (q := 2) fi105_2 rfl rfl rfl) rfl ?_; clear hA a; intro a hA
  refine D.val hA rfl (by kernel_rfl) (fun _ hM => R.load sz3 rfl (hM.cell (k := 0) rfl rfl)) rfl ?_; clear hA a; intro a hA
  refine D.valF hA rfl (fun _ => R.subI rfl rfl (r := hd - 1) rfl (by omega)) rfl ?_; clear hA a; intro a hA
  refine D.call hA rfl (R.callF Try.func62 rfl rfl rfl) rfl (cnt_working q m bs (by omega) _ (hM.block (k := 1) rfl)) ?_; clear hA a
  rintro e w1 ⟨rfl, rfl⟩
  refine ⟨.int .i64 (bs + 1), rfl, (hM.drop 2), fun a hA => ?_⟩
  refine D.call hA rfl (R.callF Try.func61 rfl rfl rfl) rfl (cas_hit m c l s o hmc (bs + 1) hd (hd - 1) (by omega) (by omega) (by omega) hv _ (hM.mem (k := 2) rfl)) ?_; clear hA a
  rintro e w2 ⟨rfl, hn⟩
  replace hM : Mem _ _ [memO m c ((l.set (bs + 1).toNat (hd - 1))) (s + 1) ⟨3, bs + 1, l.getD (bs + 1).toNat 0, hd - 1, true⟩, pt p #[.pointer (some ⟨q, 0, none⟩), .bool true, .int .i64 hd, .bool false, .bool lf] 105, pt q #[.pointer (some ⟨m, 0, none⟩), .int .i64 bs] 108] _ := hM.callW (k := 2) rfl hn (fun _ h => h); clear hn
  refine ⟨.tuple #[.bool true, .int .i64 0], rfl, (hM.drop 0), fun a hA => ?_⟩
  refine D.valF hA rfl (fun _ => R.move rfl) rfl ?_; clear hA a; intro a hA
  refine D.valF hA rfl (fun _ => R.extract (v := .bool true) rfl rfl) rfl ?_; clear hA a; intro a hA
  refine D.valF hA rfl (fun _ => R.extract (v := .int .i64 0) rfl rfl) rfl ?_; clear hA a; intro a hA
  refine D.valF hA rfl (fun _ => R.nilCheck rfl) rfl ?_; clear hA a; intro a hA
  refine D.valF hA rfl (fun _ => R.fieldAddr (q := 4) fi105_4 rfl rfl rfl) rfl ?_; clear hA a; intro a hA
  refine D.store (k := 1) hA hM rfl sz4 rfl rfl rfl rfl rfl ?_; clear hM
  intro w3 hM; refine ⟨fun hne => absurd rfl hne, ?_⟩
  replace hM : Mem _ _ [memO m c ((l.set (bs + 1).toNat (hd - 1))) (s + 1) ⟨3, bs + 1, l.getD (bs + 1).toNat 0, hd - 1, true⟩, pt p #[.pointer (some ⟨q, 0, none⟩), .bool true, .int .i64 hd, .bool false, .bool true] 105, pt q #[.pointer (some ⟨m, 0, none⟩), .int .i64 bs] 108] _ := hM
  refine D.done ?_
  replace hA : St 88 [(0, _), (2, _)] a := hA.sub ((.cons rfl (.cons rfl .nil)))
  refine Ends.region ?_
  refine S.val hA (R.move rfl) rfl ?_; clear hA a; intro a hA
  refine S.val hA (R.move rfl) rfl ?_; clear hA a; intro a hA
  refine S.val hA (R.move rfl) rfl ?_; clear hA a; intro a hA
  refine S.val hA (R.nilCheck rfl) rfl ?_; clear hA a; intro a hA
  refine S.val hA (R.fieldAddr (q := 4) fi105_4 rfl rfl rfl) rfl ?_; clear hA a; intro a hA
  refine S.val hA (R.load sz4 rfl (hM.cell (k := 1) rfl rfl)) rfl ?_; clear hA a; intro a hA
  refine S.val hA (R.nilCheck rfl) rfl ?_; clear hA a; intro a hA
  refine S.val hA (R.fieldAddr (q := 3) fi105_3 rfl rfl rfl) rfl ?_; clear hA a; intro a hA
  refine S.store (k := 1) hA hM sz4 rfl rfl rfl rfl rfl ?_; clear hM
  intro w4 hM
  replace hM : Mem _ _ [memO m c ((l.set (bs + 1).toNat (hd - 1))) (s + 1) ⟨3, bs + 1, l.getD (bs + 1).toNat 0, hd - 1, true⟩, pt p #[.pointer (some ⟨q, 0, none⟩), .bool true, .int .i64 hd, .bool true, .bool true] 105, pt q #[.pointer (some ⟨m, 0, none⟩), .int .i64 bs] 108] _ := hM
  refine S.val hA (R.nilCheck rfl) rfl ?_; clear hA a; intro a hA
  refine S.val hA (R.fieldAddr (q := 1) fi105_1 rfl rfl rfl) rfl ?_; clear hA a; intro a hA
  refine S.store (k := 1) hA hM sz4 rfl rfl rfl rfl rfl ?_; clear hM
  intro w5 hM
  replace hM : Mem _ _ [memO m c ((l.set (bs + 1).toNat (hd - 1))) (s + 1) ⟨3, bs + 1, l.getD (bs + 1).toNat 0, hd - 1, true⟩, pt p #[.pointer (some ⟨q, 0, none⟩), .bool false, .int .i64 hd, .bool true, .bool true] 105, pt q #[.pointer (some ⟨m, 0, none⟩), .int .i64 bs] 108] _ := hM
  refine S.done ?_
  replace hA : St 88 [(0, _), (2, _)] a := hA.sub ((.cons rfl (.cons rfl .nil)))
  refine Ends.inBlock ?_
  refine Ends.seq ?_
  refine Ends.region ?_
  refine S.val hA (R.move rfl) rfl ?_; clear hA a; intro a hA
  refine S.val hA (R.nilCheck rfl) rfl ?_; clear hA a; intro a hA
  refine S.val hA (R.fieldAddr (q := 3) fi105_3 rfl rfl rfl) rfl ?_; clear hA a; intro a hA
  refine S.val hA (R.load sz4 rfl (hM.cell (k := 1) rfl rfl)) rfl ?_; clear hA a; intro a hA
  refine S.val hA (R.assign rfl) rfl ?_; clear hA a; intro a hA
  refine S.done ?_
  replace hA : St 88 [(2, _)] a := hA.sub ((.cons rfl .nil))
  refine Ends.ret1 Try.func17 Try.results17 hA rfl ?_
  replace hM := hM.front (k := 2) rfl
  replace hM := hM.front (k := 2) rfl
  replace hM : Mem _ _ [pt p #[.pointer (some ⟨q, 0, none⟩), .bool false, .int .i64 hd, .bool true, .bool true] 105, pt q #[.pointer (some ⟨m, 0, none⟩), .int .i64 bs] 108, memO m c ((l.set (bs + 1).toNat (hd - 1))) (s + 1) ⟨3, bs + 1, l.getD (bs + 1).toNat 0, hd - 1, true⟩] _ := hM
  exact ⟨rfl, hM⟩
set_option maxRecDepth 100000 in
set_option maxHeartbeats 400000 in
theorem cstep_miss (q m c : Nat) (bs : Int) (l : List Int) (s : Int) (o : CellOp) (hbs : 0 ≤ bs ∧ bs + 1 < l.length) (hl : l.length ≤ 1000000) (hs : 0 ≤ s ∧ s < 9223372036854775807) (hmc : m ≠ c) (p : Nat) (hd : Int) (lf : Bool) (hv : l.getD (bs + 1).toNat 0 ≠ hd) (hh : 0 ≤ hd ∧ hd ≤ 1000) (w : World) (hM : Mem w (feet [pt p #[.pointer (some ⟨q, 0, none⟩), .bool true, .int .i64 hd, .bool false, .bool lf] 105, pt q #[.pointer (some ⟨m, 0, none⟩), .int .i64 bs] 108, memO m c l s o]) [pt p #[.pointer (some ⟨q, 0, none⟩), .bool true, .int .i64 hd, .bool false, .bool lf] 105, pt q #[.pointer (some ⟨m, 0, none⟩), .int .i64 bs] 108, memO m c l s o] w) :
    Calls Try.prog 17 #[.pointer (some ⟨p, 0, none⟩)] w fun e w' => e = .returned (.bool false) ∧ Mem w (feet [pt p #[.pointer (some ⟨q, 0, none⟩), .bool true, .int .i64 hd, .bool false, .bool lf] 105, pt q #[.pointer (some ⟨m, 0, none⟩), .int .i64 bs] 108, memO m c l s o]) [pt p #[.pointer (some ⟨q, 0, none⟩), .bool false, .int .i64 hd, .bool false, .bool false] 105, pt q #[.pointer (some ⟨m, 0, none⟩), .int .i64 bs] 108, memO m c (l.set (bs + 1).toNat (l.getD (bs + 1).toNat 0)) (s + 1) ⟨3, bs + 1, l.getD (bs + 1).toNat 0, l.getD (bs + 1).toNat 0, false⟩] w' := by
  have hM0 : True := trivial  -- have hM
  refine Calls.of_ends (vs := [.pointer (some ⟨p, 0, none⟩)]) Try.func17 rfl Try.ntmps17 rfl ?_
  intro a hA
  replace hA : St 88 [(0, _)] a := hA
  refine Ends.seq ?_
  refine Ends.region ?_
  refine S.val hA (R.assign rfl) rfl ?_; clear hA a; intro a hA
  refine S.done ?_
  replace hA : St 88 [(0, _), (2, _)] a := hA.sub ((.cons rfl (.cons rfl .nil)))
  refine Ends.seq ?_
  refine Ends.block ?_
  refine Ends.seq ?_
  refine Ends.region ?_
  refine S.val hA (R.move rfl) rfl ?_; clear hA a; intro a hA
  refine S.val hA (R.eqlNil Try.underlying28 rfl rfl) rfl ?_; clear hA a; intro a hA
  refine S.val hA (R.assign rfl) rfl ?_; clear hA a; intro a hA
  refine S.done ?_
  replace hA : St 88 [(0, _), (2, _), (33, _)] a := hA.sub ((.cons rfl (.cons rfl (.cons rfl .nil))))
  refine Ends.condF hA rfl ?_
  refine Ends.seq ?_
  refine Ends.region ?_
  refine S.val hA (R.move rfl) rfl ?_; clear hA a; intro a hA
  refine S.val hA (R.nilCheck rfl) rfl ?_; clear hA a; intro a hA
  refine S.val hA (R.fieldAddr (q := 3) fi105_3 rfl rfl rfl) rfl ?_; clear hA a; intro a hA
  refine S.val hA (R.load sz4 rfl (hM.cell (k := 0) rfl rfl)) rfl ?_; clear hA a; intro a hA
  refine S.val hA (R.assign rfl) rfl ?_; clear hA a; intro a hA
  refine S.done ?_
  replace hA : St 88 [(0, _), (2, _), (36, _)] a := hA.sub ((.cons rfl (.cons rfl (.cons rfl .nil))))
  refine Ends.condF hA rfl ?_
  refine Ends.seq ?_
  refine Ends.region ?_
  refine S.val hA (R.move rfl) rfl ?_; clear hA a; intro a hA
  refine S.val hA (R.nilCheck rfl) rfl ?_; clear hA a; intro a hA
  refine S.val hA (R.fieldAddr (q := 1) fi105_1 rfl rfl rfl) rfl ?_; clear hA a; intro a hA
  refine S.val hA (R.load sz4 rfl (hM.cell (k := 0) rfl rfl)) rfl ?_; clear hA a; intro a hA
  refine S.val hA (R.assign rfl) rfl ?_; clear hA a; intro a hA
  refine S.done ?_
  replace hA : St 88 [(0, _), (2, _), (41, _)] a := hA.sub ((.cons rfl (.cons rfl (.cons rfl .nil))))
  refine Ends.condT hA rfl ?_
  refine Ends.seq ?_
  refine Ends.drawn (Mem w (feet [pt p #[.pointer (some ⟨q, 0, none⟩), .bool true, .int .i64 hd, .bool false, .bool lf] 105, pt q #[.pointer (some ⟨m, 0, none⟩), .int .i64 bs] 108, memO m c l s o]) [pt p #[.pointer (some ⟨q, 0, none⟩), .bool true, .int .i64 hd, .bool false, .bool lf] 105, pt q #[.pointer (some ⟨m, 0, none⟩), .int .i64 bs] 108]) [(0, true), (1, true), (2, true), (3, true), (4, true), (5, true), (6, true), (7, true), (8, true), (9, true), (10, true), (11, true), (13, true), (14, true), (15, true), (16, true), (17, true), (18, true), (19, true), (20, true), (21, true), (12, false), (22, false), (23, true), (24, true), (25, true), (26, true), (27, true), (28, false)] 28 mixed (by kernel_rfl) (by kernel_rfl) (by kernel_rfl) (hM.drop 2).drew ?_
  replace hM := hM.drew
  refine D.valF hA rfl (fun _ => R.move rfl) rfl ?_; clear hA a; intro a hA
  refine D.valF hA rfl (fun _ => R.move rfl) rfl ?_; clear hA a; intro a hA
  refine D.valF hA rfl (fun _ => R.nilCheck rfl) rfl ?_; clear hA a; intro a hA
  refine D.valF hA rfl (fun _ => R.fieldAddr (q := 0) fi105_0 rfl rfl rfl) rfl ?_; clear hA a; intro a hA
  refine D.val hA rfl (by kernel_rfl) (fun _ hM => R.load sz23 rfl (hM.cell (k := 0) rfl rfl)) rfl ?_; clear hA a; intro a hA
  refine D.valF hA rfl (fun _ => R.nilCheck rfl) rfl ?_; clear hA a; intro a hA
  refine D.valF hA rfl (fun _ => R.fieldAddr (q := 0) fi108_0 rfl rfl rfl) rfl ?_; clear hA a; intro a hA
  refine D.val hA rfl (by kernel_rfl) (fun _ hM => R.load sz24 rfl (hM.cell (k := 1) rfl rfl)) rfl ?_; clear hA a; intro a hA
  refine D.valF hA rfl (fun _ => R.move rfl) rfl ?_; clear hA a; intro a hA
  refine D.valF hA rfl (fun _ => R.nilCheck rfl) rfl ?_; clear hA a; intro a hA
  refine D.valF hA rfl (fun _ => R.fieldAddr (q := 0) fi105_0 rfl rfl rfl) rfl ?_; clear hA a; intro a hA
  refine D.val hA rfl (by kernel_rfl) (fun _ hM => R.load sz23 rfl (hM.cell (k := 0) rfl rfl)) rfl ?_; clear hA a; intro a hA
  refine D.valF hA rfl (fun _ => R.move rfl) rfl ?_; clear hA a; intro a hA
  refine D.valF hA rfl (fun _ => R.nilCheck rfl) rfl ?_; clear hA a; intro a hA
  refine D.valF hA rfl (fun _ => R.fieldAddr (q := 2) fi105_2 rfl rfl rfl) rfl ?_; clear hA a; intro a hA
  refine D.val hA rfl (by kernel_rfl) (fun _ hM => R.load sz3 rfl (hM.cell (k := 0) rfl rfl)) rfl ?_; clear hA a; intro a hA
  refine D.valF hA rfl (fun _ => R.move rfl) rfl ?_; clear hA a; intro a hA
  refine D.valF hA rfl (fun _ => R.nilCheck rfl) rfl ?_; clear hA a; intro a hA
  refine D.valF hA rfl (fun _ => R.fieldAddr (q := 2) fi105_2 rfl rfl rfl) rfl ?_; clear hA a; intro a hA
  refine D.val hA rfl (by kernel_rfl) (fun _ hM => R.load sz3 rfl (hM.cell (k := 0) rfl rfl)) rfl ?_; clear hA a; intro a hA
  refine D.valF hA rfl (fun _ => R.subI rfl rfl (r := hd - 1) rfl (by omega)) rfl ?_; clear hA a; intro a hA
  refine D.call hA rfl (R.callF Try.func62 rfl rfl rfl) rfl (cnt_working q m bs (by omega) _ (hM.block (k := 1) rfl)) ?_; clear hA a
  rintro e w1 ⟨rfl, rfl⟩
  refine ⟨.int .i64 (bs + 1), rfl, (hM.drop 2), fun a hA => ?_⟩
  refine D.call hA rfl (R.callF Try.func61 rfl rfl rfl) rfl (cas_not m c l s o hmc (bs + 1) hd (hd - 1) (by omega) (by omega) (by omega) hv _ (hM.mem (k := 2) rfl)) ?_; clear hA a
  rintro e w2 ⟨rfl, hn⟩
  replace hM : Mem _ _ [memO m c ((l.set (bs + 1).toNat (l.getD (bs + 1).toNat 0))) (s + 1) ⟨3, bs + 1, l.getD (bs + 1).toNat 0, l.getD (bs + 1).toNat 0, false⟩, pt p #[.pointer (some ⟨q, 0, none⟩), .bool true, .int .i64 hd, .bool false, .bool lf] 105, pt q #[.pointer (some ⟨m, 0, none⟩), .int .i64 bs] 108] _ := hM.callW (k := 2) rfl hn (fun _ h => h); clear hn
  refine ⟨.tuple #[.bool false, .int .i64 0], rfl, (hM.drop 0), fun a hA => ?_⟩
  refine D.valF hA rfl (fun _ => R.move rfl) rfl ?_; clear hA a; intro a hA
  refine D.valF hA rfl (fun _ => R.extract (v := .bool false) rfl rfl) rfl ?_; clear hA a; intro a hA
  refine D.valF hA rfl (fun _ => R.extract (v := .int .i64 0) rfl rfl) rfl ?_; clear hA a; intro a hA
  refine D.valF hA rfl (fun _ => R.nilCheck rfl) rfl ?_; clear hA a; intro a hA
  refine D.valF hA rfl (fun _ => R.fieldAddr (q := 4) fi105_4 rfl rfl rfl) rfl ?_; clear hA a; intro a hA
  refine D.store (k := 1) hA hM rfl sz4 rfl rfl rfl rfl rfl ?_; clear hM
  intro w3 hM; refine ⟨fun hne => absurd rfl hne, ?_⟩
  replace hM : Mem _ _ [memO m c ((l.set (bs + 1).toNat (l.getD (bs + 1).toNat 0))) (s + 1) ⟨3, bs + 1, l.getD (bs + 1).toNat 0, l.getD (bs + 1).toNat 0, false⟩, pt p #[.pointer (some ⟨q, 0, none⟩), .bool true, .int .i64 hd, .bool false, .bool false] 105, pt q #[.pointer (some ⟨m, 0, none⟩), .int .i64 bs] 108] _ := hM
  refine D.done ?_
  replace hA : St 88 [(0, _), (2, _)] a := hA.sub ((.cons rfl (.cons rfl .nil)))
  refine Ends.region ?_
  refine S.val hA (R.move rfl) rfl ?_; clear hA a; intro a hA
  refine S.val hA (R.move rfl) rfl ?_; clear hA a; intro a hA
  refine S.val hA (R.move rfl) rfl ?_; clear hA a; intro a hA
  refine S.val hA (R.nilCheck rfl) rfl ?_; clear hA a; intro a hA
  refine S.val hA (R.fieldAddr (q := 4) fi105_4 rfl rfl rfl) rfl ?_; clear hA a; intro a hA
  refine S.val hA (R.load sz4 rfl (hM.cell (k := 1) rfl rfl)) rfl ?_; clear hA a; intro a hA
  refine S.val hA (R.nilCheck rfl) rfl ?_; clear hA a; intro a hA
  refine S.val hA (R.fieldAddr (q := 3) fi105_3 rfl rfl rfl) rfl ?_; clear hA a; intro a hA
  refine S.store (k := 1) hA hM sz4 rfl rfl rfl rfl rfl ?_; clear hM
  intro w4 hM
  replace hM : Mem _ _ [memO m c ((l.set (bs + 1).toNat (l.getD (bs + 1).toNat 0))) (s + 1) ⟨3, bs + 1, l.getD (bs + 1).toNat 0, l.getD (bs + 1).toNat 0, false⟩, pt p #[.pointer (some ⟨q, 0, none⟩), .bool true, .int .i64 hd, .bool false, .bool false] 105, pt q #[.pointer (some ⟨m, 0, none⟩), .int .i64 bs] 108] _ := hM
  refine S.val hA (R.nilCheck rfl) rfl ?_; clear hA a; intro a hA
  refine S.val hA (R.fieldAddr (q := 1) fi105_1 rfl rfl rfl) rfl ?_; clear hA a; intro a hA
  refine S.store (k := 1) hA hM sz4 rfl rfl rfl rfl rfl ?_; clear hM
  intro w5 hM
  replace hM : Mem _ _ [memO m c ((l.set (bs + 1).toNat (l.getD (bs + 1).toNat 0))) (s + 1) ⟨3, bs + 1, l.getD (bs + 1).toNat 0, l.getD (bs + 1).toNat 0, false⟩, pt p #[.pointer (some ⟨q, 0, none⟩), .bool false, .int .i64 hd, .bool false, .bool false] 105, pt q #[.pointer (some ⟨m, 0, none⟩), .int .i64 bs] 108] _ := hM
  refine S.done ?_
  replace hA : St 88 [(0, _), (2, _)] a := hA.sub ((.cons rfl (.cons rfl .nil)))
  refine Ends.inBlock ?_
  refine Ends.seq ?_
  refine Ends.region ?_
  refine S.val hA (R.move rfl) rfl ?_; clear hA a; intro a hA
  refine S.val hA (R.nilCheck rfl) rfl ?_; clear hA a; intro a hA
  refine S.val hA (R.fieldAddr (q := 3) fi105_3 rfl rfl rfl) rfl ?_; clear hA a; intro a hA
  refine S.val hA (R.load sz4 rfl (hM.cell (k := 1) rfl rfl)) rfl ?_; clear hA a; intro a hA
  refine S.val hA (R.assign rfl) rfl ?_; clear hA a; intro a hA
  refine S.done ?_
  replace hA : St 88 [(2, _)] a := hA.sub ((.cons rfl .nil))
  refine Ends.ret1 Try.func17 Try.results17 hA rfl ?_
  replace hM := hM.front (k := 2) rfl
  replace hM := hM.front (k := 2) rfl
  replace hM : Mem _ _ [pt p #[.pointer (some ⟨q, 0, none⟩), .bool false, .int .i64 hd, .bool false, .bool false] 105, pt q #[.pointer (some ⟨m, 0, none⟩), .int .i64 bs] 108, memO m c ((l.set (bs + 1).toNat (l.getD (bs + 1).toNat 0))) (s + 1) ⟨3, bs + 1, l.getD (bs + 1).toNat 0, l.getD (bs + 1).toNat 0, false⟩] _ := hM
  exact ⟨rfl, hM⟩
end Go.Proofs.Ytjjbognomeplbaa
