/-
  GreedyStarts, part 2 of 6: what the code computes, and plain laws; no condition beside those that each theorem tells.
-/
import Derived.Test.YtnikajkklocncaaGreedyStartsA
import Derived.ChangeKeysEq
namespace Go.Proofs.Ytnikajkklocncaa
open Go.RowKit
theorem Mem.ownOrC {w0 w : World} {F : Nat → Prop} {L : List Ck} {e : TypeId} {X : List Int} {a : Option Addr} {c : Nat} (h : Mem w0 F (own e 1 (.slice a X.length c) X.length (X.map (Value.int .i64)) :: L) w) : Mem w0 F (orC e ⟨X, a, c⟩ :: L) w := h
theorem orV_snoc' (rs : List OwR) (o : OwR) : rs.map orV ++ [orV o] = (rs ++ [o]).map orV := by simp
theorem len_snoc' (rs : List OwR) (o : OwR) : rs.length + 1 = (rs ++ [o]).length := by simp
theorem itF_z {i : Ins} {k : Nat} (h : numE (i.wt.getD k 0) = 0) : itF i k = numE (i.vl.getD k 0) := if_neg (by rw [h]; simp)
theorem itF_e {i : Ins} {k : Nat} (h : ¬ numE (i.wt.getD k 0) = 0) : itF i k = numE (i.wt.getD k 0) := if_pos h
theorem cellF_e {i : Ins} {r c : Nat} (h : numE ((i.cost.getD r []).getD c 0) ≠ 0) : cellF i r c = numE ((i.cost.getD r []).getD c 0) := if_pos h
theorem cellF_f {i : Ins} {r c : Nat} (h : ¬ numE ((i.cost.getD r []).getD c 0) ≠ 0) (h2 : (i.kind = 3 ∧ (r : Int) = c) ∧ (i.cost.getD r []).getD c 0 ≠ 0) : cellF i r c = 8 := by
  unfold cellF; rw [if_neg h, if_pos ⟨⟨h2.1.1, by omega⟩, h2.2⟩]
theorem cellF_z {i : Ins} {r c : Nat} (h : ¬ numE ((i.cost.getD r []).getD c 0) ≠ 0) (h2 : ¬ ((i.kind = 3 ∧ (r : Int) = c) ∧ (i.cost.getD r []).getD c 0 ≠ 0)) : cellF i r c = 0 := by
  unfold cellF; rw [if_neg h, if_neg (fun g => h2 ⟨⟨g.1.1, by omega⟩, g.2⟩)]
set_option maxRecDepth 100000 in
set_option maxHeartbeats 400000 in
theorem num05 (n : Int) (w : World) :
  Calls Try.prog 69 #[.int .i64 n] w fun e w' => e = .returned (.int .i64 (numE n)) ∧ Below w.heap.size w w' := by
 have hbs := Below.refl (B := w.heap.size) w
 have hM := Mem.start w
 refine Calls.of_ends (vs := [.int .i64 n]) Try.func69 rfl Try.ntmps69 rfl ?_
 intro a hA
 replace hA : St 9 [(0, _)] a := hA
 refine Ends.seq (Ends.region ?_)
 refine S.val hA (R.assign rfl) rfl ?_; clear hA a; intro a hA
 refine S.done ?_
 refine Ends.seq (Ends.block (Ends.seq (Ends.region ?_)))
 refine S.val hA (R.move rfl) rfl ?_; clear hA a; intro a hA
 refine S.val hA (R.lss rfl rfl) rfl ?_; clear hA a; intro a hA
 refine S.val hA (R.assign rfl) rfl ?_; clear hA a; intro a hA
 refine S.done ?_
 refine Ends.ite hA rfl (fun hc1 => ?_) (fun hc1 => ?_)
 ·
  refine Ends.seq (Ends.region ?_)
  refine S.val hA (R.assign rfl) rfl ?_; clear hA a; intro a hA
  refine S.done ?_
  replace hA : St 9 [(2, _)] a := hA.sub ((.cons rfl .nil))
  refine Ends.ret1 Try.func69 Try.results69 hA rfl ?_
  have he : numE n = 1 := by unfold numE; (repeat' split) <;> omega
  exact ⟨by rw [he], Mem.trans0 hbs hM.nilL⟩
 ·
  refine Ends.seq (Ends.region ?_)
  refine S.val hA (R.move rfl) rfl ?_; clear hA a; intro a hA
  refine S.val hA (R.gtr rfl rfl) rfl ?_; clear hA a; intro a hA
  refine S.val hA (R.assign rfl) rfl ?_; clear hA a; intro a hA
  refine S.done ?_
  replace hA : St 9 [(6, _)] a := hA.sub ((.cons rfl .nil))
  refine Ends.ite hA rfl (fun hc2 => ?_) (fun hc2 => ?_)
  ·
   refine Ends.seq (Ends.region ?_)
   refine S.val hA (R.assign rfl) rfl ?_; clear hA a; intro a hA
   refine S.done ?_
   refine Ends.ret1 Try.func69 Try.results69 hA rfl ?_
   have he : numE n = 5 := by unfold numE; (repeat' split) <;> omega
   exact ⟨by rw [he], Mem.trans0 hbs hM.nilL⟩
  ·
   refine Ends.skip (Ends.inBlock (Ends.seq (Ends.region ?_)))
   refine S.val hA (R.assign rfl) rfl ?_; clear hA a; intro a hA
   refine S.done ?_
   refine Ends.ret1 Try.func69 Try.results69 hA rfl ?_
   have he : numE n = 0 := by unfold numE; (repeat' split) <;> omega
   exact ⟨by rw [he], Mem.trans0 hbs hM.nilL⟩
set_option maxRecDepth 100000 in
set_option maxHeartbeats 400000 in
theorem rnum05 (n : Int) (w : World) :
  Calls Try.prog 40 #[.int .i64 n] w fun e w' => e = .returned (.int .i64 (numE n)) ∧ Below w.heap.size w w' := by
 have hbs := Below.refl (B := w.heap.size) w
 have hM := Mem.start w
 refine Calls.of_ends (vs := [.int .i64 n]) Try.func40 rfl Try.ntmps40 rfl ?_
 intro a hA
 replace hA : St 7 [(0, _)] a := hA
 refine Ends.seq (Ends.region ?_)
 refine S.val hA (R.assign rfl) rfl ?_; clear hA a; intro a hA
 refine S.done ?_
 refine Ends.seq (Ends.seq (Ends.region ?_))
 refine S.val hA (R.move rfl) rfl ?_; clear hA a; intro a hA
 refine S.val hA (R.lss rfl rfl) rfl ?_; clear hA a; intro a hA
 refine S.done ?_
 refine Ends.ite hA rfl (fun hc1 => ?_) (fun hc1 => ?_)
 ·
  refine Ends.seq (Ends.region ?_)
  refine S.val hA (R.assign rfl) rfl ?_; clear hA a; intro a hA
  refine S.done ?_
  refine Ends.ret1 Try.func40 Try.results40 hA rfl ?_
  have he : numE n = 1 := by unfold numE; (repeat' split) <;> omega
  exact ⟨by rw [he], Mem.trans0 hbs hM.nilL⟩
 ·
  refine Ends.skip (Ends.seq (Ends.seq (Ends.region ?_)))
  refine S.val hA (R.move rfl) rfl ?_; clear hA a; intro a hA
  refine S.val hA (R.gtr rfl rfl) rfl ?_; clear hA a; intro a hA
  refine S.done ?_
  replace hA : St 7 [(6, _)] a := hA.sub ((.cons rfl .nil))
  refine Ends.ite hA rfl (fun hc2 => ?_) (fun hc2 => ?_)
  ·
   refine Ends.seq (Ends.region ?_)
   refine S.val hA (R.assign rfl) rfl ?_; clear hA a; intro a hA
   refine S.done ?_
   refine Ends.ret1 Try.func40 Try.results40 hA rfl ?_
   have he : numE n = 5 := by unfold numE; (repeat' split) <;> omega
   exact ⟨by rw [he], Mem.trans0 hbs hM.nilL⟩
  ·
   refine Ends.skip (Ends.seq (Ends.region ?_))
   refine S.val hA (R.assign rfl) rfl ?_; clear hA a; intro a hA
   refine S.done ?_
   refine Ends.ret1 Try.func40 Try.results40 hA rfl ?_
   have he : numE n = 0 := by unfold numE; (repeat' split) <;> omega
   exact ⟨by rw [he], Mem.trans0 hbs hM.nilL⟩
set_option maxRecDepth 100000 in
set_option maxHeartbeats 400000 in
theorem size05 (i : Ins) (ax3 : Option Addr) (cx3 : Nat) (ax4 : Option Addr) (cx4 : Nat) (ax5 : Option Addr) (cx5 : Nat) (w : World) (hx3 : IntSl w (.slice ax3 i.wt.length cx3) i.wt) (hx4 : IntSl w (.slice ax4 i.vl.length cx4) i.vl) (hx5 : RowsV w (.slice ax5 i.cost.length cx5) i.cost) :
  Calls Try.prog 53 #[.agg #[.int .i64 i.kind, .int .i64 i.n, .int .i64 i.cap, .slice ax3 i.wt.length cx3, .slice ax4 i.vl.length cx4, .slice ax5 i.cost.length cx5]] w fun e w' => e = .returned (.int .i64 (sizeE i)) ∧ Below w.heap.size w w' := by
 have hbs := Below.refl (B := w.heap.size) w
 have hM := Mem.start w
 refine Calls.of_ends (vs := [.agg #[.int .i64 i.kind, .int .i64 i.n, .int .i64 i.cap, .slice ax3 i.wt.length cx3, .slice ax4 i.vl.length cx4, .slice ax5 i.cost.length cx5]]) Try.func53 rfl Try.ntmps53 rfl ?_
 intro a hA
 replace hA : St 20 [(0, _)] a := hA
 refine Ends.seq (Ends.region ?_)
 refine S.box hA hM rfl rfl ?_; clear hA hM a; intro b1 w1 hb2 hM a hA
 replace hM : Mem _ _ [pt b1 #[.int .i64 i.kind, .int .i64 i.n, .int .i64 i.cap, .slice ax3 i.wt.length cx3, .slice ax4 i.vl.length cx4, .slice ax5 i.cost.length cx5] 25] _ := hM
 refine S.val hA (R.assign rfl) rfl ?_; clear hA a; intro a hA
 refine S.done ?_
 refine Ends.seq (Ends.region ?_)
 refine S.val hA (R.assign rfl) rfl ?_; clear hA a; intro a hA
 refine S.done ?_
 refine Ends.seq (Ends.seq (Ends.region ?_))
 refine S.val hA (R.fieldAddr (q := 0) fi25_0 rfl rfl rfl) rfl ?_; clear hA a; intro a hA
 refine S.val hA (R.load sz3 rfl (hM.cell (k := 0) rfl rfl)) rfl ?_; clear hA a; intro a hA
 refine S.done ?_
 refine Ends.block (Ends.seq (Ends.region ?_))
 refine S.val hA (R.eql rfl rfl) rfl ?_; clear hA a; intro a hA
 refine S.val hA (R.assign rfl) rfl ?_; clear hA a; intro a hA
 refine S.done ?_
 replace hA : St 20 [(1, _), (3, _), (5, _), (6, _)] a := hA.sub ((.cons rfl (.cons rfl (.cons rfl (.cons rfl .nil)))))
 refine Ends.ite hA rfl (fun hc3 => ?_) (fun hc3 => ?_)
 ·
  refine Ends.region ?_
  refine S.val hA (R.assign rfl) rfl ?_; clear hA a; intro a hA
  refine S.done ?_
  refine Ends.inBlock (Ends.seq (Ends.block (Ends.seq (Ends.region ?_))))
  refine S.val hA (R.fieldAddr (q := 1) fi25_1 rfl rfl rfl) rfl ?_; clear hA a; intro a hA
  refine S.val hA (R.load sz3 rfl (hM.cell (k := 0) rfl rfl)) rfl ?_; clear hA a; intro a hA
  refine S.val hA (R.lss rfl rfl) rfl ?_; clear hA a; intro a hA
  refine S.val hA (R.assign rfl) rfl ?_; clear hA a; intro a hA
  refine S.done ?_
  replace hA : St 20 [(1, _), (3, _), (11, _)] a := hA.sub ((.cons rfl (.cons rfl (.cons rfl .nil))))
  refine Ends.ite hA rfl (fun hc4 => ?_) (fun hc4 => ?_)
  ·
   refine Ends.seq (Ends.region ?_)
   refine S.val hA (R.assign rfl) rfl ?_; clear hA a; intro a hA
   refine S.done ?_
   refine Ends.ret1 Try.func53 Try.results53 hA rfl ?_
   have he : sizeE i = 1 := by unfold sizeE; (repeat' split) <;> omega
   exact ⟨by rw [he], Mem.trans0 hbs hM.nilL⟩
  ·
   refine Ends.seq (Ends.region ?_)
   refine S.val hA (R.fieldAddr (q := 1) fi25_1 rfl rfl rfl) rfl ?_; clear hA a; intro a hA
   refine S.val hA (R.load sz3 rfl (hM.cell (k := 0) rfl rfl)) rfl ?_; clear hA a; intro a hA
   refine S.val hA (R.move rfl) rfl ?_; clear hA a; intro a hA
   refine S.val hA (R.gtr rfl rfl) rfl ?_; clear hA a; intro a hA
   refine S.val hA (R.assign rfl) rfl ?_; clear hA a; intro a hA
   refine S.done ?_
   replace hA : St 20 [(15, _)] a := hA.sub ((.cons rfl .nil))
   refine Ends.ite hA rfl (fun hc5 => ?_) (fun hc5 => ?_)
   ·
    refine Ends.seq (Ends.region ?_)
    refine S.val hA (R.assign rfl) rfl ?_; clear hA a; intro a hA
    refine S.done ?_
    refine Ends.ret1 Try.func53 Try.results53 hA rfl ?_
    have he : sizeE i = 5 := by unfold sizeE; (repeat' split) <;> omega
    exact ⟨by rw [he], Mem.trans0 hbs hM.nilL⟩
   ·
    refine Ends.skip (Ends.inBlock (Ends.seq (Ends.region ?_)))
    refine S.val hA (R.assign rfl) rfl ?_; clear hA a; intro a hA
    refine S.done ?_
    refine Ends.ret1 Try.func53 Try.results53 hA rfl ?_
    have he : sizeE i = 0 := by unfold sizeE; (repeat' split) <;> omega
    exact ⟨by rw [he], Mem.trans0 hbs hM.nilL⟩
 ·
  refine Ends.seq (Ends.seq (Ends.region ?_))
  refine S.val hA (R.eql rfl rfl) rfl ?_; clear hA a; intro a hA
  refine S.val hA (R.assign rfl) rfl ?_; clear hA a; intro a hA
  refine S.done ?_
  refine Ends.ite hA rfl (fun hc6 => ?_) (fun hc6 => ?_)
  ·
   refine Ends.skip ?_
   refine Ends.ite hA rfl (fun hc7 => ?_) (fun hc7 => ?_)
   ·
    refine Ends.skip (Ends.inBlock (Ends.seq (Ends.block (Ends.seq (Ends.region ?_)))))
    refine S.val hA (R.fieldAddr (q := 1) fi25_1 rfl rfl rfl) rfl ?_; clear hA a; intro a hA
    refine S.val hA (R.load sz3 rfl (hM.cell (k := 0) rfl rfl)) rfl ?_; clear hA a; intro a hA
    refine S.val hA (R.lss rfl rfl) rfl ?_; clear hA a; intro a hA
    refine S.val hA (R.assign rfl) rfl ?_; clear hA a; intro a hA
    refine S.done ?_
    replace hA : St 20 [(1, _), (3, _), (11, _)] a := hA.sub ((.cons rfl (.cons rfl (.cons rfl .nil))))
    refine Ends.ite hA rfl (fun hc8 => ?_) (fun hc8 => ?_)
    ·
     refine Ends.seq (Ends.region ?_)
     refine S.val hA (R.assign rfl) rfl ?_; clear hA a; intro a hA
     refine S.done ?_
     refine Ends.ret1 Try.func53 Try.results53 hA rfl ?_
     have he : sizeE i = 1 := by unfold sizeE; (repeat' split) <;> omega
     exact ⟨by rw [he], Mem.trans0 hbs hM.nilL⟩
    ·
     refine Ends.seq (Ends.region ?_)
     refine S.val hA (R.fieldAddr (q := 1) fi25_1 rfl rfl rfl) rfl ?_; clear hA a; intro a hA
     refine S.val hA (R.load sz3 rfl (hM.cell (k := 0) rfl rfl)) rfl ?_; clear hA a; intro a hA
     refine S.val hA (R.move rfl) rfl ?_; clear hA a; intro a hA
     refine S.val hA (R.gtr rfl rfl) rfl ?_; clear hA a; intro a hA
     refine S.val hA (R.assign rfl) rfl ?_; clear hA a; intro a hA
     refine S.done ?_
     replace hA : St 20 [(15, _)] a := hA.sub ((.cons rfl .nil))
     refine Ends.ite hA rfl (fun hc9 => ?_) (fun hc9 => ?_)
     ·
      refine Ends.seq (Ends.region ?_)
      refine S.val hA (R.assign rfl) rfl ?_; clear hA a; intro a hA
      refine S.done ?_
      refine Ends.ret1 Try.func53 Try.results53 hA rfl ?_
      have he : sizeE i = 5 := by unfold sizeE; (repeat' split) <;> omega
      exact ⟨by rw [he], Mem.trans0 hbs hM.nilL⟩
     ·
      refine Ends.skip (Ends.inBlock (Ends.seq (Ends.region ?_)))
      refine S.val hA (R.assign rfl) rfl ?_; clear hA a; intro a hA
      refine S.done ?_
      refine Ends.ret1 Try.func53 Try.results53 hA rfl ?_
      have he : sizeE i = 0 := by unfold sizeE; (repeat' split) <;> omega
      exact ⟨by rw [he], Mem.trans0 hbs hM.nilL⟩
   ·
    refine Ends.seq (Ends.region ?_)
    refine S.val hA (R.assign rfl) rfl ?_; clear hA a; intro a hA
    refine S.done ?_
    replace hA : St 20 [(1, _), (2, _), (3, _)] a := hA.sub ((.cons rfl (.cons rfl (.cons rfl .nil))))
    refine Ends.ret1 Try.func53 Try.results53 hA rfl ?_
    have he : sizeE i = 14 := by unfold sizeE; (repeat' split) <;> omega
    exact ⟨by rw [he], Mem.trans0 hbs hM.nilL⟩
  ·
   refine Ends.region ?_
   refine S.val hA (R.eql rfl rfl) rfl ?_; clear hA a; intro a hA
   refine S.val hA (R.assign rfl) rfl ?_; clear hA a; intro a hA
   refine S.done ?_
   replace hA : St 20 [(1, _), (3, _), (8, _)] a := hA.sub ((.cons rfl (.cons rfl (.cons rfl .nil))))
   refine Ends.ite hA rfl (fun hc10 => ?_) (fun hc10 => ?_)
   ·
    refine Ends.skip (Ends.inBlock (Ends.seq (Ends.block (Ends.seq (Ends.region ?_)))))
    refine S.val hA (R.fieldAddr (q := 1) fi25_1 rfl rfl rfl) rfl ?_; clear hA a; intro a hA
    refine S.val hA (R.load sz3 rfl (hM.cell (k := 0) rfl rfl)) rfl ?_; clear hA a; intro a hA
    refine S.val hA (R.lss rfl rfl) rfl ?_; clear hA a; intro a hA
    refine S.val hA (R.assign rfl) rfl ?_; clear hA a; intro a hA
    refine S.done ?_
    replace hA : St 20 [(1, _), (3, _), (11, _)] a := hA.sub ((.cons rfl (.cons rfl (.cons rfl .nil))))
    refine Ends.ite hA rfl (fun hc11 => ?_) (fun hc11 => ?_)
    ·
     refine Ends.seq (Ends.region ?_)
     refine S.val hA (R.assign rfl) rfl ?_; clear hA a; intro a hA
     refine S.done ?_
     refine Ends.ret1 Try.func53 Try.results53 hA rfl ?_
     have he : sizeE i = 1 := by unfold sizeE; (repeat' split) <;> omega
     exact ⟨by rw [he], Mem.trans0 hbs hM.nilL⟩
    ·
     refine Ends.seq (Ends.region ?_)
     refine S.val hA (R.fieldAddr (q := 1) fi25_1 rfl rfl rfl) rfl ?_; clear hA a; intro a hA
     refine S.val hA (R.load sz3 rfl (hM.cell (k := 0) rfl rfl)) rfl ?_; clear hA a; intro a hA
     refine S.val hA (R.move rfl) rfl ?_; clear hA a; intro a hA
     refine S.val hA (R.gtr rfl rfl) rfl ?_; clear hA a; intro a hA
     refine S.val hA (R.assign rfl) rfl ?_; clear hA a; intro a hA
     refine S.done ?_
     replace hA : St 20 [(15, _)] a := hA.sub ((.cons rfl .nil))
     refine Ends.ite hA rfl (fun hc12 => ?_) (fun hc12 => ?_)
     ·
      refine Ends.seq (Ends.region ?_)
      refine S.val hA (R.assign rfl) rfl ?_; clear hA a; intro a hA
      refine S.done ?_
      refine Ends.ret1 Try.func53 Try.results53 hA rfl ?_
      have he : sizeE i = 5 := by unfold sizeE; (repeat' split) <;> omega
      exact ⟨by rw [he], Mem.trans0 hbs hM.nilL⟩
     ·
      refine Ends.skip (Ends.inBlock (Ends.seq (Ends.region ?_)))
      refine S.val hA (R.assign rfl) rfl ?_; clear hA a; intro a hA
      refine S.done ?_
      refine Ends.ret1 Try.func53 Try.results53 hA rfl ?_
      have he : sizeE i = 0 := by unfold sizeE; (repeat' split) <;> omega
      exact ⟨by rw [he], Mem.trans0 hbs hM.nilL⟩
   ·
    refine Ends.seq (Ends.region ?_)
    refine S.val hA (R.assign rfl) rfl ?_; clear hA a; intro a hA
    refine S.done ?_
    refine Ends.ret1 Try.func53 Try.results53 hA rfl ?_
    have he : sizeE i = 14 := by unfold sizeE; (repeat' split) <;> omega
    exact ⟨by rw [he], Mem.trans0 hbs hM.nilL⟩
set_option maxRecDepth 100000 in
set_option maxHeartbeats 400000 in
theorem shape1 (bx : Nat) (ar : Option Addr) (Rw : List Int) (cr : Nat) (i : Ins) (ax3 : Option Addr) (cx3 : Nat) (ax4 : Option Addr) (cx4 : Nat) (ax5 : Option Addr) (cx5 : Nat) (w : World) (hr : IntSl w (.slice ar Rw.length cr) Rw) (hqbx : w.heap[bx]? = some (.cells #[.int .i64 i.kind, .int .i64 i.n, .int .i64 i.cap, .slice ax3 i.wt.length cx3, .slice ax4 i.vl.length cx4, .slice ax5 i.cost.length cx5] 25 (0, 0))) (hx3 : IntSl w (.slice ax3 i.wt.length cx3) i.wt) (hx4 : IntSl w (.slice ax4 i.vl.length cx4) i.vl) (hx5 : RowsV w (.slice ax5 i.cost.length cx5) i.cost) :
    Calls Try.prog 68 #[.slice ar Rw.length cr, .pointer (some ⟨bx, 0, none⟩)] w fun e w' => e = .returned (.bool (decide ((Rw.length : Int) ≠ i.n))) ∧ Below w.heap.size w w' := by
  have hbs := Below.refl (B := w.heap.size) w
  have hM := Mem.start w
  refine Calls.of_ends (vs := [.slice ar Rw.length cr, .pointer (some ⟨bx, 0, none⟩)]) Try.func68 rfl Try.ntmps68 rfl ?_
  intro a hA
  replace hA : St 9 [(0, _), (1, _)] a := hA
  refine Ends.seq (Ends.region ?_)
  refine S.val hA (R.assign rfl) rfl ?_; clear hA a; intro a hA
  refine S.done ?_
  refine Ends.seq (Ends.region ?_)
  refine S.val hA (R.move rfl) rfl ?_; clear hA a; intro a hA
  refine S.val hA (R.lenS Try.underlying22 rfl rfl) rfl ?_; clear hA a; intro a hA
  refine S.val hA (R.fieldAddr (q := 1) fi25_1 rfl rfl rfl) rfl ?_; clear hA a; intro a hA
  refine S.val hA (R.load sz3 rfl (hM.cellB hqbx rfl)) rfl ?_; clear hA a; intro a hA
  refine S.val hA (R.neq rfl rfl) rfl ?_; clear hA a; intro a hA
  refine S.val hA (R.assign rfl) rfl ?_; clear hA a; intro a hA
  refine S.done ?_
  replace hA : St 9 [(3, _)] a := hA.sub ((.cons rfl .nil))
  refine Ends.ret1 Try.func68 Try.results68 hA rfl ?_
  exact ⟨rfl, Mem.trans0 hbs hM.nilL⟩
set_option maxRecDepth 100000 in
set_option maxHeartbeats 400000 in
theorem indexR (bx : Nat) (i : Ins) (ax3 : Option Addr) (cx3 : Nat) (ax4 : Option Addr) (cx4 : Nat) (ax5 : Option Addr) (cx5 : Nat) (w : World) (hqbx : w.heap[bx]? = some (.cells #[.int .i64 i.kind, .int .i64 i.n, .int .i64 i.cap, .slice ax3 i.wt.length cx3, .slice ax4 i.vl.length cx4, .slice ax5 i.cost.length cx5] 25 (0, 0))) (hx3 : IntSl w (.slice ax3 i.wt.length cx3) i.wt) (hx4 : IntSl w (.slice ax4 i.vl.length cx4) i.vl) (hx5 : RowsV w (.slice ax5 i.cost.length cx5) i.cost) :
  Calls Try.prog 74 #[.slice ax5 i.cost.length cx5, .func (.func 68) #[] #[.pointer (some ⟨bx, 0, none⟩)]] w fun e w' => ∃ r : Int, e = .returned (.int .i64 r) ∧ (0 ≤ r ↔ ¬ ∀ r, r < i.cost.length → ((i.cost.getD r []).length : Int) = i.n) ∧ Below w.heap.size w w' := by
 have hbs := Below.refl (B := w.heap.size) w
 have hl5 := hx5.lenB
 have hM := Mem.start w
 refine Calls.of_ends (vs := [.slice ax5 i.cost.length cx5, .func (.func 68) #[] #[.pointer (some ⟨bx, 0, none⟩)]]) Try.func74 rfl Try.ntmps74 rfl ?_
 intro a hA
 replace hA : St 19 [(0, _), (1, _)] a := hA
 refine Ends.seq (Ends.region ?_)
 refine S.val hA (R.assign rfl) rfl ?_; clear hA a; intro a hA
 refine S.done ?_
 refine Ends.seq (Ends.seq (Ends.region ?_))
 refine S.val hA (R.move rfl) rfl ?_; clear hA a; intro a hA
 refine S.val hA (R.lenS Try.underlying23 rfl rfl) rfl ?_; clear hA a; intro a hA
 refine S.val hA (R.move rfl) rfl ?_; clear hA a; intro a hA
 refine S.done ?_
 refine Ends.block ?_
 refine Ends.loop (σ := Nat) (fun k (a : Act) (wv : World) => St 19 [(0, .slice ax5 i.cost.length cx5), (1, .func (.func 68) #[] #[.pointer (some ⟨bx, 0, none⟩)]), (7, .int .i64 ((i.cost.length : Int))), (8, .int .i64 ((k : Int)))] a ∧ Mem w nof [] wv ∧ (k ≤ i.cost.length) ∧ (∀ r, r < k → ((i.cost.getD r []).length : Int) = i.n)) (fun k => i.cost.length - k) 0 ⟨hA.sub ((.cons rfl (.cons rfl (.cons rfl (.cons rfl .nil))))), hM, (Nat.zero_le _), (fun j hj => absurd hj (Nat.not_lt_zero _))⟩ ?_
 clear hA hM a
 rintro k a w1 ⟨hA, hM, hk, hk2⟩ hNext
 refine Ends.seq (Ends.region ?_)
 refine S.val hA (R.lss rfl rfl) rfl ?_; clear hA a; intro a hA
 refine S.done ?_
 refine Ends.seq ?_
 refine Ends.ite hA rfl (fun hc1 => ?_) (fun hc1 => ?_)
 ·
  refine Ends.skip (Ends.seq (Ends.block (Ends.seq (Ends.region ?_))))
  refine S.val hA (R.move rfl) rfl ?_; clear hA a; intro a hA
  refine S.val hA (R.assign rfl) rfl ?_; clear hA a; intro a hA
  refine S.done ?_
  refine Ends.seq (Ends.region ?_)
  refine S.val hA (R.move rfl) rfl ?_; clear hA a; intro a hA
  refine S.val hA (R.move rfl) rfl ?_; clear hA a; intro a hA
  refine S.val hA (R.move rfl) rfl ?_; clear hA a; intro a hA
  refine S.val hA (R.idxR hx5 (j := k) sl23 rfl rfl (by omega) (rfl)) rfl ?_; clear hA a; intro a hA
  obtain ⟨ra2, rc3, hrow4, hld5⟩ := hx5.atP (i := k) (by omega)
  refine S.val hA (hld5 _ _ _ _ _ _ hM sz22 rfl) rfl ?_; clear hA a; intro a hA
  refine S.call hA (R.callV Try.func68 (by kernel_rfl) rfl rfl rfl) rfl (shape1 bx ra2 ((i.cost.getD k [])) rc3 i ax3 cx3 ax4 cx4 ax5 cx5 _ (hrow4.mem hM) (hM.keepB hqbx) (hx3.mem hM) (hx4.mem hM) (hx5.mem hM)) ?_; clear hA a
  rintro e w2 ⟨rfl, hb⟩
  replace hM := hM.callB hb; clear hb
  refine ⟨.bool (decide (((((i.cost.getD k [])).length : Nat) : Int) ≠ i.n)), rfl, fun a hA => ?_⟩
  refine S.done ?_
  replace hA : St 19 [(0, _), (1, _), (5, _), (7, _), (8, _), (16, _)] a := hA.sub ((.cons rfl (.cons rfl (.cons rfl (.cons rfl (.cons rfl (.cons rfl .nil)))))))
  refine Ends.ite hA rfl (fun hc6 => ?_) (fun hc6 => ?_)
  ·
   refine Ends.seq (Ends.region ?_)
   refine S.val hA (R.move rfl) rfl ?_; clear hA a; intro a hA
   refine S.val hA (R.assign rfl) rfl ?_; clear hA a; intro a hA
   refine S.done ?_
   refine Ends.ret1 Try.func74 Try.results74 hA rfl ?_
   exact ⟨(k : Int), rfl, ⟨fun _ h => hc6 (h k (by omega)), fun _ => by omega⟩, Mem.trans0 hbs hM.nilL⟩
  ·
   refine Ends.skip (Ends.inBlock (Ends.region ?_))
   refine S.val hA (R.addI rfl rfl (r := ((k : Int)) + 1) rfl (by omega)) rfl ?_; clear hA a; intro a hA
   refine S.val hA (R.move rfl) rfl ?_; clear hA a; intro a hA
   refine S.done ?_
   exact hNext ((k + 1)) _ _ ((by show i.cost.length - (k + 1) < i.cost.length - k; omega)) ⟨hA.sub ((.cons rfl (.cons rfl (.cons rfl (.cons rfl .nil))))), hM, (by omega), (fun j hj => (Nat.lt_or_ge j k).elim (fun g => hk2 j g) (fun g => by have e : j = k := (by omega); rw [e]; exact Decidable.not_not.1 hc6))⟩
 ·
  refine Ends.exit rfl ?_
  replace hA : St 19 [] a := hA.sub (.nil)
  refine Ends.seq (Ends.region ?_)
  refine S.val hA (R.assign rfl) rfl ?_; clear hA a; intro a hA
  refine S.done ?_
  refine Ends.ret1 Try.func74 Try.results74 hA rfl ?_
  have hkl : k = i.cost.length := by omega
  exact ⟨-1, rfl, ⟨fun h => by omega, fun h => absurd (fun r hr => hk2 r (by omega)) h⟩, Mem.trans0 hbs hM.nilL⟩
set_option maxRecDepth 100000 in
set_option maxHeartbeats 400000 in
theorem containsR (bx : Nat) (i : Ins) (ax3 : Option Addr) (cx3 : Nat) (ax4 : Option Addr) (cx4 : Nat) (ax5 : Option Addr) (cx5 : Nat) (w : World) (hqbx : w.heap[bx]? = some (.cells #[.int .i64 i.kind, .int .i64 i.n, .int .i64 i.cap, .slice ax3 i.wt.length cx3, .slice ax4 i.vl.length cx4, .slice ax5 i.cost.length cx5] 25 (0, 0))) (hx3 : IntSl w (.slice ax3 i.wt.length cx3) i.wt) (hx4 : IntSl w (.slice ax4 i.vl.length cx4) i.vl) (hx5 : RowsV w (.slice ax5 i.cost.length cx5) i.cost) :
    Calls Try.prog 67 #[.slice ax5 i.cost.length cx5, .func (.func 68) #[] #[.pointer (some ⟨bx, 0, none⟩)]] w fun e w' => ∃ b, e = .returned (.bool b) ∧ (b = true ↔ ¬ ∀ r, r < i.cost.length → ((i.cost.getD r []).length : Int) = i.n) ∧ Below w.heap.size w w' := by
  have hbs := Below.refl (B := w.heap.size) w
  have hM := Mem.start w
  refine Calls.of_ends (vs := [.slice ax5 i.cost.length cx5, .func (.func 68) #[] #[.pointer (some ⟨bx, 0, none⟩)]]) Try.func67 rfl Try.ntmps67 rfl ?_
  intro a hA
  replace hA : St 9 [(0, _), (1, _)] a := hA
  refine Ends.seq (Ends.region ?_)
  refine S.val hA (R.assign rfl) rfl ?_; clear hA a; intro a hA
  refine S.done ?_
  refine Ends.seq (Ends.region ?_)
  refine S.val hA (R.move rfl) rfl ?_; clear hA a; intro a hA
  refine S.val hA (R.move rfl) rfl ?_; clear hA a; intro a hA
  refine S.call hA (R.callF Try.func74 rfl rfl rfl) rfl (indexR bx i ax3 cx3 ax4 cx4 ax5 cx5 _ (hM.keepB hqbx) (hx3.mem hM) (hx4.mem hM) (hx5.mem hM)) ?_; clear hA a
  rintro e w1 ⟨ri1, rfl, hri2, hb⟩
  replace hM := hM.callB hb; clear hb
  refine ⟨.int .i64 ri1, rfl, fun a hA => ?_⟩
  refine S.val hA (R.geq rfl rfl) rfl ?_; clear hA a; intro a hA
  refine S.val hA (R.assign rfl) rfl ?_; clear hA a; intro a hA
  refine S.done ?_
  replace hA : St 9 [(4, _)] a := hA.sub ((.cons rfl .nil))
  refine Ends.ret1 Try.func67 Try.results67 hA rfl ?_
  exact ⟨_, rfl, by rw [decide_eq_true_iff]; exact hri2, Mem.trans0 hbs hM.nilL⟩
set_option maxRecDepth 100000 in
set_option maxHeartbeats 400000 in
theorem shape05 (i : Ins) (ax3 : Option Addr) (cx3 : Nat) (ax4 : Option Addr) (cx4 : Nat) (ax5 : Option Addr) (cx5 : Nat) (hsm : i.wt.length ≤ 1000000 ∧ i.vl.length ≤ 1000000) (w : World) (hx3 : IntSl w (.slice ax3 i.wt.length cx3) i.wt) (hx4 : IntSl w (.slice ax4 i.vl.length cx4) i.vl) (hx5 : RowsV w (.slice ax5 i.cost.length cx5) i.cost) :
  Calls Try.prog 54 #[.agg #[.int .i64 i.kind, .int .i64 i.n, .int .i64 i.cap, .slice ax3 i.wt.length cx3, .slice ax4 i.vl.length cx4, .slice ax5 i.cost.length cx5]] w fun e w' => ∃ b, e = .returned (.bool b) ∧ (b = true ↔ shapeOK i) ∧ Below w.heap.size w w' := by
 have hbs := Below.refl (B := w.heap.size) w
 have hl3 := hx3.lenB
 have hl4 := hx4.lenB
 have hl5 := hx5.lenB
 have hM := Mem.start w
 refine Calls.of_ends (vs := [.agg #[.int .i64 i.kind, .int .i64 i.n, .int .i64 i.cap, .slice ax3 i.wt.length cx3, .slice ax4 i.vl.length cx4, .slice ax5 i.cost.length cx5]]) Try.func54 rfl Try.ntmps54 rfl ?_
 intro a hA
 replace hA : St 52 [(0, _)] a := hA
 refine Ends.seq (Ends.region ?_)
 refine S.box hA hM rfl rfl ?_; clear hA hM a; intro b1 w1 hb2 hM a hA
 replace hM : Mem _ _ [pt b1 #[.int .i64 i.kind, .int .i64 i.n, .int .i64 i.cap, .slice ax3 i.wt.length cx3, .slice ax4 i.vl.length cx4, .slice ax5 i.cost.length cx5] 25] _ := hM
 refine S.val hA (R.assign rfl) rfl ?_; clear hA a; intro a hA
 refine S.done ?_
 refine Ends.seq (Ends.seq (Ends.region ?_))
 refine S.val hA (R.fieldAddr (q := 0) fi25_0 rfl rfl rfl) rfl ?_; clear hA a; intro a hA
 refine S.val hA (R.load sz3 rfl (hM.cell (k := 0) rfl rfl)) rfl ?_; clear hA a; intro a hA
 refine S.val hA (R.eql rfl rfl) rfl ?_; clear hA a; intro a hA
 refine S.done ?_
 replace hA : St 52 [(1, _), (5, _)] a := hA.sub ((.cons rfl (.cons rfl .nil)))
 refine Ends.ite hA rfl (fun hc3 => ?_) (fun hc3 => ?_)
 ·
  refine Ends.seq ?_
  refine Ends.cut (fun (a : Act) (wv : World) => St 52 [(1, .pointer (some ⟨b1, 0, none⟩)), (2, .bool (decide (((((i.wt.length : Int)) = i.n ∧ ((i.vl.length : Int)) = i.n) ∧ ((i.cost.length : Int)) = 0))))] a ∧ Mem w nof [pt b1 #[.int .i64 i.kind, .int .i64 i.n, .int .i64 i.cap, .slice ax3 i.wt.length cx3, .slice ax4 i.vl.length cx4, .slice ax5 i.cost.length cx5] 25] wv) ?_ (fun k2 hJ => ?_)
  ·
   clear hA hM a; rintro a w2 ⟨hA, hM⟩
   refine Ends.ret1 Try.func54 Try.results54 hA rfl ?_
   exact ⟨_, rfl, by rw [decide_eq_true_iff]; unfold shapeOK; omega, Mem.trans0 hbs hM.nilL⟩
  ·
   refine Ends.region ?_
   refine S.val hA (R.fieldAddr (q := 3) fi25_3 rfl rfl rfl) rfl ?_; clear hA a; intro a hA
   refine S.val hA (R.load sz22 rfl (hM.cell (k := 0) rfl rfl)) rfl ?_; clear hA a; intro a hA
   refine S.val hA (R.lenS Try.underlying22 rfl rfl) rfl ?_; clear hA a; intro a hA
   refine S.val hA (R.fieldAddr (q := 1) fi25_1 rfl rfl rfl) rfl ?_; clear hA a; intro a hA
   refine S.val hA (R.load sz3 rfl (hM.cell (k := 0) rfl rfl)) rfl ?_; clear hA a; intro a hA
   refine S.val hA (R.eql rfl rfl) rfl ?_; clear hA a; intro a hA
   refine S.val hA (R.move rfl) rfl ?_; clear hA a; intro a hA
   refine hA.split (d := 12) rfl ?_ ?_
   ·
    clear hA; intro hg4 hA
    refine S.valg (dj := 12) hA (by kernel_rfl) rfl (R.fieldAddr (q := 4) fi25_4 rfl rfl rfl) rfl ?_; clear hA a; intro a hA
    refine S.valg (dj := 12) hA (by kernel_rfl) rfl (R.load sz22 rfl (hM.cell (k := 0) rfl rfl)) rfl ?_; clear hA a; intro a hA
    refine S.valg (dj := 12) hA (by kernel_rfl) rfl (R.lenS Try.underlying22 rfl rfl) rfl ?_; clear hA a; intro a hA
    refine S.valg (dj := 12) hA (by kernel_rfl) rfl (R.fieldAddr (q := 1) fi25_1 rfl rfl rfl) rfl ?_; clear hA a; intro a hA
    refine S.valg (dj := 12) hA (by kernel_rfl) rfl (R.load sz3 rfl (hM.cell (k := 0) rfl rfl)) rfl ?_; clear hA a; intro a hA
    refine S.valg (dj := 12) hA (by kernel_rfl) rfl (R.eql rfl rfl) rfl ?_; clear hA a; intro a hA
    refine S.val hA (R.pickT rfl rfl) rfl ?_; clear hA a; intro a hA
    refine S.val hA (R.move rfl) rfl ?_; clear hA a; intro a hA
    refine hA.split (d := 20) rfl ?_ ?_
    ·
     clear hA; intro hg5 hA
     refine S.valg (dj := 20) hA (by kernel_rfl) rfl (R.fieldAddr (q := 5) fi25_5 rfl rfl rfl) rfl ?_; clear hA a; intro a hA
     refine S.valg (dj := 20) hA (by kernel_rfl) rfl (R.load sz23 rfl (hM.cell (k := 0) rfl rfl)) rfl ?_; clear hA a; intro a hA
     refine S.valg (dj := 20) hA (by kernel_rfl) rfl (R.lenS Try.underlying23 rfl rfl) rfl ?_; clear hA a; intro a hA
     refine S.valg (dj := 20) hA (by kernel_rfl) rfl (R.eql rfl rfl) rfl ?_; clear hA a; intro a hA
     refine S.val hA (R.pickT rfl rfl) rfl ?_; clear hA a; intro a hA
     refine S.val hA (R.assign rfl) rfl ?_; clear hA a; intro a hA
     refine S.done ?_
     replace hA : St 52 [(1, _), (2, _)] a := hA.sub ((.cons rfl (.cons rfl .nil)))
     exact hJ _ _ ⟨hA.sub (.cons rfl (.cons (by first | rfl | exact congrArg (fun b => some (Value.bool b)) (by first | exact decide_eq_decide.2 (by omega) | exact or_bool (by omega) | exact and_bool (by omega) | (simp; done) | (simp [hg4, hg5]; done) | (have h80 := hg4; (try simp at h80); have h81 := hg5; (try simp at h81); simp [h80, h81]; done) | exact (decide_eq_false (fun h9 => hg4 h9.1)).symm | exact (decide_eq_false (fun h9 => hg5 h9.1)).symm)) .nil)), hM⟩
    ·
     clear hA; intro hg5 hA
     refine S.no (dj := 20) hA (by kernel_rfl) rfl rfl rfl ?_; clear hA a; intro a hA
     refine S.no (dj := 20) hA (by kernel_rfl) rfl rfl rfl ?_; clear hA a; intro a hA
     refine S.no (dj := 20) hA (by kernel_rfl) rfl rfl rfl ?_; clear hA a; intro a hA
     refine S.no (dj := 20) hA (by kernel_rfl) rfl rfl rfl ?_; clear hA a; intro a hA
     refine S.val hA (R.pickF rfl rfl) rfl ?_; clear hA a; intro a hA
     refine S.val hA (R.assign rfl) rfl ?_; clear hA a; intro a hA
     refine S.done ?_
     replace hA : St 52 [(1, _), (2, _)] a := hA.sub ((.cons rfl (.cons rfl .nil)))
     exact hJ _ _ ⟨hA.sub (.cons rfl (.cons (by first | rfl | exact congrArg (fun b => some (Value.bool b)) (by first | exact decide_eq_decide.2 (by omega) | exact or_bool (by omega) | exact and_bool (by omega) | (simp; done) | (simp [hg4, hg5]; done) | (have h80 := hg4; (try simp at h80); have h81 := hg5; (try simp at h81); simp [h80, h81]; done) | exact (decide_eq_false (fun h9 => hg4 h9.1)).symm | exact (decide_eq_false (fun h9 => hg5 h9.1)).symm)) .nil)), hM⟩
   ·
    clear hA; intro hg4 hA
    refine S.no (dj := 12) hA (by kernel_rfl) rfl rfl rfl ?_; clear hA a; intro a hA
    refine S.no (dj := 12) hA (by kernel_rfl) rfl rfl rfl ?_; clear hA a; intro a hA
    refine S.no (dj := 12) hA (by kernel_rfl) rfl rfl rfl ?_; clear hA a; intro a hA
    refine S.no (dj := 12) hA (by kernel_rfl) rfl rfl rfl ?_; clear hA a; intro a hA
    refine S.no (dj := 12) hA (by kernel_rfl) rfl rfl rfl ?_; clear hA a; intro a hA
    refine S.no (dj := 12) hA (by kernel_rfl) rfl rfl rfl ?_; clear hA a; intro a hA
    refine S.val hA (R.pickF rfl rfl) rfl ?_; clear hA a; intro a hA
    refine S.val hA (R.move rfl) rfl ?_; clear hA a; intro a hA
    refine S.no (dj := 20) hA (by kernel_rfl) rfl rfl rfl ?_; clear hA a; intro a hA
    refine S.no (dj := 20) hA (by kernel_rfl) rfl rfl rfl ?_; clear hA a; intro a hA
    refine S.no (dj := 20) hA (by kernel_rfl) rfl rfl rfl ?_; clear hA a; intro a hA
    refine S.no (dj := 20) hA (by kernel_rfl) rfl rfl rfl ?_; clear hA a; intro a hA
    refine S.val hA (R.pickF rfl rfl) rfl ?_; clear hA a; intro a hA
    refine S.val hA (R.assign rfl) rfl ?_; clear hA a; intro a hA
    refine S.done ?_
    replace hA : St 52 [(1, _), (2, _)] a := hA.sub ((.cons rfl (.cons rfl .nil)))
    exact hJ _ _ ⟨hA.sub (.cons rfl (.cons (by first | rfl | exact congrArg (fun b => some (Value.bool b)) (by first | exact decide_eq_decide.2 (by omega) | exact or_bool (by omega) | exact and_bool (by omega) | (simp; done) | (simp [hg4]; done) | (have h80 := hg4; (try simp at h80); simp [h80]; done) | exact (decide_eq_false (fun h9 => hg4 h9.1)).symm)) .nil)), hM⟩
 ·
  refine Ends.skip (Ends.seq (Ends.seq ?_))
  refine Ends.cut (fun (a : Act) (wv : World) => St 52 [(1, .pointer (some ⟨b1, 0, none⟩)), (46, .bool (decide (((((i.cost.length : Int)) ≠ i.n ∨ i.cap ≠ 0) ∨ 0 < (((i.wt.length : Int)) + ((i.vl.length : Int)))))))] a ∧ Mem w nof [pt b1 #[.int .i64 i.kind, .int .i64 i.n, .int .i64 i.cap, .slice ax3 i.wt.length cx3, .slice ax4 i.vl.length cx4, .slice ax5 i.cost.length cx5] 25] wv) ?_ (fun k2 hJ => ?_)
  ·
   clear hA hM a; rintro a w3 ⟨hA, hM⟩
   refine Ends.ite hA rfl (fun hc6 => ?_) (fun hc6 => ?_)
   ·
    refine Ends.seq (Ends.region ?_)
    refine S.val hA (R.assign rfl) rfl ?_; clear hA a; intro a hA
    refine S.done ?_
    refine Ends.ret1 Try.func54 Try.results54 hA rfl ?_
    refine ⟨false, rfl, ⟨fun h => (by cases h), fun h => ?_⟩, Mem.trans0 hbs hM.nilL⟩
    unfold shapeOK at h
    rcases h with h | ⟨q1, q2, q3, q4, q5, -⟩
    · omega
    · omega
   ·
    refine Ends.skip (Ends.seq (Ends.region ?_))
    refine S.val hA (R.fieldAddr (q := 5) fi25_5 rfl rfl rfl) rfl ?_; clear hA a; intro a hA
    refine S.val hA (R.load sz23 rfl (hM.cell (k := 0) rfl rfl)) rfl ?_; clear hA a; intro a hA
    refine S.val hA (R.to (v := .func (.func 68) #[] #[.pointer (some ⟨b1, 0, none⟩)]) (R.makeFunc rfl) rfl) rfl ?_; clear hA a; intro a hA
    refine S.call hA (R.callF Try.func67 rfl rfl rfl) rfl (containsR b1 i ax3 cx3 ax4 cx4 ax5 cx5 _ (hM.block (k := 0) rfl) (hx3.mem hM) (hx4.mem hM) (hx5.mem hM)) ?_; clear hA a
    rintro e w4 ⟨bi7, rfl, hbi8, hb⟩
    replace hM := hM.callB hb; clear hb
    refine ⟨.bool bi7, rfl, fun a hA => ?_⟩
    refine S.val hA (R.not rfl) rfl ?_; clear hA a; intro a hA
    refine S.val hA (R.assign rfl) rfl ?_; clear hA a; intro a hA
    refine S.done ?_
    replace hA : St 52 [(2, _)] a := hA.sub ((.cons rfl .nil))
    refine Ends.ret1 Try.func54 Try.results54 hA rfl ?_
    refine ⟨_, rfl, ?_, Mem.trans0 hbs hM.nilL⟩
    have hbi := hbi8
    constructor
    ·
     intro h
     have hf : bi7 = false := by simpa using h
     have hall := Decidable.not_not.1 (fun h9 => by rw [hbi.2 h9] at hf; cases hf)
     exact .inr ⟨by omega, by omega, by omega, by omega, by omega, hall⟩
    ·
     intro h
     rcases h with h | h
     · omega
     ·
      cases hc : bi7 with
      | false => rfl
      | true => exact absurd h.2.2.2.2.2 (hbi.1 hc)
  ·
   refine Ends.region ?_
   refine S.val hA (R.fieldAddr (q := 5) fi25_5 rfl rfl rfl) rfl ?_; clear hA a; intro a hA
   refine S.val hA (R.load sz23 rfl (hM.cell (k := 0) rfl rfl)) rfl ?_; clear hA a; intro a hA
   refine S.val hA (R.lenS Try.underlying23 rfl rfl) rfl ?_; clear hA a; intro a hA
   refine S.val hA (R.fieldAddr (q := 1) fi25_1 rfl rfl rfl) rfl ?_; clear hA a; intro a hA
   refine S.val hA (R.load sz3 rfl (hM.cell (k := 0) rfl rfl)) rfl ?_; clear hA a; intro a hA
   refine S.val hA (R.neq rfl rfl) rfl ?_; clear hA a; intro a hA
   refine S.val hA (R.move rfl) rfl ?_; clear hA a; intro a hA
   refine hA.split (d := 32) rfl ?_ ?_
   ·
    clear hA; intro hg9 hA
    refine S.no (dj := 32) hA (by kernel_rfl) rfl rfl rfl ?_; clear hA a; intro a hA
    refine S.no (dj := 32) hA (by kernel_rfl) rfl rfl rfl ?_; clear hA a; intro a hA
    refine S.no (dj := 32) hA (by kernel_rfl) rfl rfl rfl ?_; clear hA a; intro a hA
    refine S.val hA (R.pickT rfl rfl) rfl ?_; clear hA a; intro a hA
    refine S.val hA (R.move rfl) rfl ?_; clear hA a; intro a hA
    refine S.no (dj := 37) hA (by kernel_rfl) rfl rfl rfl ?_; clear hA a; intro a hA
    refine S.no (dj := 37) hA (by kernel_rfl) rfl rfl rfl ?_; clear hA a; intro a hA
    refine S.no (dj := 37) hA (by kernel_rfl) rfl rfl rfl ?_; clear hA a; intro a hA
    refine S.no (dj := 37) hA (by kernel_rfl) rfl rfl rfl ?_; clear hA a; intro a hA
    refine S.no (dj := 37) hA (by kernel_rfl) rfl rfl rfl ?_; clear hA a; intro a hA
    refine S.no (dj := 37) hA (by kernel_rfl) rfl rfl rfl ?_; clear hA a; intro a hA
    refine S.no (dj := 37) hA (by kernel_rfl) rfl rfl rfl ?_; clear hA a; intro a hA
    refine S.no (dj := 37) hA (by kernel_rfl) rfl rfl rfl ?_; clear hA a; intro a hA
    refine S.val hA (R.pickT rfl rfl) rfl ?_; clear hA a; intro a hA
    refine S.done ?_
    replace hA : St 52 [(1, _), (46, _)] a := hA.sub ((.cons rfl (.cons rfl .nil)))
    exact hJ _ _ ⟨hA.sub (.cons rfl (.cons (by first | rfl | exact congrArg (fun b => some (Value.bool b)) (by first | exact decide_eq_decide.2 (by omega) | exact or_bool (by omega) | exact and_bool (by omega) | (simp; done) | (simp [hg9]; done) | (have h80 := hg9; (try simp at h80); simp [h80]; done) | exact (decide_eq_false (fun h9 => hg9 h9.1)).symm)) .nil)), hM⟩
   ·
    clear hA; intro hg9 hA
    refine S.valg (dj := 32) hA (by kernel_rfl) rfl (R.fieldAddr (q := 2) fi25_2 rfl rfl rfl) rfl ?_; clear hA a; intro a hA
    refine S.valg (dj := 32) hA (by kernel_rfl) rfl (R.load sz3 rfl (hM.cell (k := 0) rfl rfl)) rfl ?_; clear hA a; intro a hA
    refine S.valg (dj := 32) hA (by kernel_rfl) rfl (R.neq rfl rfl) rfl ?_; clear hA a; intro a hA
    refine S.val hA (R.pickF rfl rfl) rfl ?_; clear hA a; intro a hA
    refine S.val hA (R.move rfl) rfl ?_; clear hA a; intro a hA
    refine hA.split (d := 37) rfl ?_ ?_
    ·
     clear hA; intro hg10 hA
     refine S.no (dj := 37) hA (by kernel_rfl) rfl rfl rfl ?_; clear hA a; intro a hA
     refine S.no (dj := 37) hA (by kernel_rfl) rfl rfl rfl ?_; clear hA a; intro a hA
     refine S.no (dj := 37) hA (by kernel_rfl) rfl rfl rfl ?_; clear hA a; intro a hA
     refine S.no (dj := 37) hA (by kernel_rfl) rfl rfl rfl ?_; clear hA a; intro a hA
     refine S.no (dj := 37) hA (by kernel_rfl) rfl rfl rfl ?_; clear hA a; intro a hA
     refine S.no (dj := 37) hA (by kernel_rfl) rfl rfl rfl ?_; clear hA a; intro a hA
     refine S.no (dj := 37) hA (by kernel_rfl) rfl rfl rfl ?_; clear hA a; intro a hA
     refine S.no (dj := 37) hA (by kernel_rfl) rfl rfl rfl ?_; clear hA a; intro a hA
     refine S.val hA (R.pickT rfl rfl) rfl ?_; clear hA a; intro a hA
     refine S.done ?_
     replace hA : St 52 [(1, _), (46, _)] a := hA.sub ((.cons rfl (.cons rfl .nil)))
     exact hJ _ _ ⟨hA.sub (.cons rfl (.cons (by first | rfl | exact congrArg (fun b => some (Value.bool b)) (by first | exact decide_eq_decide.2 (by omega) | exact or_bool (by omega) | exact and_bool (by omega) | (simp; done) | (simp [hg9, hg10]; done) | (have h80 := hg9; (try simp at h80); have h81 := hg10; (try simp at h81); simp [h80, h81]; done) | exact (decide_eq_false (fun h9 => hg9 h9.1)).symm | exact (decide_eq_false (fun h9 => hg10 h9.1)).symm)) .nil)), hM⟩
    ·
     clear hA; intro hg10 hA
     refine S.valg (dj := 37) hA (by kernel_rfl) rfl (R.fieldAddr (q := 3) fi25_3 rfl rfl rfl) rfl ?_; clear hA a; intro a hA
     refine S.valg (dj := 37) hA (by kernel_rfl) rfl (R.load sz22 rfl (hM.cell (k := 0) rfl rfl)) rfl ?_; clear hA a; intro a hA
     refine S.valg (dj := 37) hA (by kernel_rfl) rfl (R.lenS Try.underlying22 rfl rfl) rfl ?_; clear hA a; intro a hA
     refine S.valg (dj := 37) hA (by kernel_rfl) rfl (R.fieldAddr (q := 4) fi25_4 rfl rfl rfl) rfl ?_; clear hA a; intro a hA
     refine S.valg (dj := 37) hA (by kernel_rfl) rfl (R.load sz22 rfl (hM.cell (k := 0) rfl rfl)) rfl ?_; clear hA a; intro a hA
     refine S.valg (dj := 37) hA (by kernel_rfl) rfl (R.lenS Try.underlying22 rfl rfl) rfl ?_; clear hA a; intro a hA
     refine S.valg (dj := 37) hA (by kernel_rfl) rfl (R.addI rfl rfl (r := ((i.wt.length : Int)) + ((i.vl.length : Int))) rfl (by omega)) rfl ?_; clear hA a; intro a hA
     refine S.valg (dj := 37) hA (by kernel_rfl) rfl (R.gtr rfl rfl) rfl ?_; clear hA a; intro a hA
     refine S.val hA (R.pickF rfl rfl) rfl ?_; clear hA a; intro a hA
     refine S.done ?_
     replace hA : St 52 [(1, _), (46, _)] a := hA.sub ((.cons rfl (.cons rfl .nil)))
     exact hJ _ _ ⟨hA.sub (.cons rfl (.cons (by first | rfl | exact congrArg (fun b => some (Value.bool b)) (by first | exact decide_eq_decide.2 (by omega) | exact or_bool (by omega) | exact and_bool (by omega) | (simp; done) | (simp [hg9, hg10]; done) | (have h80 := hg9; (try simp at h80); have h81 := hg10; (try simp at h81); simp [h80, h81]; done) | exact (decide_eq_false (fun h9 => hg9 h9.1)).symm | exact (decide_eq_false (fun h9 => hg10 h9.1)).symm)) .nil)), hM⟩
set_option maxRecDepth 100000 in
set_option maxHeartbeats 400000 in
theorem items05 (i : Ins) (ax3 : Option Addr) (cx3 : Nat) (ax4 : Option Addr) (cx4 : Nat) (ax5 : Option Addr) (cx5 : Nat) (hln : (i.wt.length : Int) = i.n ∧ (i.vl.length : Int) = i.n) (w : World) (hx3 : IntSl w (.slice ax3 i.wt.length cx3) i.wt) (hx4 : IntSl w (.slice ax4 i.vl.length cx4) i.vl) (hx5 : RowsV w (.slice ax5 i.cost.length cx5) i.cost) :
  Calls Try.prog 55 #[.agg #[.int .i64 i.kind, .int .i64 i.n, .int .i64 i.cap, .slice ax3 i.wt.length cx3, .slice ax4 i.vl.length cx4, .slice ax5 i.cost.length cx5]] w fun e w' => e = .returned (.int .i64 (if numE i.cap ≠ 0 then numE i.cap else pfx (itF i) i.n.toNat)) ∧ Below w.heap.size w w' := by
 have hbs := Below.refl (B := w.heap.size) w
 have hl3 := hx3.lenB
 have hM := Mem.start w
 refine Calls.of_ends (vs := [.agg #[.int .i64 i.kind, .int .i64 i.n, .int .i64 i.cap, .slice ax3 i.wt.length cx3, .slice ax4 i.vl.length cx4, .slice ax5 i.cost.length cx5]]) Try.func55 rfl Try.ntmps55 rfl ?_
 intro a hA
 replace hA : St 33 [(0, _)] a := hA
 refine Ends.seq (Ends.region ?_)
 refine S.box hA hM rfl rfl ?_; clear hA hM a; intro b1 w1 hb2 hM a hA
 replace hM : Mem _ _ [pt b1 #[.int .i64 i.kind, .int .i64 i.n, .int .i64 i.cap, .slice ax3 i.wt.length cx3, .slice ax4 i.vl.length cx4, .slice ax5 i.cost.length cx5] 25] _ := hM
 refine S.val hA (R.assign rfl) rfl ?_; clear hA a; intro a hA
 refine S.done ?_
 refine Ends.seq (Ends.region ?_)
 refine S.val hA (R.fieldAddr (q := 2) fi25_2 rfl rfl rfl) rfl ?_; clear hA a; intro a hA
 refine S.val hA (R.load sz3 rfl (hM.cell (k := 0) rfl rfl)) rfl ?_; clear hA a; intro a hA
 refine S.call hA (R.callF Try.func69 rfl rfl rfl) rfl (num05 i.cap _) ?_; clear hA a
 rintro e w2 ⟨rfl, hb⟩
 replace hM := hM.callB hb; clear hb
 refine ⟨.int .i64 (numE i.cap), rfl, fun a hA => ?_⟩
 refine S.val hA (R.assign rfl) rfl ?_; clear hA a; intro a hA
 refine S.done ?_
 replace hA : St 33 [(1, _), (3, _)] a := hA.sub ((.cons rfl (.cons rfl .nil)))
 refine Ends.seq (Ends.seq (Ends.region ?_))
 refine S.val hA (R.assign rfl) rfl ?_; clear hA a; intro a hA
 refine S.done ?_
 refine Ends.block ?_
 refine Ends.loop (σ := Nat × Int) (fun (k, ev) (a : Act) (wv : World) => St 33 [(1, .pointer (some ⟨b1, 0, none⟩)), (3, .int .i64 ev), (4, .int .i64 ((k : Int)))] a ∧ Mem w nof [pt b1 #[.int .i64 i.kind, .int .i64 i.n, .int .i64 i.cap, .slice ax3 i.wt.length cx3, .slice ax4 i.vl.length cx4, .slice ax5 i.cost.length cx5] 25] wv ∧ (k ≤ i.n.toNat) ∧ (k = 0 → ev = numE i.cap) ∧ (ev = if numE i.cap ≠ 0 then numE i.cap else pfx (itF i) k)) (fun (k, ev) => i.n.toNat - k) ((0, numE i.cap)) ⟨hA.sub ((.cons rfl (.cons rfl (.cons rfl .nil)))), hM, (Nat.zero_le _), (fun _ => rfl), (by show numE i.cap = (if numE i.cap ≠ 0 then numE i.cap else 0); by_cases h9 : numE i.cap ≠ 0; (rw [if_pos h9]); (rw [if_neg h9]; exact Decidable.not_not.1 h9))⟩ ?_
 clear hA hM a
 rintro ⟨k, ev⟩ a w3 ⟨hA, hM, hk, hk0, hev⟩ hNext
 refine Ends.seq (Ends.seq ?_)
 refine Ends.cut (fun (a : Act) (wv : World) => St 33 [(1, .pointer (some ⟨b1, 0, none⟩)), (3, .int .i64 ev), (4, .int .i64 ((k : Int))), (15, .bool (decide ((((k : Int)) < i.n ∧ ev = 0))))] a ∧ Mem w nof [pt b1 #[.int .i64 i.kind, .int .i64 i.n, .int .i64 i.cap, .slice ax3 i.wt.length cx3, .slice ax4 i.vl.length cx4, .slice ax5 i.cost.length cx5] 25] wv) ?_ (fun k2 hJ => ?_)
 ·
  clear hA hM a; rintro a w4 ⟨hA, hM⟩
  refine Ends.ite hA rfl (fun hc3 => ?_) (fun hc3 => ?_)
  ·
   have hcz : numE i.cap = 0 := by
    rw [hev] at hc3
    by_cases h9 : numE i.cap = 0
    · exact h9
    · rw [if_pos h9] at hc3; exact absurd hc3.2 h9
   rw [if_neg (by rw [hcz]; simp)] at hev
   have hev0 : ev = 0 := hc3.2
   have hp0 : pfx (itF i) k = 0 := by rw [← hev]; exact hev0
   refine Ends.skip (Ends.seq (Ends.block (Ends.seq (Ends.region ?_))))
   refine S.val hA (R.fieldAddr (q := 3) fi25_3 rfl rfl rfl) rfl ?_; clear hA a; intro a hA
   refine S.val hA (R.load sz22 rfl (hM.cell (k := 0) rfl rfl)) rfl ?_; clear hA a; intro a hA
   refine S.val hA (R.move rfl) rfl ?_; clear hA a; intro a hA
   refine S.val hA (R.idxI hx3 (j := k) sl22 rfl rfl (by omega) (rfl)) rfl ?_; clear hA a; intro a hA
   refine S.val hA (R.loadI (hx3.mem hM) sz3 rfl (by omega)) rfl ?_; clear hA a; intro a hA
   refine S.call hA (R.callF Try.func69 rfl rfl rfl) rfl (num05 (i.wt.getD k 0) _) ?_; clear hA a
   rintro e w5 ⟨rfl, hb⟩
   replace hM := hM.callB hb; clear hb
   refine ⟨.int .i64 (numE (i.wt.getD k 0)), rfl, fun a hA => ?_⟩
   refine S.val hA (R.assign rfl) rfl ?_; clear hA a; intro a hA
   refine S.done ?_
   replace hA : St 33 [(1, _), (3, _), (4, _)] a := hA.sub ((.cons rfl (.cons rfl (.cons rfl .nil))))
   refine Ends.seq (Ends.region ?_)
   refine S.val hA (R.move rfl) rfl ?_; clear hA a; intro a hA
   refine S.val hA (R.eql rfl rfl) rfl ?_; clear hA a; intro a hA
   refine S.done ?_
   refine Ends.ite hA rfl (fun hc4 => ?_) (fun hc4 => ?_)
   ·
    refine Ends.region ?_
    refine S.val hA (R.fieldAddr (q := 4) fi25_4 rfl rfl rfl) rfl ?_; clear hA a; intro a hA
    refine S.val hA (R.load sz22 rfl (hM.cell (k := 0) rfl rfl)) rfl ?_; clear hA a; intro a hA
    refine S.val hA (R.move rfl) rfl ?_; clear hA a; intro a hA
    refine S.val hA (R.idxI hx4 (j := k) sl22 rfl rfl (by omega) (rfl)) rfl ?_; clear hA a; intro a hA
    refine S.val hA (R.loadI (hx4.mem hM) sz3 rfl (by omega)) rfl ?_; clear hA a; intro a hA
    refine S.call hA (R.callF Try.func69 rfl rfl rfl) rfl (num05 (i.vl.getD k 0) _) ?_; clear hA a
    rintro e w6 ⟨rfl, hb⟩
    replace hM := hM.callB hb; clear hb
    refine ⟨.int .i64 (numE (i.vl.getD k 0)), rfl, fun a hA => ?_⟩
    refine S.val hA (R.assign rfl) rfl ?_; clear hA a; intro a hA
    refine S.done ?_
    replace hA : St 33 [(1, _), (3, _), (4, _)] a := hA.sub ((.cons rfl (.cons rfl (.cons rfl .nil))))
    refine Ends.inBlock (Ends.region ?_)
    refine S.val hA (R.move rfl) rfl ?_; clear hA a; intro a hA
    refine S.val hA (R.addI rfl rfl (r := ((k : Int)) + 1) rfl (by omega)) rfl ?_; clear hA a; intro a hA
    refine S.val hA (R.assign rfl) rfl ?_; clear hA a; intro a hA
    refine S.done ?_
    have hst := pfx_step (f := itF i) (k := k) (by omega)
    exact hNext ((k + 1, numE (i.vl.getD k 0))) _ _ ((by show i.n.toNat - (k + 1) < i.n.toNat - k; omega)) ⟨hA.sub ((.cons rfl (.cons rfl (.cons rfl .nil)))), hM, (by omega), (fun h9 => by omega), (by rw [if_neg (by rw [hcz]; simp), hst, itF_z hc4])⟩
   ·
    refine Ends.skip (Ends.inBlock (Ends.region ?_))
    refine S.val hA (R.move rfl) rfl ?_; clear hA a; intro a hA
    refine S.val hA (R.addI rfl rfl (r := ((k : Int)) + 1) rfl (by omega)) rfl ?_; clear hA a; intro a hA
    refine S.val hA (R.assign rfl) rfl ?_; clear hA a; intro a hA
    refine S.done ?_
    replace hA : St 33 [(1, _), (3, _), (4, _)] a := hA.sub ((.cons rfl (.cons rfl (.cons rfl .nil))))
    have hst := pfx_step (f := itF i) (k := k) (by omega)
    exact hNext ((k + 1, numE (i.wt.getD k 0))) _ _ ((by show i.n.toNat - (k + 1) < i.n.toNat - k; omega)) ⟨hA.sub ((.cons rfl (.cons rfl (.cons rfl .nil)))), hM, (by omega), (fun h9 => by omega), (by rw [if_neg (by rw [hcz]; simp), hst, itF_e hc4])⟩
  ·
   refine Ends.exit rfl ?_
   refine Ends.seq (Ends.region ?_)
   refine S.val hA (R.move rfl) rfl ?_; clear hA a; intro a hA
   refine S.val hA (R.assign rfl) rfl ?_; clear hA a; intro a hA
   refine S.done ?_
   replace hA : St 33 [(2, _)] a := hA.sub ((.cons rfl .nil))
   refine Ends.ret1 Try.func55 Try.results55 hA rfl ?_
   have hfin : ev = if numE i.cap ≠ 0 then numE i.cap else pfx (itF i) i.n.toNat := by
    by_cases h9 : numE i.cap ≠ 0
    · rw [if_pos h9] at hev ⊢; exact hev
    ·
     rw [if_neg h9] at hev ⊢
     by_cases h8 : ev = 0
     · rw [hev]; congr 1; omega
     · rw [hev]; exact (pfx_stay (by rw [← hev]; exact h8) hk).symm
   exact ⟨by rw [hfin], Mem.trans0 hbs hM.nilL⟩
 ·
  refine Ends.region ?_
  refine S.val hA (R.move rfl) rfl ?_; clear hA a; intro a hA
  refine S.val hA (R.fieldAddr (q := 1) fi25_1 rfl rfl rfl) rfl ?_; clear hA a; intro a hA
  refine S.val hA (R.load sz3 rfl (hM.cell (k := 0) rfl rfl)) rfl ?_; clear hA a; intro a hA
  refine S.val hA (R.lss rfl rfl) rfl ?_; clear hA a; intro a hA
  refine S.val hA (R.move rfl) rfl ?_; clear hA a; intro a hA
  refine hA.split (d := 12) rfl ?_ ?_
  ·
   clear hA; intro hg5 hA
   refine S.valg (dj := 12) hA (by kernel_rfl) rfl (R.move rfl) rfl ?_; clear hA a; intro a hA
   refine S.valg (dj := 12) hA (by kernel_rfl) rfl (R.eql rfl rfl) rfl ?_; clear hA a; intro a hA
   refine S.val hA (R.pickT rfl rfl) rfl ?_; clear hA a; intro a hA
   refine S.done ?_
   replace hA : St 33 [(1, _), (3, _), (4, _), (15, _)] a := hA.sub ((.cons rfl (.cons rfl (.cons rfl (.cons rfl .nil)))))
   exact hJ _ _ ⟨hA.sub (.cons rfl (.cons rfl (.cons rfl (.cons (by first | rfl | exact congrArg (fun b => some (Value.bool b)) (by first | exact decide_eq_decide.2 (by omega) | exact or_bool (by omega) | exact and_bool (by omega) | (simp; done) | (simp [hg5]; done) | (have h80 := hg5; (try simp at h80); simp [h80]; done) | exact (decide_eq_false (fun h9 => hg5 h9.1)).symm)) .nil)))), hM⟩
  ·
   clear hA; intro hg5 hA
   refine S.no (dj := 12) hA (by kernel_rfl) rfl rfl rfl ?_; clear hA a; intro a hA
   refine S.no (dj := 12) hA (by kernel_rfl) rfl rfl rfl ?_; clear hA a; intro a hA
   refine S.val hA (R.pickF rfl rfl) rfl ?_; clear hA a; intro a hA
   refine S.done ?_
   replace hA : St 33 [(1, _), (3, _), (4, _), (15, _)] a := hA.sub ((.cons rfl (.cons rfl (.cons rfl (.cons rfl .nil)))))
   exact hJ _ _ ⟨hA.sub (.cons rfl (.cons rfl (.cons rfl (.cons (by first | rfl | exact congrArg (fun b => some (Value.bool b)) (by first | exact decide_eq_decide.2 (by omega) | exact or_bool (by omega) | exact and_bool (by omega) | (simp; done) | (simp [hg5]; done) | (have h80 := hg5; (try simp at h80); simp [h80]; done) | exact (decide_eq_false (fun h9 => hg5 h9.1)).symm)) .nil)))), hM⟩
set_option maxRecDepth 100000 in
set_option maxHeartbeats 400000 in
theorem rows05 (i : Ins) (ax3 : Option Addr) (cx3 : Nat) (ax4 : Option Addr) (cx4 : Nat) (ax5 : Option Addr) (cx5 : Nat) (hsq : ∀ r, r < i.cost.length → ((i.cost.getD r []).length : Int) = i.n) (hcl : (i.cost.length : Int) = i.n) (w : World) (hx3 : IntSl w (.slice ax3 i.wt.length cx3) i.wt) (hx4 : IntSl w (.slice ax4 i.vl.length cx4) i.vl) (hx5 : RowsV w (.slice ax5 i.cost.length cx5) i.cost) :
  Calls Try.prog 56 #[.agg #[.int .i64 i.kind, .int .i64 i.n, .int .i64 i.cap, .slice ax3 i.wt.length cx3, .slice ax4 i.vl.length cx4, .slice ax5 i.cost.length cx5]] w fun e w' => e = .returned (.int .i64 (pfx (fun r => pfx (cellF i r) i.n.toNat) i.n.toNat)) ∧ Below w.heap.size w w' := by
 have hbs := Below.refl (B := w.heap.size) w
 have hl5 := hx5.lenB
 have hM := Mem.start w
 refine Calls.of_ends (vs := [.agg #[.int .i64 i.kind, .int .i64 i.n, .int .i64 i.cap, .slice ax3 i.wt.length cx3, .slice ax4 i.vl.length cx4, .slice ax5 i.cost.length cx5]]) Try.func56 rfl Try.ntmps56 rfl ?_
 intro a hA
 replace hA : St 42 [(0, _)] a := hA
 refine Ends.seq (Ends.region ?_)
 refine S.box hA hM rfl rfl ?_; clear hA hM a; intro b1 w1 hb2 hM a hA
 replace hM : Mem _ _ [pt b1 #[.int .i64 i.kind, .int .i64 i.n, .int .i64 i.cap, .slice ax3 i.wt.length cx3, .slice ax4 i.vl.length cx4, .slice ax5 i.cost.length cx5] 25] _ := hM
 refine S.val hA (R.assign rfl) rfl ?_; clear hA a; intro a hA
 refine S.done ?_
 refine Ends.seq (Ends.seq (Ends.region ?_))
 refine S.val hA (R.fieldAddr (q := 5) fi25_5 rfl rfl rfl) rfl ?_; clear hA a; intro a hA
 refine S.val hA (R.load sz23 rfl (hM.cell (k := 0) rfl rfl)) rfl ?_; clear hA a; intro a hA
 refine S.val hA (R.lenS Try.underlying23 rfl rfl) rfl ?_; clear hA a; intro a hA
 refine S.val hA (R.move rfl) rfl ?_; clear hA a; intro a hA
 refine S.done ?_
 refine Ends.block ?_
 refine Ends.loop (σ := Nat) (fun r (a : Act) (wv : World) => St 42 [(1, .pointer (some ⟨b1, 0, none⟩)), (9, .slice ax5 i.cost.length cx5), (10, .int .i64 ((i.cost.length : Int))), (11, .int .i64 ((r : Int)))] a ∧ Mem w nof [pt b1 #[.int .i64 i.kind, .int .i64 i.n, .int .i64 i.cap, .slice ax3 i.wt.length cx3, .slice ax4 i.vl.length cx4, .slice ax5 i.cost.length cx5] 25] wv ∧ (r ≤ i.n.toNat) ∧ (pfx (fun r => pfx (cellF i r) i.n.toNat) r = 0)) (fun r => i.n.toNat - r) 0 ⟨hA.sub ((.cons rfl (.cons rfl (.cons rfl (.cons rfl .nil))))), hM, (Nat.zero_le _), rfl⟩ ?_
 clear hA hM a
 rintro r a w2 ⟨hA, hM, hr, hr0⟩ hNext
 refine Ends.seq (Ends.region ?_)
 refine S.val hA (R.lss rfl rfl) rfl ?_; clear hA a; intro a hA
 refine S.done ?_
 refine Ends.seq ?_
 refine Ends.ite hA rfl (fun hc3 => ?_) (fun hc3 => ?_)
 ·
  have hrl := hsq r (by omega)
  refine Ends.skip (Ends.seq (Ends.block (Ends.seq (Ends.region ?_))))
  refine S.val hA (R.move rfl) rfl ?_; clear hA a; intro a hA
  refine S.val hA (R.idxR hx5 (j := r) sl23 rfl rfl (by omega) (rfl)) rfl ?_; clear hA a; intro a hA
  obtain ⟨ra4, rc5, hrow6, hld7⟩ := hx5.atP (i := r) (by omega)
  refine S.val hA (hld7 _ _ _ _ _ _ hM sz22 rfl) rfl ?_; clear hA a; intro a hA
  refine S.val hA (R.assign rfl) rfl ?_; clear hA a; intro a hA
  refine S.val hA (R.assign rfl) rfl ?_; clear hA a; intro a hA
  refine S.done ?_
  replace hA : St 42 [(1, _), (3, _), (4, _), (9, _), (10, _), (11, _)] a := hA.sub ((.cons rfl (.cons rfl (.cons rfl (.cons rfl (.cons rfl (.cons rfl .nil)))))))
  refine Ends.seq (Ends.region ?_)
  refine S.val hA (R.move rfl) rfl ?_; clear hA a; intro a hA
  refine S.val hA (R.lenS Try.underlying22 rfl rfl) rfl ?_; clear hA a; intro a hA
  refine S.val hA (R.move rfl) rfl ?_; clear hA a; intro a hA
  refine S.done ?_
  refine Ends.block ?_
  refine Ends.loop (σ := Nat) (fun c_ (a : Act) (wv : World) => St 42 [(1, .pointer (some ⟨b1, 0, none⟩)), (3, .int .i64 ((r : Int))), (9, .slice ax5 i.cost.length cx5), (10, .int .i64 ((i.cost.length : Int))), (11, .int .i64 ((r : Int))), (16, .slice ra4 (((i.cost.getD r [])).length) rc5), (17, .int .i64 ((((i.cost.getD r [])).length : Int))), (18, .int .i64 ((c_ : Int)))] a ∧ Mem w nof [pt b1 #[.int .i64 i.kind, .int .i64 i.n, .int .i64 i.cap, .slice ax3 i.wt.length cx3, .slice ax4 i.vl.length cx4, .slice ax5 i.cost.length cx5] 25] wv ∧ (c_ ≤ i.n.toNat) ∧ (pfx (cellF i r) c_ = 0)) (fun c_ => i.n.toNat - c_) 0 ⟨hA.sub ((.cons rfl (.cons rfl (.cons rfl (.cons rfl (.cons rfl (.cons rfl (.cons rfl (.cons rfl .nil))))))))), hM, (Nat.zero_le _), rfl⟩ ?_
  clear hA hM a
  rintro c_ a w3 ⟨hA, hM, hcn, hc0⟩ hNext1
  refine Ends.seq (Ends.region ?_)
  refine S.val hA (R.lss rfl rfl) rfl ?_; clear hA a; intro a hA
  refine S.done ?_
  refine Ends.seq ?_
  refine Ends.ite hA rfl (fun hc8 => ?_) (fun hc8 => ?_)
  ·
   refine Ends.skip (Ends.seq (Ends.block (Ends.seq (Ends.region ?_))))
   refine S.val hA (R.move rfl) rfl ?_; clear hA a; intro a hA
   refine S.val hA (R.idxI hrow6 (j := c_) sl22 rfl rfl (by omega) (rfl)) rfl ?_; clear hA a; intro a hA
   refine S.val hA (R.loadI (hrow6.mem hM) sz3 rfl (by omega)) rfl ?_; clear hA a; intro a hA
   refine S.val hA (R.assign rfl) rfl ?_; clear hA a; intro a hA
   refine S.val hA (R.assign rfl) rfl ?_; clear hA a; intro a hA
   refine S.done ?_
   replace hA : St 42 [(1, _), (3, _), (5, _), (6, _), (9, _), (10, _), (11, _), (16, _), (17, _), (18, _)] a := hA.sub ((.cons rfl (.cons rfl (.cons rfl (.cons rfl (.cons rfl (.cons rfl (.cons rfl (.cons rfl (.cons rfl (.cons rfl .nil)))))))))))
   refine Ends.seq (Ends.seq (Ends.region ?_))
   refine S.val hA (R.move rfl) rfl ?_; clear hA a; intro a hA
   refine S.call hA (R.callF Try.func69 rfl rfl rfl) rfl (num05 (((i.cost.getD r [])).getD c_ 0) _) ?_; clear hA a
   rintro e w4 ⟨rfl, hb⟩
   replace hM := hM.callB hb; clear hb
   refine ⟨.int .i64 (numE (((i.cost.getD r [])).getD c_ 0)), rfl, fun a hA => ?_⟩
   refine S.val hA (R.assign rfl) rfl ?_; clear hA a; intro a hA
   refine S.done ?_
   refine Ends.seq (Ends.region ?_)
   refine S.val hA (R.move rfl) rfl ?_; clear hA a; intro a hA
   refine S.val hA (R.neq rfl rfl) rfl ?_; clear hA a; intro a hA
   refine S.done ?_
   refine Ends.ite hA rfl (fun hc9 => ?_) (fun hc9 => ?_)
   ·
    refine Ends.seq (Ends.region ?_)
    refine S.val hA (R.move rfl) rfl ?_; clear hA a; intro a hA
    refine S.val hA (R.assign rfl) rfl ?_; clear hA a; intro a hA
    refine S.done ?_
    replace hA : St 42 [(1, _), (2, _), (3, _), (5, _), (6, _), (9, _), (10, _), (11, _), (16, _), (17, _), (18, _)] a := hA.sub ((.cons rfl (.cons rfl (.cons rfl (.cons rfl (.cons rfl (.cons rfl (.cons rfl (.cons rfl (.cons rfl (.cons rfl (.cons rfl .nil))))))))))))
    refine Ends.ret1 Try.func56 Try.results56 hA rfl ?_
    have hce := cellF_e hc9
    have hne : cellF i r c_ ≠ 0 := by rw [hce]; exact hc9
    have hrw := pfx_err hc0 hne (show c_ < i.n.toNat by omega)
    have hfin := pfx_err (f := fun r => pfx (cellF i r) i.n.toNat) hr0 (by show pfx (cellF i r) i.n.toNat ≠ 0; rw [hrw]; exact hne) (show r < i.n.toNat by omega)
    exact ⟨by rw [hfin]; show _ = Ending.returned (.int .i64 (pfx (cellF i r) i.n.toNat)); rw [hrw, hce], Mem.trans0 hbs hM.nilL⟩
   ·
    refine Ends.skip (Ends.seq ?_)
    refine Ends.cut (fun (a : Act) (wv : World) => St 42 [(1, .pointer (some ⟨b1, 0, none⟩)), (3, .int .i64 ((r : Int))), (9, .slice ax5 i.cost.length cx5), (10, .int .i64 ((i.cost.length : Int))), (11, .int .i64 ((r : Int))), (16, .slice ra4 (((i.cost.getD r [])).length) rc5), (17, .int .i64 ((((i.cost.getD r [])).length : Int))), (18, .int .i64 ((c_ : Int))), (39, .bool (decide (((i.kind = 3 ∧ ((r : Int)) = ((c_ : Int))) ∧ (((i.cost.getD r [])).getD c_ 0) ≠ 0))))] a ∧ Mem w nof [pt b1 #[.int .i64 i.kind, .int .i64 i.n, .int .i64 i.cap, .slice ax3 i.wt.length cx3, .slice ax4 i.vl.length cx4, .slice ax5 i.cost.length cx5] 25] wv) ?_ (fun k2 hJ => ?_)
    ·
     clear hA hM a; rintro a w5 ⟨hA, hM⟩
     refine Ends.ite hA rfl (fun hc10 => ?_) (fun hc10 => ?_)
     ·
      refine Ends.seq (Ends.region ?_)
      refine S.val hA (R.assign rfl) rfl ?_; clear hA a; intro a hA
      refine S.done ?_
      refine Ends.ret1 Try.func56 Try.results56 hA rfl ?_
      have hce := cellF_f hc9 hc10
      have hne : cellF i r c_ ≠ 0 := by rw [hce]; decide
      have hrw := pfx_err hc0 hne (show c_ < i.n.toNat by omega)
      have hfin := pfx_err (f := fun r => pfx (cellF i r) i.n.toNat) hr0 (by show pfx (cellF i r) i.n.toNat ≠ 0; rw [hrw]; exact hne) (show r < i.n.toNat by omega)
      exact ⟨by rw [hfin]; show _ = Ending.returned (.int .i64 (pfx (cellF i r) i.n.toNat)); rw [hrw, hce], Mem.trans0 hbs hM.nilL⟩
     ·
      refine Ends.skip (Ends.inBlock (Ends.region ?_))
      refine S.val hA (R.addI rfl rfl (r := ((c_ : Int)) + 1) rfl (by omega)) rfl ?_; clear hA a; intro a hA
      refine S.val hA (R.move rfl) rfl ?_; clear hA a; intro a hA
      refine S.done ?_
      exact hNext1 ((c_ + 1)) _ _ ((by show i.n.toNat - (c_ + 1) < i.n.toNat - c_; omega)) ⟨hA.sub ((.cons rfl (.cons rfl (.cons rfl (.cons rfl (.cons rfl (.cons rfl (.cons rfl (.cons rfl .nil))))))))), hM, (by omega), (by rw [pfx_step hc0]; exact cellF_z hc9 hc10)⟩
    ·
     refine Ends.region ?_
     refine S.val hA (R.fieldAddr (q := 0) fi25_0 rfl rfl rfl) rfl ?_; clear hA a; intro a hA
     refine S.val hA (R.load sz3 rfl (hM.cell (k := 0) rfl rfl)) rfl ?_; clear hA a; intro a hA
     refine S.val hA (R.eql rfl rfl) rfl ?_; clear hA a; intro a hA
     refine S.val hA (R.move rfl) rfl ?_; clear hA a; intro a hA
     refine hA.split (d := 31) rfl ?_ ?_
     ·
      clear hA; intro hg11 hA
      refine S.valg (dj := 31) hA (by kernel_rfl) rfl (R.move rfl) rfl ?_; clear hA a; intro a hA
      refine S.valg (dj := 31) hA (by kernel_rfl) rfl (R.move rfl) rfl ?_; clear hA a; intro a hA
      refine S.valg (dj := 31) hA (by kernel_rfl) rfl (R.eql rfl rfl) rfl ?_; clear hA a; intro a hA
      refine S.val hA (R.pickT rfl rfl) rfl ?_; clear hA a; intro a hA
      refine S.val hA (R.move rfl) rfl ?_; clear hA a; intro a hA
      refine hA.split (d := 36) rfl ?_ ?_
      ·
       clear hA; intro hg12 hA
       refine S.valg (dj := 36) hA (by kernel_rfl) rfl (R.move rfl) rfl ?_; clear hA a; intro a hA
       refine S.valg (dj := 36) hA (by kernel_rfl) rfl (R.neq rfl rfl) rfl ?_; clear hA a; intro a hA
       refine S.val hA (R.pickT rfl rfl) rfl ?_; clear hA a; intro a hA
       refine S.done ?_
       replace hA : St 42 [(1, _), (3, _), (9, _), (10, _), (11, _), (16, _), (17, _), (18, _), (39, _)] a := hA.sub ((.cons rfl (.cons rfl (.cons rfl (.cons rfl (.cons rfl (.cons rfl (.cons rfl (.cons rfl (.cons rfl .nil))))))))))
       exact hJ _ _ ⟨hA.sub (.cons rfl (.cons rfl (.cons rfl (.cons rfl (.cons rfl (.cons rfl (.cons rfl (.cons rfl (.cons (by first | rfl | exact congrArg (fun b => some (Value.bool b)) (by first | exact decide_eq_decide.2 (by omega) | exact or_bool (by omega) | exact and_bool (by omega) | (simp; done) | (simp [hg11, hg12]; done) | (have h80 := hg11; (try simp at h80); have h81 := hg12; (try simp at h81); simp [h80, h81]; done) | exact (decide_eq_false (fun h9 => hg11 h9.1)).symm | exact (decide_eq_false (fun h9 => hg12 h9.1)).symm)) .nil))))))))), hM⟩
      ·
       clear hA; intro hg12 hA
       refine S.no (dj := 36) hA (by kernel_rfl) rfl rfl rfl ?_; clear hA a; intro a hA
       refine S.no (dj := 36) hA (by kernel_rfl) rfl rfl rfl ?_; clear hA a; intro a hA
       refine S.val hA (R.pickF rfl rfl) rfl ?_; clear hA a; intro a hA
       refine S.done ?_
       replace hA : St 42 [(1, _), (3, _), (9, _), (10, _), (11, _), (16, _), (17, _), (18, _), (39, _)] a := hA.sub ((.cons rfl (.cons rfl (.cons rfl (.cons rfl (.cons rfl (.cons rfl (.cons rfl (.cons rfl (.cons rfl .nil))))))))))
       exact hJ _ _ ⟨hA.sub (.cons rfl (.cons rfl (.cons rfl (.cons rfl (.cons rfl (.cons rfl (.cons rfl (.cons rfl (.cons (by first | rfl | exact congrArg (fun b => some (Value.bool b)) (by first | exact decide_eq_decide.2 (by omega) | exact or_bool (by omega) | exact and_bool (by omega) | (simp; done) | (simp [hg11, hg12]; done) | (have h80 := hg11; (try simp at h80); have h81 := hg12; (try simp at h81); simp [h80, h81]; done) | exact (decide_eq_false (fun h9 => hg11 h9.1)).symm | exact (decide_eq_false (fun h9 => hg12 h9.1)).symm)) .nil))))))))), hM⟩
     ·
      clear hA; intro hg11 hA
      refine S.no (dj := 31) hA (by kernel_rfl) rfl rfl rfl ?_; clear hA a; intro a hA
      refine S.no (dj := 31) hA (by kernel_rfl) rfl rfl rfl ?_; clear hA a; intro a hA
      refine S.no (dj := 31) hA (by kernel_rfl) rfl rfl rfl ?_; clear hA a; intro a hA
      refine S.val hA (R.pickF rfl rfl) rfl ?_; clear hA a; intro a hA
      refine S.val hA (R.move rfl) rfl ?_; clear hA a; intro a hA
      refine S.no (dj := 36) hA (by kernel_rfl) rfl rfl rfl ?_; clear hA a; intro a hA
      refine S.no (dj := 36) hA (by kernel_rfl) rfl rfl rfl ?_; clear hA a; intro a hA
      refine S.val hA (R.pickF rfl rfl) rfl ?_; clear hA a; intro a hA
      refine S.done ?_
      replace hA : St 42 [(1, _), (3, _), (9, _), (10, _), (11, _), (16, _), (17, _), (18, _), (39, _)] a := hA.sub ((.cons rfl (.cons rfl (.cons rfl (.cons rfl (.cons rfl (.cons rfl (.cons rfl (.cons rfl (.cons rfl .nil))))))))))
      exact hJ _ _ ⟨hA.sub (.cons rfl (.cons rfl (.cons rfl (.cons rfl (.cons rfl (.cons rfl (.cons rfl (.cons rfl (.cons (by first | rfl | exact congrArg (fun b => some (Value.bool b)) (by first | exact decide_eq_decide.2 (by omega) | exact or_bool (by omega) | exact and_bool (by omega) | (simp; done) | (simp [hg11]; done) | (have h80 := hg11; (try simp at h80); simp [h80]; done) | exact (decide_eq_false (fun h9 => hg11 h9.1)).symm)) .nil))))))))), hM⟩
  ·
   have hrz : pfx (cellF i r) i.n.toNat = 0 := by rw [show i.n.toNat = c_ by omega]; exact hc0
   refine Ends.exit rfl ?_
   refine Ends.inBlock (Ends.region ?_)
   refine S.val hA (R.addI rfl rfl (r := ((r : Int)) + 1) rfl (by omega)) rfl ?_; clear hA a; intro a hA
   refine S.val hA (R.move rfl) rfl ?_; clear hA a; intro a hA
   refine S.done ?_
   replace hA : St 42 [(1, _), (9, _), (10, _), (11, _)] a := hA.sub ((.cons rfl (.cons rfl (.cons rfl (.cons rfl .nil)))))
   exact hNext ((r + 1)) _ _ ((by show i.n.toNat - (r + 1) < i.n.toNat - r; omega)) ⟨hA.sub ((.cons rfl (.cons rfl (.cons rfl (.cons rfl .nil))))), hM, (by omega), (by rw [pfx_step hr0]; exact hrz)⟩
 ·
  refine Ends.exit rfl ?_
  replace hA : St 42 [] a := hA.sub (.nil)
  refine Ends.seq (Ends.region ?_)
  refine S.val hA (R.assign rfl) rfl ?_; clear hA a; intro a hA
  refine S.done ?_
  refine Ends.ret1 Try.func56 Try.results56 hA rfl ?_
  have hfin := hr0
  rw [show r = i.n.toNat by omega] at hfin
  exact ⟨by rw [hfin], Mem.trans0 hbs hM.nilL⟩
instance (i : Ins) : Decidable (shapeOK i) := by unfold shapeOK; infer_instance
def chk (i : Ins) : Int := if sizeE i ≠ 0 then sizeE i else if shapeOK i then numsE i else 8
theorem chk_size {i : Ins} (h : sizeE i ≠ 0) : chk i = sizeE i := if_pos h
theorem chk_shape {i : Ins} (h : sizeE i = 0) (h2 : ¬ shapeOK i) : chk i = 8 := by unfold chk; rw [if_neg (by rw [h]; simp), if_neg h2]
theorem chk_items {i : Ins} (h : sizeE i = 0) (h2 : shapeOK i) (hk : i.kind = 1) : chk i = if numE i.cap ≠ 0 then numE i.cap else pfx (itF i) i.n.toNat := by unfold chk numsE; rw [if_neg (by rw [h]; simp), if_pos h2, if_pos hk]
theorem chk_rows {i : Ins} (h : sizeE i = 0) (h2 : shapeOK i) (hk : ¬ i.kind = 1) : chk i = pfx (fun r => pfx (cellF i r) i.n.toNat) i.n.toNat := by unfold chk numsE; rw [if_neg (by rw [h]; simp), if_pos h2, if_neg hk]
theorem shape_items {i : Ins} (h2 : shapeOK i) (hk : i.kind = 1) : (i.wt.length : Int) = i.n ∧ (i.vl.length : Int) = i.n ∧ i.cost.length = 0 := by
  rcases h2 with h | h
  · exact h.2
  · exact absurd hk h.1
theorem shape_rows {i : Ins} (h2 : shapeOK i) (hk : ¬ i.kind = 1) : (i.cost.length : Int) = i.n ∧ i.cap = 0 ∧ i.wt.length = 0 ∧ i.vl.length = 0 ∧ ∀ r, r < i.cost.length → ((i.cost.getD r []).length : Int) = i.n := by
  rcases h2 with h | h
  · exact absurd h.1 hk
  · exact h.2
set_option maxRecDepth 100000 in
set_option maxHeartbeats 400000 in
theorem check05 (i : Ins) (ax3 : Option Addr) (cx3 : Nat) (ax4 : Option Addr) (cx4 : Nat) (ax5 : Option Addr) (cx5 : Nat) (hsm : i.wt.length ≤ 1000000 ∧ i.vl.length ≤ 1000000) (w : World) (hx3 : IntSl w (.slice ax3 i.wt.length cx3) i.wt) (hx4 : IntSl w (.slice ax4 i.vl.length cx4) i.vl) (hx5 : RowsV w (.slice ax5 i.cost.length cx5) i.cost) :
  Calls Try.prog 35 #[.agg #[.int .i64 i.kind, .int .i64 i.n, .int .i64 i.cap, .slice ax3 i.wt.length cx3, .slice ax4 i.vl.length cx4, .slice ax5 i.cost.length cx5]] w fun e w' => e = .returned (.int .i64 (chk i)) ∧ Below w.heap.size w w' := by
 have hbs := Below.refl (B := w.heap.size) w
 have hM := Mem.start w
 refine Calls.of_ends (vs := [.agg #[.int .i64 i.kind, .int .i64 i.n, .int .i64 i.cap, .slice ax3 i.wt.length cx3, .slice ax4 i.vl.length cx4, .slice ax5 i.cost.length cx5]]) Try.func35 rfl Try.ntmps35 rfl ?_
 intro a hA
 replace hA : St 21 [(0, _)] a := hA
 refine Ends.seq (Ends.region ?_)
 refine S.box hA hM rfl rfl ?_; clear hA hM a; intro b1 w1 hb2 hM a hA
 replace hM : Mem _ _ [pt b1 #[.int .i64 i.kind, .int .i64 i.n, .int .i64 i.cap, .slice ax3 i.wt.length cx3, .slice ax4 i.vl.length cx4, .slice ax5 i.cost.length cx5] 25] _ := hM
 refine S.val hA (R.assign rfl) rfl ?_; clear hA a; intro a hA
 refine S.done ?_
 refine Ends.seq (Ends.seq (Ends.region ?_))
 refine S.val hA (R.loadA sz25 rfl (hM.range (k := 0) rfl) rfl) rfl ?_; clear hA a; intro a hA
 refine S.call hA (R.callF Try.func53 rfl rfl rfl) rfl (size05 i ax3 cx3 ax4 cx4 ax5 cx5 _ (hx3.mem hM) (hx4.mem hM) (hx5.mem hM)) ?_; clear hA a
 rintro e w2 ⟨rfl, hb⟩
 replace hM := hM.callB hb; clear hb
 refine ⟨.int .i64 (sizeE i), rfl, fun a hA => ?_⟩
 refine S.val hA (R.assign rfl) rfl ?_; clear hA a; intro a hA
 refine S.done ?_
 replace hA : St 21 [(1, _), (3, _)] a := hA.sub ((.cons rfl (.cons rfl .nil)))
 refine Ends.seq (Ends.region ?_)
 refine S.val hA (R.move rfl) rfl ?_; clear hA a; intro a hA
 refine S.val hA (R.neq rfl rfl) rfl ?_; clear hA a; intro a hA
 refine S.done ?_
 refine Ends.ite hA rfl (fun hc3 => ?_) (fun hc3 => ?_)
 ·
  refine Ends.seq (Ends.region ?_)
  refine S.val hA (R.move rfl) rfl ?_; clear hA a; intro a hA
  refine S.val hA (R.assign rfl) rfl ?_; clear hA a; intro a hA
  refine S.done ?_
  replace hA : St 21 [(1, _), (2, _)] a := hA.sub ((.cons rfl (.cons rfl .nil)))
  refine Ends.ret1 Try.func35 Try.results35 hA rfl ?_
  exact ⟨by rw [chk_size hc3], Mem.trans0 hbs hM.nilL⟩
 ·
  have hs0 : sizeE i = 0 := Decidable.not_not.1 hc3
  refine Ends.skip (Ends.seq (Ends.block (Ends.seq (Ends.region ?_))))
  refine S.val hA (R.loadA sz25 rfl (hM.range (k := 0) rfl) rfl) rfl ?_; clear hA a; intro a hA
  refine S.call hA (R.callF Try.func54 rfl rfl rfl) rfl (shape05 i ax3 cx3 ax4 cx4 ax5 cx5 hsm _ (hx3.mem hM) (hx4.mem hM) (hx5.mem hM)) ?_; clear hA a
  rintro e w3 ⟨bs4, rfl, hbs_5, hb⟩
  replace hM := hM.callB hb; clear hb
  refine ⟨.bool bs4, rfl, fun a hA => ?_⟩
  refine S.val hA (R.not rfl) rfl ?_; clear hA a; intro a hA
  refine S.val hA (R.assign rfl) rfl ?_; clear hA a; intro a hA
  refine S.done ?_
  replace hA : St 21 [(1, _), (9, _)] a := hA.sub ((.cons rfl (.cons rfl .nil)))
  refine Ends.iteB hA rfl (fun hc6 => ?_) (fun hc6 => ?_)
  ·
   have hns : ¬ shapeOK i := fun h9 => by have h8 := hbs_5.2 h9; rw [h8] at hc6; cases hc6
   refine Ends.seq (Ends.region ?_)
   refine S.val hA (R.assign rfl) rfl ?_; clear hA a; intro a hA
   refine S.done ?_
   refine Ends.ret1 Try.func35 Try.results35 hA rfl ?_
   exact ⟨by rw [chk_shape hs0 hns], Mem.trans0 hbs hM.nilL⟩
  ·
   have hss : shapeOK i := hbs_5.1 (by simpa using hc6)
   refine Ends.seq (Ends.region ?_)
   refine S.val hA (R.fieldAddr (q := 0) fi25_0 rfl rfl rfl) rfl ?_; clear hA a; intro a hA
   refine S.val hA (R.load sz3 rfl (hM.cell (k := 0) rfl rfl)) rfl ?_; clear hA a; intro a hA
   refine S.val hA (R.eql rfl rfl) rfl ?_; clear hA a; intro a hA
   refine S.val hA (R.assign rfl) rfl ?_; clear hA a; intro a hA
   refine S.done ?_
   replace hA : St 21 [(1, _), (13, _)] a := hA.sub ((.cons rfl (.cons rfl .nil)))
   refine Ends.ite hA rfl (fun hc7 => ?_) (fun hc7 => ?_)
   ·
    have hsp := shape_items hss hc7
    have hkd := hc7
    refine Ends.seq (Ends.region ?_)
    refine S.val hA (R.loadA sz25 rfl (hM.range (k := 0) rfl) rfl) rfl ?_; clear hA a; intro a hA
    refine S.call hA (R.callF Try.func55 rfl rfl rfl) rfl (items05 i ax3 cx3 ax4 cx4 ax5 cx5 ⟨hsp.1, hsp.2.1⟩ _ (hx3.mem hM) (hx4.mem hM) (hx5.mem hM)) ?_; clear hA a
    rintro e w4 ⟨rfl, hb⟩
    replace hM := hM.callB hb; clear hb
    refine ⟨.int .i64 (if numE i.cap ≠ 0 then numE i.cap else pfx (itF i) i.n.toNat), rfl, fun a hA => ?_⟩
    refine S.val hA (R.assign rfl) rfl ?_; clear hA a; intro a hA
    refine S.done ?_
    refine Ends.ret1 Try.func35 Try.results35 hA rfl ?_
    exact ⟨by rw [chk_items hs0 hss hkd], Mem.trans0 hbs hM.nilL⟩
   ·
    have hsp := shape_rows hss hc7
    have hkd := hc7
    refine Ends.skip (Ends.inBlock (Ends.seq (Ends.region ?_)))
    refine S.val hA (R.loadA sz25 rfl (hM.range (k := 0) rfl) rfl) rfl ?_; clear hA a; intro a hA
    refine S.call hA (R.callF Try.func56 rfl rfl rfl) rfl (rows05 i ax3 cx3 ax4 cx4 ax5 cx5 hsp.2.2.2.2 hsp.1 _ (hx3.mem hM) (hx4.mem hM) (hx5.mem hM)) ?_; clear hA a
    rintro e w5 ⟨rfl, hb⟩
    replace hM := hM.callB hb; clear hb
    refine ⟨.int .i64 (pfx (fun r => pfx (cellF i r) i.n.toNat) i.n.toNat), rfl, fun a hA => ?_⟩
    refine S.val hA (R.assign rfl) rfl ?_; clear hA a; intro a hA
    refine S.done ?_
    replace hA : St 21 [(2, _)] a := hA.sub ((.cons rfl .nil))
    refine Ends.ret1 Try.func35 Try.results35 hA rfl ?_
    exact ⟨by rw [chk_rows hs0 hss hkd], Mem.trans0 hbs hM.nilL⟩
set_option maxRecDepth 100000 in
set_option maxHeartbeats 400000 in
theorem rcheck05 (i : Ins) (ax3 : Option Addr) (cx3 : Nat) (ax4 : Option Addr) (cx4 : Nat) (ax5 : Option Addr) (cx5 : Nat) (w : World) (hx3 : IntSl w (.slice ax3 i.wt.length cx3) i.wt) (hx4 : IntSl w (.slice ax4 i.vl.length cx4) i.vl) (hx5 : RowsV w (.slice ax5 i.cost.length cx5) i.cost) :
  Calls Try.prog 15 #[.agg #[.int .i64 i.kind, .int .i64 i.n, .int .i64 i.cap, .slice ax3 i.wt.length cx3, .slice ax4 i.vl.length cx4, .slice ax5 i.cost.length cx5]] w fun e w' => e = .returned (.int .i64 (chk i)) ∧ Below w.heap.size w w' := by
 have hbs := Below.refl (B := w.heap.size) w
 have hl3 := hx3.lenB
 have hl4 := hx4.lenB
 have hl5 := hx5.lenB
 have hM := Mem.start w
 refine Calls.of_ends (vs := [.agg #[.int .i64 i.kind, .int .i64 i.n, .int .i64 i.cap, .slice ax3 i.wt.length cx3, .slice ax4 i.vl.length cx4, .slice ax5 i.cost.length cx5]]) Try.func15 rfl Try.ntmps15 rfl ?_
 intro a hA
 replace hA : St 174 [(0, _)] a := hA
 refine Ends.seq (Ends.region ?_)
 refine S.box hA hM rfl rfl ?_; clear hA hM a; intro b1 w1 hb2 hM a hA
 replace hM : Mem _ _ [pt b1 #[.int .i64 i.kind, .int .i64 i.n, .int .i64 i.cap, .slice ax3 i.wt.length cx3, .slice ax4 i.vl.length cx4, .slice ax5 i.cost.length cx5] 25] _ := hM
 refine S.val hA (R.assign rfl) rfl ?_; clear hA a; intro a hA
 refine S.done ?_
 refine Ends.seq (Ends.seq ?_)
 refine Ends.cut (fun (a : Act) (wv : World) => St 174 [(1, .pointer (some ⟨b1, 0, none⟩)), (18, .bool (decide ((i.kind < 1 ∨ 3 < i.kind))))] a ∧ Mem w nof [pt b1 #[.int .i64 i.kind, .int .i64 i.n, .int .i64 i.cap, .slice ax3 i.wt.length cx3, .slice ax4 i.vl.length cx4, .slice ax5 i.cost.length cx5] 25] wv) ?_ (fun k2 hJ => ?_)
 ·
  clear hA hM a; rintro a w2 ⟨hA, hM⟩
  refine Ends.ite hA rfl (fun hc3 => ?_) (fun hc3 => ?_)
  ·
   refine Ends.seq (Ends.region ?_)
   refine S.val hA (R.assign rfl) rfl ?_; clear hA a; intro a hA
   refine S.done ?_
   refine Ends.ret1 Try.func15 Try.results15 hA rfl ?_
   have he : sizeE i = 14 := by unfold sizeE; (repeat' split) <;> omega
   exact ⟨by rw [chk_size (by rw [he]; decide), he], Mem.trans0 hbs hM.nilL⟩
  ·
   refine Ends.skip (Ends.seq (Ends.seq (Ends.region ?_)))
   refine S.val hA (R.fieldAddr (q := 1) fi25_1 rfl rfl rfl) rfl ?_; clear hA a; intro a hA
   refine S.val hA (R.load sz3 rfl (hM.cell (k := 0) rfl rfl)) rfl ?_; clear hA a; intro a hA
   refine S.val hA (R.lss rfl rfl) rfl ?_; clear hA a; intro a hA
   refine S.done ?_
   refine Ends.ite hA rfl (fun hc4 => ?_) (fun hc4 => ?_)
   ·
    refine Ends.seq (Ends.region ?_)
    refine S.val hA (R.assign rfl) rfl ?_; clear hA a; intro a hA
    refine S.done ?_
    replace hA : St 174 [(1, _), (2, _)] a := hA.sub ((.cons rfl (.cons rfl .nil)))
    refine Ends.ret1 Try.func15 Try.results15 hA rfl ?_
    have he : sizeE i = 1 := by unfold sizeE; (repeat' split) <;> omega
    exact ⟨by rw [chk_size (by rw [he]; decide), he], Mem.trans0 hbs hM.nilL⟩
   ·
    refine Ends.skip (Ends.seq (Ends.seq ?_))
    refine Ends.cut (fun (a : Act) (wv : World) => St 174 [(1, .pointer (some ⟨b1, 0, none⟩)), (39, .bool (decide (((i.kind = 1 ∧ 64 < i.n) ∨ (1 < i.kind ∧ 24 < i.n)))))] a ∧ Mem w nof [pt b1 #[.int .i64 i.kind, .int .i64 i.n, .int .i64 i.cap, .slice ax3 i.wt.length cx3, .slice ax4 i.vl.length cx4, .slice ax5 i.cost.length cx5] 25] wv) ?_ (fun k2 hJ => ?_)
    ·
     clear hA hM a; rintro a w3 ⟨hA, hM⟩
     refine Ends.ite hA rfl (fun hc5 => ?_) (fun hc5 => ?_)
     ·
      refine Ends.seq (Ends.region ?_)
      refine S.val hA (R.assign rfl) rfl ?_; clear hA a; intro a hA
      refine S.done ?_
      refine Ends.ret1 Try.func15 Try.results15 hA rfl ?_
      have he : sizeE i = 5 := by unfold sizeE; (repeat' split) <;> omega
      exact ⟨by rw [chk_size (by rw [he]; decide), he], Mem.trans0 hbs hM.nilL⟩
     ·
      have hs0 : sizeE i = 0 := by unfold sizeE; (repeat' split) <;> omega
      refine Ends.skip (Ends.seq (Ends.seq (Ends.region ?_)))
      refine S.val hA (R.fieldAddr (q := 0) fi25_0 rfl rfl rfl) rfl ?_; clear hA a; intro a hA
      refine S.val hA (R.load sz3 rfl (hM.cell (k := 0) rfl rfl)) rfl ?_; clear hA a; intro a hA
      refine S.val hA (R.eql rfl rfl) rfl ?_; clear hA a; intro a hA
      refine S.done ?_
      refine Ends.ite hA rfl (fun hc6 => ?_) (fun hc6 => ?_)
      ·
       refine Ends.seq (Ends.seq ?_)
       refine Ends.cut (fun (a : Act) (wv : World) => St 174 [(1, .pointer (some ⟨b1, 0, none⟩)), (62, .bool (decide (((((i.wt.length : Int)) ≠ i.n ∨ ((i.vl.length : Int)) ≠ i.n) ∨ ((i.cost.length : Int)) ≠ 0))))] a ∧ Mem w nof [pt b1 #[.int .i64 i.kind, .int .i64 i.n, .int .i64 i.cap, .slice ax3 i.wt.length cx3, .slice ax4 i.vl.length cx4, .slice ax5 i.cost.length cx5] 25] wv) ?_ (fun k2 hJ => ?_)
       ·
        clear hA hM a; rintro a w4 ⟨hA, hM⟩
        refine Ends.ite hA rfl (fun hc7 => ?_) (fun hc7 => ?_)
        ·
         refine Ends.seq (Ends.region ?_)
         refine S.val hA (R.assign rfl) rfl ?_; clear hA a; intro a hA
         refine S.done ?_
         refine Ends.ret1 Try.func15 Try.results15 hA rfl ?_
         have hns : ¬ shapeOK i := by
          unfold shapeOK
          rintro (g | ⟨q1, q2, q3, q4, q5, -⟩)
          · omega
          · omega
         exact ⟨by rw [chk_shape hs0 hns], Mem.trans0 hbs hM.nilL⟩
        ·
         have hss : shapeOK i := .inl ⟨by omega, by omega, by omega, by omega⟩
         have hsp := shape_items hss (by omega)
         refine Ends.skip (Ends.seq (Ends.seq (Ends.region ?_)))
         refine S.val hA (R.fieldAddr (q := 2) fi25_2 rfl rfl rfl) rfl ?_; clear hA a; intro a hA
         refine S.val hA (R.load sz3 rfl (hM.cell (k := 0) rfl rfl)) rfl ?_; clear hA a; intro a hA
         refine S.call hA (R.callF Try.func40 rfl rfl rfl) rfl (rnum05 i.cap _) ?_; clear hA a
         rintro e w5 ⟨rfl, hb⟩
         replace hM := hM.callB hb; clear hb
         refine ⟨.int .i64 (numE i.cap), rfl, fun a hA => ?_⟩
         refine S.val hA (R.assign rfl) rfl ?_; clear hA a; intro a hA
         refine S.done ?_
         replace hA : St 174 [(1, _), (3, _)] a := hA.sub ((.cons rfl (.cons rfl .nil)))
         refine Ends.seq (Ends.region ?_)
         refine S.val hA (R.move rfl) rfl ?_; clear hA a; intro a hA
         refine S.val hA (R.neq rfl rfl) rfl ?_; clear hA a; intro a hA
         refine S.done ?_
         refine Ends.ite hA rfl (fun hc8 => ?_) (fun hc8 => ?_)
         ·
          refine Ends.seq (Ends.region ?_)
          refine S.val hA (R.move rfl) rfl ?_; clear hA a; intro a hA
          refine S.val hA (R.assign rfl) rfl ?_; clear hA a; intro a hA
          refine S.done ?_
          replace hA : St 174 [(1, _), (2, _)] a := hA.sub ((.cons rfl (.cons rfl .nil)))
          refine Ends.ret1 Try.func15 Try.results15 hA rfl ?_
          exact ⟨by rw [chk_items hs0 hss (by omega), if_pos hc8], Mem.trans0 hbs hM.nilL⟩
         ·
          refine Ends.skip (Ends.seq (Ends.seq (Ends.region ?_)))
          refine S.val hA (R.assign rfl) rfl ?_; clear hA a; intro a hA
          refine S.done ?_
          refine Ends.block ?_
          refine Ends.loop (σ := Nat) (fun k (a : Act) (wv : World) => St 174 [(1, .pointer (some ⟨b1, 0, none⟩)), (4, .int .i64 ((k : Int)))] a ∧ Mem w nof [pt b1 #[.int .i64 i.kind, .int .i64 i.n, .int .i64 i.cap, .slice ax3 i.wt.length cx3, .slice ax4 i.vl.length cx4, .slice ax5 i.cost.length cx5] 25] wv ∧ (k ≤ i.n.toNat) ∧ (pfx (itF i) k = 0)) (fun k => i.n.toNat - k) 0 ⟨hA.sub ((.cons rfl (.cons rfl .nil))), hM, (Nat.zero_le _), rfl⟩ ?_
          clear hA hM a
          rintro k a w6 ⟨hA, hM, hk, hp0⟩ hNext
          refine Ends.seq (Ends.seq (Ends.region ?_))
          refine S.val hA (R.move rfl) rfl ?_; clear hA a; intro a hA
          refine S.val hA (R.fieldAddr (q := 1) fi25_1 rfl rfl rfl) rfl ?_; clear hA a; intro a hA
          refine S.val hA (R.load sz3 rfl (hM.cell (k := 0) rfl rfl)) rfl ?_; clear hA a; intro a hA
          refine S.val hA (R.lss rfl rfl) rfl ?_; clear hA a; intro a hA
          refine S.done ?_
          refine Ends.ite hA rfl (fun hc9 => ?_) (fun hc9 => ?_)
          ·
           refine Ends.skip (Ends.seq (Ends.block (Ends.seq (Ends.seq (Ends.region ?_)))))
           refine S.val hA (R.fieldAddr (q := 3) fi25_3 rfl rfl rfl) rfl ?_; clear hA a; intro a hA
           refine S.val hA (R.load sz22 rfl (hM.cell (k := 0) rfl rfl)) rfl ?_; clear hA a; intro a hA
           refine S.val hA (R.move rfl) rfl ?_; clear hA a; intro a hA
           refine S.val hA (R.idxI hx3 (j := k) sl22 rfl rfl (by omega) (rfl)) rfl ?_; clear hA a; intro a hA
           refine S.val hA (R.loadI (hx3.mem hM) sz3 rfl (by omega)) rfl ?_; clear hA a; intro a hA
           refine S.call hA (R.callF Try.func40 rfl rfl rfl) rfl (rnum05 (i.wt.getD k 0) _) ?_; clear hA a
           rintro e w7 ⟨rfl, hb⟩
           replace hM := hM.callB hb; clear hb
           refine ⟨.int .i64 (numE (i.wt.getD k 0)), rfl, fun a hA => ?_⟩
           refine S.val hA (R.assign rfl) rfl ?_; clear hA a; intro a hA
           refine S.done ?_
           replace hA : St 174 [(1, _), (4, _), (5, _)] a := hA.sub ((.cons rfl (.cons rfl (.cons rfl .nil))))
           refine Ends.seq (Ends.region ?_)
           refine S.val hA (R.move rfl) rfl ?_; clear hA a; intro a hA
           refine S.val hA (R.neq rfl rfl) rfl ?_; clear hA a; intro a hA
           refine S.done ?_
           refine Ends.ite hA rfl (fun hc10 => ?_) (fun hc10 => ?_)
           ·
            refine Ends.seq (Ends.region ?_)
            refine S.val hA (R.move rfl) rfl ?_; clear hA a; intro a hA
            refine S.val hA (R.assign rfl) rfl ?_; clear hA a; intro a hA
            refine S.done ?_
            replace hA : St 174 [(1, _), (2, _), (4, _)] a := hA.sub ((.cons rfl (.cons rfl (.cons rfl .nil))))
            refine Ends.ret1 Try.func15 Try.results15 hA rfl ?_
            have hpe := pfx_err hp0 (by rw [itF_e hc10]; exact hc10) (show k < i.n.toNat by omega)
            rw [itF_e hc10] at hpe
            exact ⟨by rw [chk_items hs0 hss (by omega), if_neg hc8, hpe], Mem.trans0 hbs hM.nilL⟩
           ·
            refine Ends.skip (Ends.seq (Ends.region ?_))
            refine S.val hA (R.fieldAddr (q := 4) fi25_4 rfl rfl rfl) rfl ?_; clear hA a; intro a hA
            refine S.val hA (R.load sz22 rfl (hM.cell (k := 0) rfl rfl)) rfl ?_; clear hA a; intro a hA
            refine S.val hA (R.move rfl) rfl ?_; clear hA a; intro a hA
            refine S.val hA (R.idxI hx4 (j := k) sl22 rfl rfl (by omega) (rfl)) rfl ?_; clear hA a; intro a hA
            refine S.val hA (R.loadI (hx4.mem hM) sz3 rfl (by omega)) rfl ?_; clear hA a; intro a hA
            refine S.call hA (R.callF Try.func40 rfl rfl rfl) rfl (rnum05 (i.vl.getD k 0) _) ?_; clear hA a
            rintro e w8 ⟨rfl, hb⟩
            replace hM := hM.callB hb; clear hb
            refine ⟨.int .i64 (numE (i.vl.getD k 0)), rfl, fun a hA => ?_⟩
            refine S.val hA (R.assign rfl) rfl ?_; clear hA a; intro a hA
            refine S.done ?_
            replace hA : St 174 [(1, _), (4, _), (6, _)] a := hA.sub ((.cons rfl (.cons rfl (.cons rfl .nil))))
            refine Ends.seq (Ends.region ?_)
            refine S.val hA (R.move rfl) rfl ?_; clear hA a; intro a hA
            refine S.val hA (R.neq rfl rfl) rfl ?_; clear hA a; intro a hA
            refine S.done ?_
            refine Ends.ite hA rfl (fun hc11 => ?_) (fun hc11 => ?_)
            ·
             refine Ends.seq (Ends.region ?_)
             refine S.val hA (R.move rfl) rfl ?_; clear hA a; intro a hA
             refine S.val hA (R.assign rfl) rfl ?_; clear hA a; intro a hA
             refine S.done ?_
             replace hA : St 174 [(1, _), (2, _), (4, _)] a := hA.sub ((.cons rfl (.cons rfl (.cons rfl .nil))))
             refine Ends.ret1 Try.func15 Try.results15 hA rfl ?_
             have hiz := itF_z (Decidable.not_not.1 hc10)
             have hpe := pfx_err hp0 (by rw [hiz]; exact hc11) (show k < i.n.toNat by omega)
             rw [hiz] at hpe
             exact ⟨by rw [chk_items hs0 hss (by omega), if_neg hc8, hpe], Mem.trans0 hbs hM.nilL⟩
            ·
             refine Ends.skip (Ends.inBlock (Ends.region ?_))
             refine S.val hA (R.move rfl) rfl ?_; clear hA a; intro a hA
             refine S.val hA (R.addI rfl rfl (r := ((k : Int)) + 1) rfl (by omega)) rfl ?_; clear hA a; intro a hA
             refine S.val hA (R.assign rfl) rfl ?_; clear hA a; intro a hA
             refine S.done ?_
             replace hA : St 174 [(1, _), (4, _)] a := hA.sub ((.cons rfl (.cons rfl .nil)))
             exact hNext ((k + 1)) _ _ ((by show i.n.toNat - (k + 1) < i.n.toNat - k; omega)) ⟨hA.sub ((.cons rfl (.cons rfl .nil))), hM, (by omega), (by rw [pfx_step hp0, itF_z (Decidable.not_not.1 hc10)]; exact Decidable.not_not.1 hc11)⟩
          ·
           refine Ends.exit rfl ?_
           replace hA : St 174 [(1, _)] a := hA.sub ((.cons rfl .nil))
           refine Ends.seq (Ends.region ?_)
           refine S.val hA (R.assign rfl) rfl ?_; clear hA a; intro a hA
           refine S.done ?_
           refine Ends.ret1 Try.func15 Try.results15 hA rfl ?_
           rw [show k = i.n.toNat by omega] at hp0
           exact ⟨by rw [chk_items hs0 hss (by omega), if_neg hc8, hp0], Mem.trans0 hbs hM.nilL⟩
       ·
        refine Ends.region ?_
        refine S.val hA (R.fieldAddr (q := 3) fi25_3 rfl rfl rfl) rfl ?_; clear hA a; intro a hA
        refine S.val hA (R.load sz22 rfl (hM.cell (k := 0) rfl rfl)) rfl ?_; clear hA a; intro a hA
        refine S.val hA (R.lenS Try.underlying22 rfl rfl) rfl ?_; clear hA a; intro a hA
        refine S.val hA (R.fieldAddr (q := 1) fi25_1 rfl rfl rfl) rfl ?_; clear hA a; intro a hA
        refine S.val hA (R.load sz3 rfl (hM.cell (k := 0) rfl rfl)) rfl ?_; clear hA a; intro a hA
        refine S.val hA (R.neq rfl rfl) rfl ?_; clear hA a; intro a hA
        refine S.val hA (R.move rfl) rfl ?_; clear hA a; intro a hA
        refine hA.split (d := 49) rfl ?_ ?_
        ·
         clear hA; intro hg12 hA
         refine S.no (dj := 49) hA (by kernel_rfl) rfl rfl rfl ?_; clear hA a; intro a hA
         refine S.no (dj := 49) hA (by kernel_rfl) rfl rfl rfl ?_; clear hA a; intro a hA
         refine S.no (dj := 49) hA (by kernel_rfl) rfl rfl rfl ?_; clear hA a; intro a hA
         refine S.no (dj := 49) hA (by kernel_rfl) rfl rfl rfl ?_; clear hA a; intro a hA
         refine S.no (dj := 49) hA (by kernel_rfl) rfl rfl rfl ?_; clear hA a; intro a hA
         refine S.no (dj := 49) hA (by kernel_rfl) rfl rfl rfl ?_; clear hA a; intro a hA
         refine S.val hA (R.pickT rfl rfl) rfl ?_; clear hA a; intro a hA
         refine S.val hA (R.move rfl) rfl ?_; clear hA a; intro a hA
         refine S.no (dj := 57) hA (by kernel_rfl) rfl rfl rfl ?_; clear hA a; intro a hA
         refine S.no (dj := 57) hA (by kernel_rfl) rfl rfl rfl ?_; clear hA a; intro a hA
         refine S.no (dj := 57) hA (by kernel_rfl) rfl rfl rfl ?_; clear hA a; intro a hA
         refine S.no (dj := 57) hA (by kernel_rfl) rfl rfl rfl ?_; clear hA a; intro a hA
         refine S.val hA (R.pickT rfl rfl) rfl ?_; clear hA a; intro a hA
         refine S.done ?_
         replace hA : St 174 [(1, _), (62, _)] a := hA.sub ((.cons rfl (.cons rfl .nil)))
         exact hJ _ _ ⟨hA.sub (.cons rfl (.cons (by first | rfl | exact congrArg (fun b => some (Value.bool b)) (by first | exact decide_eq_decide.2 (by omega) | exact or_bool (by omega) | exact and_bool (by omega) | (simp; done) | (simp [hg12]; done) | (have h80 := hg12; (try simp at h80); simp [h80]; done) | exact (decide_eq_false (fun h9 => hg12 h9.1)).symm)) .nil)), hM⟩
        ·
         clear hA; intro hg12 hA
         refine S.valg (dj := 49) hA (by kernel_rfl) rfl (R.fieldAddr (q := 4) fi25_4 rfl rfl rfl) rfl ?_; clear hA a; intro a hA
         refine S.valg (dj := 49) hA (by kernel_rfl) rfl (R.load sz22 rfl (hM.cell (k := 0) rfl rfl)) rfl ?_; clear hA a; intro a hA
         refine S.valg (dj := 49) hA (by kernel_rfl) rfl (R.lenS Try.underlying22 rfl rfl) rfl ?_; clear hA a; intro a hA
         refine S.valg (dj := 49) hA (by kernel_rfl) rfl (R.fieldAddr (q := 1) fi25_1 rfl rfl rfl) rfl ?_; clear hA a; intro a hA
         refine S.valg (dj := 49) hA (by kernel_rfl) rfl (R.load sz3 rfl (hM.cell (k := 0) rfl rfl)) rfl ?_; clear hA a; intro a hA
         refine S.valg (dj := 49) hA (by kernel_rfl) rfl (R.neq rfl rfl) rfl ?_; clear hA a; intro a hA
         refine S.val hA (R.pickF rfl rfl) rfl ?_; clear hA a; intro a hA
         refine S.val hA (R.move rfl) rfl ?_; clear hA a; intro a hA
         refine hA.split (d := 57) rfl ?_ ?_
         ·
          clear hA; intro hg13 hA
          refine S.no (dj := 57) hA (by kernel_rfl) rfl rfl rfl ?_; clear hA a; intro a hA
          refine S.no (dj := 57) hA (by kernel_rfl) rfl rfl rfl ?_; clear hA a; intro a hA
          refine S.no (dj := 57) hA (by kernel_rfl) rfl rfl rfl ?_; clear hA a; intro a hA
          refine S.no (dj := 57) hA (by kernel_rfl) rfl rfl rfl ?_; clear hA a; intro a hA
          refine S.val hA (R.pickT rfl rfl) rfl ?_; clear hA a; intro a hA
          refine S.done ?_
          replace hA : St 174 [(1, _), (62, _)] a := hA.sub ((.cons rfl (.cons rfl .nil)))
          exact hJ _ _ ⟨hA.sub (.cons rfl (.cons (by first | rfl | exact congrArg (fun b => some (Value.bool b)) (by first | exact decide_eq_decide.2 (by omega) | exact or_bool (by omega) | exact and_bool (by omega) | (simp; done) | (simp [hg12, hg13]; done) | (have h80 := hg12; (try simp at h80); have h81 := hg13; (try simp at h81); simp [h80, h81]; done) | exact (decide_eq_false (fun h9 => hg12 h9.1)).symm | exact (decide_eq_false (fun h9 => hg13 h9.1)).symm)) .nil)), hM⟩
         ·
          clear hA; intro hg13 hA
          refine S.valg (dj := 57) hA (by kernel_rfl) rfl (R.fieldAddr (q := 5) fi25_5 rfl rfl rfl) rfl ?_; clear hA a; intro a hA
          refine S.valg (dj := 57) hA (by kernel_rfl) rfl (R.load sz23 rfl (hM.cell (k := 0) rfl rfl)) rfl ?_; clear hA a; intro a hA
          refine S.valg (dj := 57) hA (by kernel_rfl) rfl (R.lenS Try.underlying23 rfl rfl) rfl ?_; clear hA a; intro a hA
          refine S.valg (dj := 57) hA (by kernel_rfl) rfl (R.neq rfl rfl) rfl ?_; clear hA a; intro a hA
          refine S.val hA (R.pickF rfl rfl) rfl ?_; clear hA a; intro a hA
          refine S.done ?_
          replace hA : St 174 [(1, _), (62, _)] a := hA.sub ((.cons rfl (.cons rfl .nil)))
          exact hJ _ _ ⟨hA.sub (.cons rfl (.cons (by first | rfl | exact congrArg (fun b => some (Value.bool b)) (by first | exact decide_eq_decide.2 (by omega) | exact or_bool (by omega) | exact and_bool (by omega) | (simp; done) | (simp [hg12, hg13]; done) | (have h80 := hg12; (try simp at h80); have h81 := hg13; (try simp at h81); simp [h80, h81]; done) | exact (decide_eq_false (fun h9 => hg12 h9.1)).symm | exact (decide_eq_false (fun h9 => hg13 h9.1)).symm)) .nil)), hM⟩
      ·
       refine Ends.skip (Ends.seq (Ends.seq ?_))
       refine Ends.cut (fun (a : Act) (wv : World) => St 174 [(1, .pointer (some ⟨b1, 0, none⟩)), (115, .bool (decide ((((((i.cost.length : Int)) ≠ i.n ∨ i.cap ≠ 0) ∨ ((i.wt.length : Int)) ≠ 0) ∨ ((i.vl.length : Int)) ≠ 0))))] a ∧ Mem w nof [pt b1 #[.int .i64 i.kind, .int .i64 i.n, .int .i64 i.cap, .slice ax3 i.wt.length cx3, .slice ax4 i.vl.length cx4, .slice ax5 i.cost.length cx5] 25] wv) ?_ (fun k2 hJ => ?_)
       ·
        clear hA hM a; rintro a w9 ⟨hA, hM⟩
        refine Ends.ite hA rfl (fun hc14 => ?_) (fun hc14 => ?_)
        ·
         refine Ends.seq (Ends.region ?_)
         refine S.val hA (R.assign rfl) rfl ?_; clear hA a; intro a hA
         refine S.done ?_
         refine Ends.ret1 Try.func15 Try.results15 hA rfl ?_
         have hs0 : sizeE i = 0 := hs0
         have hns : ¬ shapeOK i := by
          unfold shapeOK
          rintro (g | ⟨q1, q2, q3, q4, q5, -⟩)
          · omega
          · omega
         exact ⟨by rw [chk_shape hs0 hns], Mem.trans0 hbs hM.nilL⟩
        ·
         refine Ends.skip (Ends.seq (Ends.seq (Ends.region ?_)))
         refine S.val hA (R.assign rfl) rfl ?_; clear hA a; intro a hA
         refine S.done ?_
         refine Ends.block ?_
         refine Ends.loop (σ := Nat) (fun r (a : Act) (wv : World) => St 174 [(1, .pointer (some ⟨b1, 0, none⟩)), (7, .int .i64 ((r : Int)))] a ∧ Mem w nof [pt b1 #[.int .i64 i.kind, .int .i64 i.n, .int .i64 i.cap, .slice ax3 i.wt.length cx3, .slice ax4 i.vl.length cx4, .slice ax5 i.cost.length cx5] 25] wv ∧ (r ≤ i.n.toNat) ∧ (∀ j, j < r → ((i.cost.getD j []).length : Int) = i.n)) (fun r => i.n.toNat - r) 0 ⟨hA.sub ((.cons rfl (.cons rfl .nil))), hM, (Nat.zero_le _), (fun j hj => absurd hj (Nat.not_lt_zero _))⟩ ?_
         clear hA hM a
         rintro r a w10 ⟨hA, hM, hr1, hr2⟩ hNext1
         refine Ends.seq (Ends.seq (Ends.region ?_))
         refine S.val hA (R.move rfl) rfl ?_; clear hA a; intro a hA
         refine S.val hA (R.fieldAddr (q := 1) fi25_1 rfl rfl rfl) rfl ?_; clear hA a; intro a hA
         refine S.val hA (R.load sz3 rfl (hM.cell (k := 0) rfl rfl)) rfl ?_; clear hA a; intro a hA
         refine S.val hA (R.lss rfl rfl) rfl ?_; clear hA a; intro a hA
         refine S.done ?_
         refine Ends.ite hA rfl (fun hc15 => ?_) (fun hc15 => ?_)
         ·
          refine Ends.skip (Ends.seq (Ends.block (Ends.seq ?_)))
          refine Ends.drawn (Mem w nof [pt b1 #[.int .i64 i.kind, .int .i64 i.n, .int .i64 i.cap, .slice ax3 i.wt.length cx3, .slice ax4 i.vl.length cx4, .slice ax5 i.cost.length cx5] 25]) (.cons (0, true) (.cons (1, true) (.cons (2, true) (.cons (3, true) (.cons (4, true) (.cons (5, true) (.cons (6, true) (.cons (7, true) (.cons (8, true) .nil))))))))) 9 mixed (by kernel_rfl) (by kernel_rfl) (by kernel_rfl) hM.drew ?_
          replace hM := hM.drew
          refine D.valF hA rfl (fun _ => R.fieldAddr (q := 5) fi25_5 rfl rfl rfl) rfl ?_; clear hA a; intro a hA
          refine D.val hA rfl (by kernel_rfl) (fun _ hM => R.load sz23 rfl (hM.cell (k := 0) rfl rfl)) rfl ?_; clear hA a; intro a hA
          refine D.valF hA rfl (fun _ => R.move rfl) rfl ?_; clear hA a; intro a hA
          refine D.valF hA rfl (fun _ => R.idxR hx5 (j := r) sl23 rfl rfl (by omega) (rfl)) rfl ?_; clear hA a; intro a hA
          obtain ⟨ra16, rc17, hrow18, hld19⟩ := hx5.atP (i := r) (by omega)
          refine D.val hA rfl (by kernel_rfl) (fun _ hM => hld19 _ _ _ _ _ _ hM sz22 rfl) rfl ?_; clear hA a; intro a hA
          refine D.valF hA rfl (fun _ => R.lenS Try.underlying22 rfl rfl) rfl ?_; clear hA a; intro a hA
          refine D.valF hA rfl (fun _ => R.fieldAddr (q := 1) fi25_1 rfl rfl rfl) rfl ?_; clear hA a; intro a hA
          refine D.val hA rfl (by kernel_rfl) (fun _ hM => R.load sz3 rfl (hM.cell (k := 0) rfl rfl)) rfl ?_; clear hA a; intro a hA
          refine D.valF hA rfl (fun _ => R.neq rfl rfl) rfl ?_; clear hA a; intro a hA
          refine D.done ?_
          replace hA : St 174 [(1, _), (7, _), (130, _)] a := hA.sub ((.cons rfl (.cons rfl (.cons rfl .nil))))
          refine Ends.ite hA rfl (fun hc20 => ?_) (fun hc20 => ?_)
          ·
           refine Ends.seq (Ends.region ?_)
           refine S.val hA (R.assign rfl) rfl ?_; clear hA a; intro a hA
           refine S.done ?_
           refine Ends.ret1 Try.func15 Try.results15 hA rfl ?_
           have hns : ¬ shapeOK i := by
            unfold shapeOK
            rintro (g | ⟨q1, q2, q3, q4, q5, q6⟩)
            · omega
            · exact hc20 (q6 r (by omega))
           exact ⟨by rw [chk_shape hs0 hns], Mem.trans0 hbs hM.nilL⟩
          ·
           refine Ends.skip (Ends.inBlock (Ends.region ?_))
           refine S.val hA (R.move rfl) rfl ?_; clear hA a; intro a hA
           refine S.val hA (R.addI rfl rfl (r := ((r : Int)) + 1) rfl (by omega)) rfl ?_; clear hA a; intro a hA
           refine S.val hA (R.assign rfl) rfl ?_; clear hA a; intro a hA
           refine S.done ?_
           exact hNext1 ((r + 1)) _ _ ((by show i.n.toNat - (r + 1) < i.n.toNat - r; omega)) ⟨hA.sub ((.cons rfl (.cons rfl .nil))), hM, (by omega), (fun j hj => (Nat.lt_or_ge j r).elim (fun g => hr2 j g) (fun g => by have e : j = r := (by omega); rw [e]; exact Decidable.not_not.1 hc20))⟩
         ·
          have hss : shapeOK i := .inr ⟨by omega, by omega, by omega, by omega, by omega, fun j hj => hr2 j (by omega)⟩
          have hsq := (shape_rows hss (by omega)).2.2.2.2
          refine Ends.exit rfl ?_
          replace hA : St 174 [(1, _)] a := hA.sub ((.cons rfl .nil))
          refine Ends.seq (Ends.seq (Ends.region ?_))
          refine S.val hA (R.assign rfl) rfl ?_; clear hA a; intro a hA
          refine S.done ?_
          refine Ends.block ?_
          refine Ends.loop (σ := Nat) (fun r (a : Act) (wv : World) => St 174 [(1, .pointer (some ⟨b1, 0, none⟩)), (8, .int .i64 ((r : Int)))] a ∧ Mem w nof [pt b1 #[.int .i64 i.kind, .int .i64 i.n, .int .i64 i.cap, .slice ax3 i.wt.length cx3, .slice ax4 i.vl.length cx4, .slice ax5 i.cost.length cx5] 25] wv ∧ (r ≤ i.n.toNat) ∧ (pfx (fun r => pfx (cellF i r) i.n.toNat) r = 0)) (fun r => i.n.toNat - r) 0 ⟨hA.sub ((.cons rfl (.cons rfl .nil))), hM, (Nat.zero_le _), rfl⟩ ?_
          clear hA hM a
          rintro r a w11 ⟨hA, hM, hr, hr0⟩ hNext2
          refine Ends.seq (Ends.seq (Ends.region ?_))
          refine S.val hA (R.move rfl) rfl ?_; clear hA a; intro a hA
          refine S.val hA (R.fieldAddr (q := 1) fi25_1 rfl rfl rfl) rfl ?_; clear hA a; intro a hA
          refine S.val hA (R.load sz3 rfl (hM.cell (k := 0) rfl rfl)) rfl ?_; clear hA a; intro a hA
          refine S.val hA (R.lss rfl rfl) rfl ?_; clear hA a; intro a hA
          refine S.done ?_
          refine Ends.ite hA rfl (fun hc21 => ?_) (fun hc21 => ?_)
          ·
           have hrl := hsq r (by omega)
           refine Ends.skip (Ends.seq (Ends.block (Ends.seq (Ends.region ?_))))
           refine S.val hA (R.assign rfl) rfl ?_; clear hA a; intro a hA
           refine S.done ?_
           replace hA : St 174 [(1, _), (8, _), (9, _)] a := hA.sub ((.cons rfl (.cons rfl (.cons rfl .nil))))
           refine Ends.block ?_
           refine Ends.loop (σ := Nat) (fun c_ (a : Act) (wv : World) => St 174 [(1, .pointer (some ⟨b1, 0, none⟩)), (8, .int .i64 ((r : Int))), (9, .int .i64 ((c_ : Int)))] a ∧ Mem w nof [pt b1 #[.int .i64 i.kind, .int .i64 i.n, .int .i64 i.cap, .slice ax3 i.wt.length cx3, .slice ax4 i.vl.length cx4, .slice ax5 i.cost.length cx5] 25] wv ∧ (c_ ≤ i.n.toNat) ∧ (pfx (cellF i r) c_ = 0)) (fun c_ => i.n.toNat - c_) 0 ⟨hA.sub ((.cons rfl (.cons rfl (.cons rfl .nil)))), hM, (Nat.zero_le _), rfl⟩ ?_
           clear hA hM a
           rintro c_ a w12 ⟨hA, hM, hcn, hc0⟩ hNext3
           refine Ends.seq (Ends.seq (Ends.region ?_))
           refine S.val hA (R.move rfl) rfl ?_; clear hA a; intro a hA
           refine S.val hA (R.fieldAddr (q := 1) fi25_1 rfl rfl rfl) rfl ?_; clear hA a; intro a hA
           refine S.val hA (R.load sz3 rfl (hM.cell (k := 0) rfl rfl)) rfl ?_; clear hA a; intro a hA
           refine S.val hA (R.lss rfl rfl) rfl ?_; clear hA a; intro a hA
           refine S.done ?_
           refine Ends.ite hA rfl (fun hc22 => ?_) (fun hc22 => ?_)
           ·
            refine Ends.skip (Ends.seq (Ends.block (Ends.seq (Ends.seq (Ends.region ?_)))))
            refine S.val hA (R.fieldAddr (q := 5) fi25_5 rfl rfl rfl) rfl ?_; clear hA a; intro a hA
            refine S.val hA (R.load sz23 rfl (hM.cell (k := 0) rfl rfl)) rfl ?_; clear hA a; intro a hA
            refine S.val hA (R.move rfl) rfl ?_; clear hA a; intro a hA
            refine S.val hA (R.idxR hx5 (j := r) sl23 rfl rfl (by omega) (rfl)) rfl ?_; clear hA a; intro a hA
            obtain ⟨ra23, rc24, hrow25, hld26⟩ := hx5.atP (i := r) (by omega)
            refine S.val hA (hld26 _ _ _ _ _ _ hM sz22 rfl) rfl ?_; clear hA a; intro a hA
            refine S.val hA (R.move rfl) rfl ?_; clear hA a; intro a hA
            refine S.val hA (R.idxI hrow25 (j := c_) sl22 rfl rfl (by omega) (rfl)) rfl ?_; clear hA a; intro a hA
            refine S.val hA (R.loadI (hrow25.mem hM) sz3 rfl (by omega)) rfl ?_; clear hA a; intro a hA
            refine S.call hA (R.callF Try.func40 rfl rfl rfl) rfl (rnum05 (((i.cost.getD r [])).getD c_ 0) _) ?_; clear hA a
            rintro e w13 ⟨rfl, hb⟩
            replace hM := hM.callB hb; clear hb
            refine ⟨.int .i64 (numE (((i.cost.getD r [])).getD c_ 0)), rfl, fun a hA => ?_⟩
            refine S.val hA (R.assign rfl) rfl ?_; clear hA a; intro a hA
            refine S.done ?_
            replace hA : St 174 [(1, _), (8, _), (9, _), (10, _)] a := hA.sub ((.cons rfl (.cons rfl (.cons rfl (.cons rfl .nil)))))
            refine Ends.seq (Ends.region ?_)
            refine S.val hA (R.move rfl) rfl ?_; clear hA a; intro a hA
            refine S.val hA (R.neq rfl rfl) rfl ?_; clear hA a; intro a hA
            refine S.done ?_
            refine Ends.ite hA rfl (fun hc27 => ?_) (fun hc27 => ?_)
            ·
             refine Ends.seq (Ends.region ?_)
             refine S.val hA (R.move rfl) rfl ?_; clear hA a; intro a hA
             refine S.val hA (R.assign rfl) rfl ?_; clear hA a; intro a hA
             refine S.done ?_
             replace hA : St 174 [(1, _), (2, _), (8, _), (9, _)] a := hA.sub ((.cons rfl (.cons rfl (.cons rfl (.cons rfl .nil)))))
             refine Ends.ret1 Try.func15 Try.results15 hA rfl ?_
             have hce := cellF_e hc27
             have hne : cellF i r c_ ≠ 0 := by rw [hce]; exact hc27
             have hrw := pfx_err hc0 hne (show c_ < i.n.toNat by omega)
             have hfin := pfx_err (f := fun r => pfx (cellF i r) i.n.toNat) hr0 (by show pfx (cellF i r) i.n.toNat ≠ 0; rw [hrw]; exact hne) (show r < i.n.toNat by omega)
             have hck := chk_rows hs0 hss (by omega)
             rw [hfin] at hck
             replace hck : chk i = pfx (cellF i r) i.n.toNat := hck
             rw [hrw, hce] at hck
             exact ⟨by rw [hck], Mem.trans0 hbs hM.nilL⟩
            ·
             refine Ends.skip (Ends.seq ?_)
             refine Ends.cut (fun (a : Act) (wv : World) => St 174 [(1, .pointer (some ⟨b1, 0, none⟩)), (8, .int .i64 ((r : Int))), (9, .int .i64 ((c_ : Int))), (173, .bool (decide (((i.kind = 3 ∧ ((r : Int)) = ((c_ : Int))) ∧ (((i.cost.getD r [])).getD c_ 0) ≠ 0))))] a ∧ Mem w nof [pt b1 #[.int .i64 i.kind, .int .i64 i.n, .int .i64 i.cap, .slice ax3 i.wt.length cx3, .slice ax4 i.vl.length cx4, .slice ax5 i.cost.length cx5] 25] wv) ?_ (fun k2 hJ => ?_)
             ·
              clear hA hM a; rintro a w14 ⟨hA, hM⟩
              refine Ends.ite hA rfl (fun hc28 => ?_) (fun hc28 => ?_)
              ·
               refine Ends.seq (Ends.region ?_)
               refine S.val hA (R.assign rfl) rfl ?_; clear hA a; intro a hA
               refine S.done ?_
               refine Ends.ret1 Try.func15 Try.results15 hA rfl ?_
               have hce := cellF_f hc27 hc28
               have hne : cellF i r c_ ≠ 0 := by rw [hce]; decide
               have hrw := pfx_err hc0 hne (show c_ < i.n.toNat by omega)
               have hfin := pfx_err (f := fun r => pfx (cellF i r) i.n.toNat) hr0 (by show pfx (cellF i r) i.n.toNat ≠ 0; rw [hrw]; exact hne) (show r < i.n.toNat by omega)
               have hck := chk_rows hs0 hss (by omega)
               rw [hfin] at hck
               replace hck : chk i = pfx (cellF i r) i.n.toNat := hck
               rw [hrw, hce] at hck
               exact ⟨by rw [hck], Mem.trans0 hbs hM.nilL⟩
              ·
               refine Ends.skip (Ends.inBlock (Ends.region ?_))
               refine S.val hA (R.move rfl) rfl ?_; clear hA a; intro a hA
               refine S.val hA (R.addI rfl rfl (r := ((c_ : Int)) + 1) rfl (by omega)) rfl ?_; clear hA a; intro a hA
               refine S.val hA (R.assign rfl) rfl ?_; clear hA a; intro a hA
               refine S.done ?_
               exact hNext3 ((c_ + 1)) _ _ ((by show i.n.toNat - (c_ + 1) < i.n.toNat - c_; omega)) ⟨hA.sub ((.cons rfl (.cons rfl (.cons rfl .nil)))), hM, (by omega), (by rw [pfx_step hc0]; exact cellF_z hc27 hc28)⟩
             ·
              refine Ends.region ?_
              refine S.val hA (R.fieldAddr (q := 0) fi25_0 rfl rfl rfl) rfl ?_; clear hA a; intro a hA
              refine S.val hA (R.load sz3 rfl (hM.cell (k := 0) rfl rfl)) rfl ?_; clear hA a; intro a hA
              refine S.val hA (R.eql rfl rfl) rfl ?_; clear hA a; intro a hA
              refine S.val hA (R.move rfl) rfl ?_; clear hA a; intro a hA
              refine hA.split (d := 158) rfl ?_ ?_
              ·
               clear hA; intro hg29 hA
               refine S.valg (dj := 158) hA (by kernel_rfl) rfl (R.move rfl) rfl ?_; clear hA a; intro a hA
               refine S.valg (dj := 158) hA (by kernel_rfl) rfl (R.move rfl) rfl ?_; clear hA a; intro a hA
               refine S.valg (dj := 158) hA (by kernel_rfl) rfl (R.eql rfl rfl) rfl ?_; clear hA a; intro a hA
               refine S.val hA (R.pickT rfl rfl) rfl ?_; clear hA a; intro a hA
               refine S.val hA (R.move rfl) rfl ?_; clear hA a; intro a hA
               refine hA.split (d := 163) rfl ?_ ?_
               ·
                clear hA; intro hg30 hA
                refine S.valg (dj := 163) hA (by kernel_rfl) rfl (R.fieldAddr (q := 5) fi25_5 rfl rfl rfl) rfl ?_; clear hA a; intro a hA
                refine S.valg (dj := 163) hA (by kernel_rfl) rfl (R.load sz23 rfl (hM.cell (k := 0) rfl rfl)) rfl ?_; clear hA a; intro a hA
                refine S.valg (dj := 163) hA (by kernel_rfl) rfl (R.move rfl) rfl ?_; clear hA a; intro a hA
                refine S.valg (dj := 163) hA (by kernel_rfl) rfl (R.idxR hx5 (j := r) sl23 rfl rfl (by omega) (rfl)) rfl ?_; clear hA a; intro a hA
                obtain ⟨ra31, rc32, hrow33, hld34⟩ := hx5.atP (i := r) (by omega)
                refine S.valg (dj := 163) hA (by kernel_rfl) rfl (hld34 _ _ _ _ _ _ hM sz22 rfl) rfl ?_; clear hA a; intro a hA
                refine S.valg (dj := 163) hA (by kernel_rfl) rfl (R.move rfl) rfl ?_; clear hA a; intro a hA
                refine S.valg (dj := 163) hA (by kernel_rfl) rfl (R.idxI hrow33 (j := c_) sl22 rfl rfl (by omega) (rfl)) rfl ?_; clear hA a; intro a hA
                refine S.valg (dj := 163) hA (by kernel_rfl) rfl (R.loadI (hrow33.mem hM) sz3 rfl (by omega)) rfl ?_; clear hA a; intro a hA
                refine S.valg (dj := 163) hA (by kernel_rfl) rfl (R.neq rfl rfl) rfl ?_; clear hA a; intro a hA
                refine S.val hA (R.pickT rfl rfl) rfl ?_; clear hA a; intro a hA
                refine S.done ?_
                replace hA : St 174 [(1, _), (8, _), (9, _), (173, _)] a := hA.sub ((.cons rfl (.cons rfl (.cons rfl (.cons rfl .nil)))))
                exact hJ _ _ ⟨hA.sub (.cons rfl (.cons rfl (.cons rfl (.cons (by first | rfl | exact congrArg (fun b => some (Value.bool b)) (by first | exact decide_eq_decide.2 (by omega) | exact or_bool (by omega) | exact and_bool (by omega) | (simp; done) | (simp [hg29, hg30]; done) | (have h80 := hg29; (try simp at h80); have h81 := hg30; (try simp at h81); simp [h80, h81]; done) | exact (decide_eq_false (fun h9 => hg29 h9.1)).symm | exact (decide_eq_false (fun h9 => hg30 h9.1)).symm)) .nil)))), hM⟩
               ·
                clear hA; intro hg30 hA
                refine S.no (dj := 163) hA (by kernel_rfl) rfl rfl rfl ?_; clear hA a; intro a hA
                refine S.no (dj := 163) hA (by kernel_rfl) rfl rfl rfl ?_; clear hA a; intro a hA
                refine S.no (dj := 163) hA (by kernel_rfl) rfl rfl rfl ?_; clear hA a; intro a hA
                refine S.no (dj := 163) hA (by kernel_rfl) rfl rfl rfl ?_; clear hA a; intro a hA
                refine S.no (dj := 163) hA (by kernel_rfl) rfl rfl rfl ?_; clear hA a; intro a hA
                refine S.no (dj := 163) hA (by kernel_rfl) rfl rfl rfl ?_; clear hA a; intro a hA
                refine S.no (dj := 163) hA (by kernel_rfl) rfl rfl rfl ?_; clear hA a; intro a hA
                refine S.no (dj := 163) hA (by kernel_rfl) rfl rfl rfl ?_; clear hA a; intro a hA
                refine S.no (dj := 163) hA (by kernel_rfl) rfl rfl rfl ?_; clear hA a; intro a hA
                refine S.val hA (R.pickF rfl rfl) rfl ?_; clear hA a; intro a hA
                refine S.done ?_
                replace hA : St 174 [(1, _), (8, _), (9, _), (173, _)] a := hA.sub ((.cons rfl (.cons rfl (.cons rfl (.cons rfl .nil)))))
                exact hJ _ _ ⟨hA.sub (.cons rfl (.cons rfl (.cons rfl (.cons (by first | rfl | exact congrArg (fun b => some (Value.bool b)) (by first | exact decide_eq_decide.2 (by omega) | exact or_bool (by omega) | exact and_bool (by omega) | (simp; done) | (simp [hg29, hg30]; done) | (have h80 := hg29; (try simp at h80); have h81 := hg30; (try simp at h81); simp [h80, h81]; done) | exact (decide_eq_false (fun h9 => hg29 h9.1)).symm | exact (decide_eq_false (fun h9 => hg30 h9.1)).symm)) .nil)))), hM⟩
              ·
               clear hA; intro hg29 hA
               refine S.no (dj := 158) hA (by kernel_rfl) rfl rfl rfl ?_; clear hA a; intro a hA
               refine S.no (dj := 158) hA (by kernel_rfl) rfl rfl rfl ?_; clear hA a; intro a hA
               refine S.no (dj := 158) hA (by kernel_rfl) rfl rfl rfl ?_; clear hA a; intro a hA
               refine S.val hA (R.pickF rfl rfl) rfl ?_; clear hA a; intro a hA
               refine S.val hA (R.move rfl) rfl ?_; clear hA a; intro a hA
               refine S.no (dj := 163) hA (by kernel_rfl) rfl rfl rfl ?_; clear hA a; intro a hA
               refine S.no (dj := 163) hA (by kernel_rfl) rfl rfl rfl ?_; clear hA a; intro a hA
               refine S.no (dj := 163) hA (by kernel_rfl) rfl rfl rfl ?_; clear hA a; intro a hA
               refine S.no (dj := 163) hA (by kernel_rfl) rfl rfl rfl ?_; clear hA a; intro a hA
               refine S.no (dj := 163) hA (by kernel_rfl) rfl rfl rfl ?_; clear hA a; intro a hA
               refine S.no (dj := 163) hA (by kernel_rfl) rfl rfl rfl ?_; clear hA a; intro a hA
               refine S.no (dj := 163) hA (by kernel_rfl) rfl rfl rfl ?_; clear hA a; intro a hA
               refine S.no (dj := 163) hA (by kernel_rfl) rfl rfl rfl ?_; clear hA a; intro a hA
               refine S.no (dj := 163) hA (by kernel_rfl) rfl rfl rfl ?_; clear hA a; intro a hA
               refine S.val hA (R.pickF rfl rfl) rfl ?_; clear hA a; intro a hA
               refine S.done ?_
               replace hA : St 174 [(1, _), (8, _), (9, _), (173, _)] a := hA.sub ((.cons rfl (.cons rfl (.cons rfl (.cons rfl .nil)))))
               exact hJ _ _ ⟨hA.sub (.cons rfl (.cons rfl (.cons rfl (.cons (by first | rfl | exact congrArg (fun b => some (Value.bool b)) (by first | exact decide_eq_decide.2 (by omega) | exact or_bool (by omega) | exact and_bool (by omega) | (simp; done) | (simp [hg29]; done) | (have h80 := hg29; (try simp at h80); simp [h80]; done) | exact (decide_eq_false (fun h9 => hg29 h9.1)).symm)) .nil)))), hM⟩
           ·
            have hrz : pfx (cellF i r) i.n.toNat = 0 := by rw [show i.n.toNat = c_ by omega]; exact hc0
            refine Ends.exit rfl ?_
            refine Ends.inBlock (Ends.region ?_)
            refine S.val hA (R.move rfl) rfl ?_; clear hA a; intro a hA
            refine S.val hA (R.addI rfl rfl (r := ((r : Int)) + 1) rfl (by omega)) rfl ?_; clear hA a; intro a hA
            refine S.val hA (R.assign rfl) rfl ?_; clear hA a; intro a hA
            refine S.done ?_
            replace hA : St 174 [(1, _), (8, _)] a := hA.sub ((.cons rfl (.cons rfl .nil)))
            exact hNext2 ((r + 1)) _ _ ((by show i.n.toNat - (r + 1) < i.n.toNat - r; omega)) ⟨hA.sub ((.cons rfl (.cons rfl .nil))), hM, (by omega), (by rw [pfx_step hr0]; exact hrz)⟩
          ·
           refine Ends.exit rfl ?_
           replace hA : St 174 [] a := hA.sub (.nil)
           refine Ends.seq (Ends.region ?_)
           refine S.val hA (R.assign rfl) rfl ?_; clear hA a; intro a hA
           refine S.done ?_
           refine Ends.ret1 Try.func15 Try.results15 hA rfl ?_
           have hfin := hr0
           rw [show r = i.n.toNat by omega] at hfin
           have hck := chk_rows hs0 hss (by omega)
           rw [hfin] at hck
           exact ⟨by rw [hck], Mem.trans0 hbs hM.nilL⟩
       ·
        refine Ends.region ?_
        refine S.val hA (R.fieldAddr (q := 5) fi25_5 rfl rfl rfl) rfl ?_; clear hA a; intro a hA
        refine S.val hA (R.load sz23 rfl (hM.cell (k := 0) rfl rfl)) rfl ?_; clear hA a; intro a hA
        refine S.val hA (R.lenS Try.underlying23 rfl rfl) rfl ?_; clear hA a; intro a hA
        refine S.val hA (R.fieldAddr (q := 1) fi25_1 rfl rfl rfl) rfl ?_; clear hA a; intro a hA
        refine S.val hA (R.load sz3 rfl (hM.cell (k := 0) rfl rfl)) rfl ?_; clear hA a; intro a hA
        refine S.val hA (R.neq rfl rfl) rfl ?_; clear hA a; intro a hA
        refine S.val hA (R.move rfl) rfl ?_; clear hA a; intro a hA
        refine hA.split (d := 99) rfl ?_ ?_
        ·
         clear hA; intro hg35 hA
         refine S.no (dj := 99) hA (by kernel_rfl) rfl rfl rfl ?_; clear hA a; intro a hA
         refine S.no (dj := 99) hA (by kernel_rfl) rfl rfl rfl ?_; clear hA a; intro a hA
         refine S.no (dj := 99) hA (by kernel_rfl) rfl rfl rfl ?_; clear hA a; intro a hA
         refine S.val hA (R.pickT rfl rfl) rfl ?_; clear hA a; intro a hA
         refine S.val hA (R.move rfl) rfl ?_; clear hA a; intro a hA
         refine S.no (dj := 104) hA (by kernel_rfl) rfl rfl rfl ?_; clear hA a; intro a hA
         refine S.no (dj := 104) hA (by kernel_rfl) rfl rfl rfl ?_; clear hA a; intro a hA
         refine S.no (dj := 104) hA (by kernel_rfl) rfl rfl rfl ?_; clear hA a; intro a hA
         refine S.no (dj := 104) hA (by kernel_rfl) rfl rfl rfl ?_; clear hA a; intro a hA
         refine S.val hA (R.pickT rfl rfl) rfl ?_; clear hA a; intro a hA
         refine S.val hA (R.move rfl) rfl ?_; clear hA a; intro a hA
         refine S.no (dj := 110) hA (by kernel_rfl) rfl rfl rfl ?_; clear hA a; intro a hA
         refine S.no (dj := 110) hA (by kernel_rfl) rfl rfl rfl ?_; clear hA a; intro a hA
         refine S.no (dj := 110) hA (by kernel_rfl) rfl rfl rfl ?_; clear hA a; intro a hA
         refine S.no (dj := 110) hA (by kernel_rfl) rfl rfl rfl ?_; clear hA a; intro a hA
         refine S.val hA (R.pickT rfl rfl) rfl ?_; clear hA a; intro a hA
         refine S.done ?_
         replace hA : St 174 [(1, _), (115, _)] a := hA.sub ((.cons rfl (.cons rfl .nil)))
         exact hJ _ _ ⟨hA.sub (.cons rfl (.cons (by first | rfl | exact congrArg (fun b => some (Value.bool b)) (by first | exact decide_eq_decide.2 (by omega) | exact or_bool (by omega) | exact and_bool (by omega) | (simp; done) | (simp [hg35]; done) | (have h80 := hg35; (try simp at h80); simp [h80]; done) | exact (decide_eq_false (fun h9 => hg35 h9.1)).symm)) .nil)), hM⟩
        ·
         clear hA; intro hg35 hA
         refine S.valg (dj := 99) hA (by kernel_rfl) rfl (R.fieldAddr (q := 2) fi25_2 rfl rfl rfl) rfl ?_; clear hA a; intro a hA
         refine S.valg (dj := 99) hA (by kernel_rfl) rfl (R.load sz3 rfl (hM.cell (k := 0) rfl rfl)) rfl ?_; clear hA a; intro a hA
         refine S.valg (dj := 99) hA (by kernel_rfl) rfl (R.neq rfl rfl) rfl ?_; clear hA a; intro a hA
         refine S.val hA (R.pickF rfl rfl) rfl ?_; clear hA a; intro a hA
         refine S.val hA (R.move rfl) rfl ?_; clear hA a; intro a hA
         refine hA.split (d := 104) rfl ?_ ?_
         ·
          clear hA; intro hg36 hA
          refine S.no (dj := 104) hA (by kernel_rfl) rfl rfl rfl ?_; clear hA a; intro a hA
          refine S.no (dj := 104) hA (by kernel_rfl) rfl rfl rfl ?_; clear hA a; intro a hA
          refine S.no (dj := 104) hA (by kernel_rfl) rfl rfl rfl ?_; clear hA a; intro a hA
          refine S.no (dj := 104) hA (by kernel_rfl) rfl rfl rfl ?_; clear hA a; intro a hA
          refine S.val hA (R.pickT rfl rfl) rfl ?_; clear hA a; intro a hA
          refine S.val hA (R.move rfl) rfl ?_; clear hA a; intro a hA
          refine S.no (dj := 110) hA (by kernel_rfl) rfl rfl rfl ?_; clear hA a; intro a hA
          refine S.no (dj := 110) hA (by kernel_rfl) rfl rfl rfl ?_; clear hA a; intro a hA
          refine S.no (dj := 110) hA (by kernel_rfl) rfl rfl rfl ?_; clear hA a; intro a hA
          refine S.no (dj := 110) hA (by kernel_rfl) rfl rfl rfl ?_; clear hA a; intro a hA
          refine S.val hA (R.pickT rfl rfl) rfl ?_; clear hA a; intro a hA
          refine S.done ?_
          replace hA : St 174 [(1, _), (115, _)] a := hA.sub ((.cons rfl (.cons rfl .nil)))
          exact hJ _ _ ⟨hA.sub (.cons rfl (.cons (by first | rfl | exact congrArg (fun b => some (Value.bool b)) (by first | exact decide_eq_decide.2 (by omega) | exact or_bool (by omega) | exact and_bool (by omega) | (simp; done) | (simp [hg35, hg36]; done) | (have h80 := hg35; (try simp at h80); have h81 := hg36; (try simp at h81); simp [h80, h81]; done) | exact (decide_eq_false (fun h9 => hg35 h9.1)).symm | exact (decide_eq_false (fun h9 => hg36 h9.1)).symm)) .nil)), hM⟩
         ·
          clear hA; intro hg36 hA
          refine S.valg (dj := 104) hA (by kernel_rfl) rfl (R.fieldAddr (q := 3) fi25_3 rfl rfl rfl) rfl ?_; clear hA a; intro a hA
          refine S.valg (dj := 104) hA (by kernel_rfl) rfl (R.load sz22 rfl (hM.cell (k := 0) rfl rfl)) rfl ?_; clear hA a; intro a hA
          refine S.valg (dj := 104) hA (by kernel_rfl) rfl (R.lenS Try.underlying22 rfl rfl) rfl ?_; clear hA a; intro a hA
          refine S.valg (dj := 104) hA (by kernel_rfl) rfl (R.neq rfl rfl) rfl ?_; clear hA a; intro a hA
          refine S.val hA (R.pickF rfl rfl) rfl ?_; clear hA a; intro a hA
          refine S.val hA (R.move rfl) rfl ?_; clear hA a; intro a hA
          refine hA.split (d := 110) rfl ?_ ?_
          ·
           clear hA; intro hg37 hA
           refine S.no (dj := 110) hA (by kernel_rfl) rfl rfl rfl ?_; clear hA a; intro a hA
           refine S.no (dj := 110) hA (by kernel_rfl) rfl rfl rfl ?_; clear hA a; intro a hA
           refine S.no (dj := 110) hA (by kernel_rfl) rfl rfl rfl ?_; clear hA a; intro a hA
           refine S.no (dj := 110) hA (by kernel_rfl) rfl rfl rfl ?_; clear hA a; intro a hA
           refine S.val hA (R.pickT rfl rfl) rfl ?_; clear hA a; intro a hA
           refine S.done ?_
           replace hA : St 174 [(1, _), (115, _)] a := hA.sub ((.cons rfl (.cons rfl .nil)))
           exact hJ _ _ ⟨hA.sub (.cons rfl (.cons (by first | rfl | exact congrArg (fun b => some (Value.bool b)) (by first | exact decide_eq_decide.2 (by omega) | exact or_bool (by omega) | exact and_bool (by omega) | (simp; done) | (simp [hg35, hg36, hg37]; done) | (have h80 := hg35; (try simp at h80); have h81 := hg36; (try simp at h81); have h82 := hg37; (try simp at h82); simp [h80, h81, h82]; done) | exact (decide_eq_false (fun h9 => hg35 h9.1)).symm | exact (decide_eq_false (fun h9 => hg36 h9.1)).symm | exact (decide_eq_false (fun h9 => hg37 h9.1)).symm)) .nil)), hM⟩
          ·
           clear hA; intro hg37 hA
           refine S.valg (dj := 110) hA (by kernel_rfl) rfl (R.fieldAddr (q := 4) fi25_4 rfl rfl rfl) rfl ?_; clear hA a; intro a hA
           refine S.valg (dj := 110) hA (by kernel_rfl) rfl (R.load sz22 rfl (hM.cell (k := 0) rfl rfl)) rfl ?_; clear hA a; intro a hA
           refine S.valg (dj := 110) hA (by kernel_rfl) rfl (R.lenS Try.underlying22 rfl rfl) rfl ?_; clear hA a; intro a hA
           refine S.valg (dj := 110) hA (by kernel_rfl) rfl (R.neq rfl rfl) rfl ?_; clear hA a; intro a hA
           refine S.val hA (R.pickF rfl rfl) rfl ?_; clear hA a; intro a hA
           refine S.done ?_
           replace hA : St 174 [(1, _), (115, _)] a := hA.sub ((.cons rfl (.cons rfl .nil)))
           exact hJ _ _ ⟨hA.sub (.cons rfl (.cons (by first | rfl | exact congrArg (fun b => some (Value.bool b)) (by first | exact decide_eq_decide.2 (by omega) | exact or_bool (by omega) | exact and_bool (by omega) | (simp; done) | (simp [hg35, hg36, hg37]; done) | (have h80 := hg35; (try simp at h80); have h81 := hg36; (try simp at h81); have h82 := hg37; (try simp at h82); simp [h80, h81, h82]; done) | exact (decide_eq_false (fun h9 => hg35 h9.1)).symm | exact (decide_eq_false (fun h9 => hg36 h9.1)).symm | exact (decide_eq_false (fun h9 => hg37 h9.1)).symm)) .nil)), hM⟩
    ·
     refine Ends.region ?_
     refine S.val hA (R.fieldAddr (q := 0) fi25_0 rfl rfl rfl) rfl ?_; clear hA a; intro a hA
     refine S.val hA (R.load sz3 rfl (hM.cell (k := 0) rfl rfl)) rfl ?_; clear hA a; intro a hA
     refine S.val hA (R.eql rfl rfl) rfl ?_; clear hA a; intro a hA
     refine S.val hA (R.move rfl) rfl ?_; clear hA a; intro a hA
     refine hA.split (d := 25) rfl ?_ ?_
     ·
      clear hA; intro hg38 hA
      refine S.valg (dj := 25) hA (by kernel_rfl) rfl (R.fieldAddr (q := 1) fi25_1 rfl rfl rfl) rfl ?_; clear hA a; intro a hA
      refine S.valg (dj := 25) hA (by kernel_rfl) rfl (R.load sz3 rfl (hM.cell (k := 0) rfl rfl)) rfl ?_; clear hA a; intro a hA
      refine S.valg (dj := 25) hA (by kernel_rfl) rfl (R.gtr rfl rfl) rfl ?_; clear hA a; intro a hA
      refine S.val hA (R.pickT rfl rfl) rfl ?_; clear hA a; intro a hA
      refine S.val hA (R.move rfl) rfl ?_; clear hA a; intro a hA
      refine hA.split (d := 30) rfl ?_ ?_
      ·
       clear hA; intro hg39 hA
       refine S.no (dj := 30) hA (by kernel_rfl) rfl rfl rfl ?_; clear hA a; intro a hA
       refine S.no (dj := 30) hA (by kernel_rfl) rfl rfl rfl ?_; clear hA a; intro a hA
       refine S.no (dj := 30) hA (by kernel_rfl) rfl rfl rfl ?_; clear hA a; intro a hA
       refine S.no (dj := 30) hA (by kernel_rfl) rfl rfl rfl ?_; clear hA a; intro a hA
       refine S.noU (dj := 34) hA (by kernel_rfl) rfl rfl ?_; clear hA a; intro a hA
       refine S.noU (dj := 34) hA (by kernel_rfl) rfl rfl ?_; clear hA a; intro a hA
       refine S.noU (dj := 34) hA (by kernel_rfl) rfl rfl ?_; clear hA a; intro a hA
       refine S.no (dj := 30) hA (by kernel_rfl) rfl rfl rfl ?_; clear hA a; intro a hA
       refine S.val hA (R.pickT rfl rfl) rfl ?_; clear hA a; intro a hA
       refine S.done ?_
       replace hA : St 174 [(1, _), (39, _)] a := hA.sub ((.cons rfl (.cons rfl .nil)))
       exact hJ _ _ ⟨hA.sub (.cons rfl (.cons (by first | rfl | exact congrArg (fun b => some (Value.bool b)) (by first | exact decide_eq_decide.2 (by omega) | exact or_bool (by omega) | exact and_bool (by omega) | (simp; done) | (simp [hg38, hg39]; done) | (have h80 := hg38; (try simp at h80); have h81 := hg39; (try simp at h81); simp [h80, h81]; done) | exact (decide_eq_false (fun h9 => hg38 h9.1)).symm | exact (decide_eq_false (fun h9 => hg39 h9.1)).symm)) .nil)), hM⟩
      ·
       clear hA; intro hg39 hA
       refine S.valg (dj := 30) hA (by kernel_rfl) rfl (R.fieldAddr (q := 0) fi25_0 rfl rfl rfl) rfl ?_; clear hA a; intro a hA
       refine S.valg (dj := 30) hA (by kernel_rfl) rfl (R.load sz3 rfl (hM.cell (k := 0) rfl rfl)) rfl ?_; clear hA a; intro a hA
       refine S.valg (dj := 30) hA (by kernel_rfl) rfl (R.gtr rfl rfl) rfl ?_; clear hA a; intro a hA
       refine S.valg (dj := 30) hA (by kernel_rfl) rfl (R.move rfl) rfl ?_; clear hA a; intro a hA
       refine hA.split (d := 34) rfl ?_ ?_
       ·
        clear hA; intro hg40 hA
        refine S.valg (dj := 34) hA (by kernel_rfl) rfl (R.fieldAddr (q := 1) fi25_1 rfl rfl rfl) rfl ?_; clear hA a; intro a hA
        refine S.valg (dj := 34) hA (by kernel_rfl) rfl (R.load sz3 rfl (hM.cell (k := 0) rfl rfl)) rfl ?_; clear hA a; intro a hA
        refine S.valg (dj := 34) hA (by kernel_rfl) rfl (R.gtr rfl rfl) rfl ?_; clear hA a; intro a hA
        refine S.valg (dj := 30) hA (by kernel_rfl) rfl (R.pickT rfl rfl) rfl ?_; clear hA a; intro a hA
        refine S.val hA (R.pickF rfl rfl) rfl ?_; clear hA a; intro a hA
        refine S.done ?_
        replace hA : St 174 [(1, _), (39, _)] a := hA.sub ((.cons rfl (.cons rfl .nil)))
        exact hJ _ _ ⟨hA.sub (.cons rfl (.cons (by first | rfl | exact congrArg (fun b => some (Value.bool b)) (by first | exact decide_eq_decide.2 (by omega) | exact or_bool (by omega) | exact and_bool (by omega) | (simp; done) | (simp [hg38, hg39, hg40]; done) | (have h80 := hg38; (try simp at h80); have h81 := hg39; (try simp at h81); have h82 := hg40; (try simp at h82); simp [h80, h81, h82]; done) | exact (decide_eq_false (fun h9 => hg38 h9.1)).symm | exact (decide_eq_false (fun h9 => hg39 h9.1)).symm | exact (decide_eq_false (fun h9 => hg40 h9.1)).symm)) .nil)), hM⟩
       ·
        clear hA; intro hg40 hA
        refine S.no (dj := 34) hA (by kernel_rfl) rfl rfl rfl ?_; clear hA a; intro a hA
        refine S.no (dj := 34) hA (by kernel_rfl) rfl rfl rfl ?_; clear hA a; intro a hA
        refine S.no (dj := 34) hA (by kernel_rfl) rfl rfl rfl ?_; clear hA a; intro a hA
        refine S.valg (dj := 30) hA (by kernel_rfl) rfl (R.pickF rfl rfl) rfl ?_; clear hA a; intro a hA
        refine S.val hA (R.pickF rfl rfl) rfl ?_; clear hA a; intro a hA
        refine S.done ?_
        replace hA : St 174 [(1, _), (39, _)] a := hA.sub ((.cons rfl (.cons rfl .nil)))
        exact hJ _ _ ⟨hA.sub (.cons rfl (.cons (by first | rfl | exact congrArg (fun b => some (Value.bool b)) (by first | exact decide_eq_decide.2 (by omega) | exact or_bool (by omega) | exact and_bool (by omega) | (simp; done) | (simp [hg38, hg39, hg40]; done) | (have h80 := hg38; (try simp at h80); have h81 := hg39; (try simp at h81); have h82 := hg40; (try simp at h82); simp [h80, h81, h82]; done) | exact (decide_eq_false (fun h9 => hg38 h9.1)).symm | exact (decide_eq_false (fun h9 => hg39 h9.1)).symm | exact (decide_eq_false (fun h9 => hg40 h9.1)).symm)) .nil)), hM⟩
     ·
      clear hA; intro hg38 hA
      refine S.no (dj := 25) hA (by kernel_rfl) rfl rfl rfl ?_; clear hA a; intro a hA
      refine S.no (dj := 25) hA (by kernel_rfl) rfl rfl rfl ?_; clear hA a; intro a hA
      refine S.no (dj := 25) hA (by kernel_rfl) rfl rfl rfl ?_; clear hA a; intro a hA
      refine S.val hA (R.pickF rfl rfl) rfl ?_; clear hA a; intro a hA
      refine S.val hA (R.move rfl) rfl ?_; clear hA a; intro a hA
      refine S.valg (dj := 30) hA (by kernel_rfl) rfl (R.fieldAddr (q := 0) fi25_0 rfl rfl rfl) rfl ?_; clear hA a; intro a hA
      refine S.valg (dj := 30) hA (by kernel_rfl) rfl (R.load sz3 rfl (hM.cell (k := 0) rfl rfl)) rfl ?_; clear hA a; intro a hA
      refine S.valg (dj := 30) hA (by kernel_rfl) rfl (R.gtr rfl rfl) rfl ?_; clear hA a; intro a hA
      refine S.valg (dj := 30) hA (by kernel_rfl) rfl (R.move rfl) rfl ?_; clear hA a; intro a hA
      refine hA.split (d := 34) rfl ?_ ?_
      ·
       clear hA; intro hg41 hA
       refine S.valg (dj := 34) hA (by kernel_rfl) rfl (R.fieldAddr (q := 1) fi25_1 rfl rfl rfl) rfl ?_; clear hA a; intro a hA
       refine S.valg (dj := 34) hA (by kernel_rfl) rfl (R.load sz3 rfl (hM.cell (k := 0) rfl rfl)) rfl ?_; clear hA a; intro a hA
       refine S.valg (dj := 34) hA (by kernel_rfl) rfl (R.gtr rfl rfl) rfl ?_; clear hA a; intro a hA
       refine S.valg (dj := 30) hA (by kernel_rfl) rfl (R.pickT rfl rfl) rfl ?_; clear hA a; intro a hA
       refine S.val hA (R.pickF rfl rfl) rfl ?_; clear hA a; intro a hA
       refine S.done ?_
       replace hA : St 174 [(1, _), (39, _)] a := hA.sub ((.cons rfl (.cons rfl .nil)))
       exact hJ _ _ ⟨hA.sub (.cons rfl (.cons (by first | rfl | exact congrArg (fun b => some (Value.bool b)) (by first | exact decide_eq_decide.2 (by omega) | exact or_bool (by omega) | exact and_bool (by omega) | (simp; done) | (simp [hg38, hg41]; done) | (have h80 := hg38; (try simp at h80); have h81 := hg41; (try simp at h81); simp [h80, h81]; done) | exact (decide_eq_false (fun h9 => hg38 h9.1)).symm | exact (decide_eq_false (fun h9 => hg41 h9.1)).symm)) .nil)), hM⟩
      ·
       clear hA; intro hg41 hA
       refine S.no (dj := 34) hA (by kernel_rfl) rfl rfl rfl ?_; clear hA a; intro a hA
       refine S.no (dj := 34) hA (by kernel_rfl) rfl rfl rfl ?_; clear hA a; intro a hA
       refine S.no (dj := 34) hA (by kernel_rfl) rfl rfl rfl ?_; clear hA a; intro a hA
       refine S.valg (dj := 30) hA (by kernel_rfl) rfl (R.pickF rfl rfl) rfl ?_; clear hA a; intro a hA
       refine S.val hA (R.pickF rfl rfl) rfl ?_; clear hA a; intro a hA
       refine S.done ?_
       replace hA : St 174 [(1, _), (39, _)] a := hA.sub ((.cons rfl (.cons rfl .nil)))
       exact hJ _ _ ⟨hA.sub (.cons rfl (.cons (by first | rfl | exact congrArg (fun b => some (Value.bool b)) (by first | exact decide_eq_decide.2 (by omega) | exact or_bool (by omega) | exact and_bool (by omega) | (simp; done) | (simp [hg38, hg41]; done) | (have h80 := hg38; (try simp at h80); have h81 := hg41; (try simp at h81); simp [h80, h81]; done) | exact (decide_eq_false (fun h9 => hg38 h9.1)).symm | exact (decide_eq_false (fun h9 => hg41 h9.1)).symm)) .nil)), hM⟩
 ·
  refine Ends.region ?_
  refine S.val hA (R.fieldAddr (q := 0) fi25_0 rfl rfl rfl) rfl ?_; clear hA a; intro a hA
  refine S.val hA (R.load sz3 rfl (hM.cell (k := 0) rfl rfl)) rfl ?_; clear hA a; intro a hA
  refine S.val hA (R.lss rfl rfl) rfl ?_; clear hA a; intro a hA
  refine S.val hA (R.move rfl) rfl ?_; clear hA a; intro a hA
  refine hA.split (d := 14) rfl ?_ ?_
  ·
   clear hA; intro hg42 hA
   refine S.no (dj := 14) hA (by kernel_rfl) rfl rfl rfl ?_; clear hA a; intro a hA
   refine S.no (dj := 14) hA (by kernel_rfl) rfl rfl rfl ?_; clear hA a; intro a hA
   refine S.no (dj := 14) hA (by kernel_rfl) rfl rfl rfl ?_; clear hA a; intro a hA
   refine S.val hA (R.pickT rfl rfl) rfl ?_; clear hA a; intro a hA
   refine S.done ?_
   replace hA : St 174 [(1, _), (18, _)] a := hA.sub ((.cons rfl (.cons rfl .nil)))
   exact hJ _ _ ⟨hA.sub (.cons rfl (.cons (by first | rfl | exact congrArg (fun b => some (Value.bool b)) (by first | exact decide_eq_decide.2 (by omega) | exact or_bool (by omega) | exact and_bool (by omega) | (simp; done) | (simp [hg42]; done) | (have h80 := hg42; (try simp at h80); simp [h80]; done) | exact (decide_eq_false (fun h9 => hg42 h9.1)).symm)) .nil)), hM⟩
  ·
   clear hA; intro hg42 hA
   refine S.valg (dj := 14) hA (by kernel_rfl) rfl (R.fieldAddr (q := 0) fi25_0 rfl rfl rfl) rfl ?_; clear hA a; intro a hA
   refine S.valg (dj := 14) hA (by kernel_rfl) rfl (R.load sz3 rfl (hM.cell (k := 0) rfl rfl)) rfl ?_; clear hA a; intro a hA
   refine S.valg (dj := 14) hA (by kernel_rfl) rfl (R.gtr rfl rfl) rfl ?_; clear hA a; intro a hA
   refine S.val hA (R.pickF rfl rfl) rfl ?_; clear hA a; intro a hA
   refine S.done ?_
   replace hA : St 174 [(1, _), (18, _)] a := hA.sub ((.cons rfl (.cons rfl .nil)))
   exact hJ _ _ ⟨hA.sub (.cons rfl (.cons (by first | rfl | exact congrArg (fun b => some (Value.bool b)) (by first | exact decide_eq_decide.2 (by omega) | exact or_bool (by omega) | exact and_bool (by omega) | (simp; done) | (simp [hg42]; done) | (have h80 := hg42; (try simp at h80); simp [h80]; done) | exact (decide_eq_false (fun h9 => hg42 h9.1)).symm)) .nil)), hM⟩
end Go.Proofs.Ytnikajkklocncaa
namespace Go.Proofs.Ytnikajkklocncaa
open Go.RowKit
theorem take_min70 (X : List Int) : X.take (min (X.length : Int) 70).toNat = X.take 70 := by
  by_cases h : X.length ≤ 70
  · rw [List.take_of_length_le h, List.take_of_length_le (by omega)]
  · rw [show (min (X.length : Int) 70).toNat = 70 by omega]
theorem takeR_snoc {R : List (List Int)} {k : Nat} (h : k < R.length) (f : List Int → List Int) : (R.take (k + 1)).map f = (R.take k).map f ++ [f (R.getD k [])] := by
  rw [List.take_succ_eq_append_getElem h, List.map_append, List.getD_eq_getElem?_getD, List.getElem?_eq_getElem h]; rfl
set_option maxRecDepth 100000 in
set_option maxHeartbeats 400000 in
theorem cut05 (ax : Option Addr) (X : List Int) (cx : Nat) (w : World) (hx : IntSl w (.slice ax X.length cx) X) :
    Calls Try.prog 39 #[.slice ax X.length cx] w fun e w' => ∃ a c, e = .returned (.slice a (X.take 70).length c) ∧ Mem w nof [own 3 1 (.slice a (((X.take 70)).length) c) (((X.take 70)).length) (((X.take 70)).map (Value.int .i64))] w' := by
  have hbs := Below.refl (B := w.heap.size) w
  have hM := Mem.start w
  refine Calls.of_ends (vs := [.slice ax X.length cx]) Try.func39 rfl Try.ntmps39 rfl ?_
  intro a hA
  replace hA : St 10 [(0, _)] a := hA
  refine Ends.seq (Ends.region ?_)
  refine S.val hA (R.assign rfl) rfl ?_; clear hA a; intro a hA
  refine S.done ?_
  refine Ends.seq (Ends.region ?_)
  refine S.buildSl0 hA hM Try.underlying22 info3 rfl ?_; clear hA hM a; intro b1 w1 hb2 hM a hA
  replace hM := hM.ownPt (cap := 0) (n := 0) (sz := 1) (xs := []) rfl (Nat.zero_le _) (Nat.le_refl _) rfl
  replace hM : Mem _ _ [own 3 1 (.slice ((some ⟨b1, 0, none⟩)) 0 0) 0 ((([] : List Int)).map (Value.int .i64))] _ := hM
  refine S.val hA (R.move rfl) rfl ?_; clear hA a; intro a hA
  refine S.val hA (R.move rfl) rfl ?_; clear hA a; intro a hA
  refine S.val hA (R.lenS Try.underlying22 rfl rfl) rfl ?_; clear hA a; intro a hA
  refine S.val hA (R.min rfl rfl) rfl ?_; clear hA a; intro a hA
  have hsl3 := hx.cutR ((min ((X.length : Int)) 70).toNat) (by omega)
  refine S.val hA (R.sliceHI (h := (min ((X.length : Int)) 70).toNat) hx Try.underlying22 info3 rfl rfl (by omega) (by omega)) rfl ?_; clear hA a; intro a hA
  refine S.appendI (k := 0) hA hM rfl (hsl3.mem hM) Try.underlying22 info3 rfl rfl rfl rfl rfl rfl (by first | (rw [take_min70, List.length_take]; unfold maxLen; omega) | (rw [take_min70, List.length_take]; show (0 + _) * 8 ≤ (140737488355328 : Nat); omega) | omega | (show (_ + 1) * 24 ≤ (140737488355328 : Nat); omega) | (unfold maxLen; omega)) (by first | (rw [take_min70, List.length_take]; unfold maxLen; omega) | (rw [take_min70, List.length_take]; show (0 + _) * 8 ≤ (140737488355328 : Nat); omega) | omega | (show (_ + 1) * 24 ≤ (140737488355328 : Nat); omega) | (unfold maxLen; omega)) rfl ?_; clear hA hM a; intro a4 c5 w2 hM a hA
  have hl6 : 0 + ((X.take ((min ((X.length : Int)) 70).toNat))).length = (((X.take ((min ((X.length : Int)) 70).toNat)))).length := by first | (simp; done) | simp only [List.length_append]
  rw [hl6, show (([] : List Int)).map (Value.int .i64) ++ ((X.take ((min ((X.length : Int)) 70).toNat))).map (Value.int .i64) = (((X.take ((min ((X.length : Int)) 70).toNat)))).map (Value.int .i64) by simp] at hM; rw [hl6] at hA; clear hl6
  replace hM : Mem _ _ [own 3 1 (.slice a4 ((((X.take ((min ((X.length : Int)) 70).toNat)))).length) c5) ((((X.take ((min ((X.length : Int)) 70).toNat)))).length) ((((X.take ((min ((X.length : Int)) 70).toNat)))).map (Value.int .i64))] _ := hM
  refine S.val hA (R.assign rfl) rfl ?_; clear hA a; intro a hA
  refine S.done ?_
  replace hA : St 10 [(2, _)] a := hA.sub ((.cons rfl .nil))
  refine Ends.ret1 Try.func39 Try.results39 hA rfl ?_
  rw [take_min70] at hM
  exact ⟨_, _, by rw [take_min70], hM⟩
set_option maxRecDepth 100000 in
set_option maxHeartbeats 400000 in
theorem copy05_own (i : Ins) (ax3 : Option Addr) (cx3 : Nat) (ax4 : Option Addr) (cx4 : Nat) (ax5 : Option Addr) (cx5 : Nat) (w : World) (hx3 : IntSl w (.slice ax3 i.wt.length cx3) i.wt) (hx4 : IntSl w (.slice ax4 i.vl.length cx4) i.vl) (hx5 : RowsV w (.slice ax5 i.cost.length cx5) i.cost) :
  Calls Try.prog 13 #[.agg #[.int .i64 i.kind, .int .i64 i.n, .int .i64 i.cap, .slice ax3 i.wt.length cx3, .slice ax4 i.vl.length cx4, .slice ax5 i.cost.length cx5]] w fun e w' => ∃ aw cw av cv ac cc rs, e = .returned (insA (cutI i) aw cw av cv ac cc rs) ∧ rs.map (·.Y) = (cutI i).cost ∧ Mem w nof [bundle (insL 3 22 (cutI i) aw cw av cv ac cc rs)] w' := by
 have hbs := Below.refl (B := w.heap.size) w
 have hl5 := hx5.lenB
 have hM := Mem.start w
 refine Calls.of_ends (vs := [.agg #[.int .i64 i.kind, .int .i64 i.n, .int .i64 i.cap, .slice ax3 i.wt.length cx3, .slice ax4 i.vl.length cx4, .slice ax5 i.cost.length cx5]]) Try.func13 rfl Try.ntmps13 rfl ?_
 intro a hA
 replace hA : St 41 [(0, _)] a := hA
 refine Ends.seq (Ends.region ?_)
 refine S.box hA hM rfl rfl ?_; clear hA hM a; intro b1 w1 hb2 hM a hA
 replace hM : Mem _ _ [pt b1 #[.int .i64 i.kind, .int .i64 i.n, .int .i64 i.cap, .slice ax3 i.wt.length cx3, .slice ax4 i.vl.length cx4, .slice ax5 i.cost.length cx5] 25] _ := hM
 refine S.alloc hA hM info25 rfl rfl ?_; clear hA hM a; intro b3 w2 hb4 hM a hA
 replace hM : Mem _ _ [pt b3 cz0 25, pt b1 #[.int .i64 i.kind, .int .i64 i.n, .int .i64 i.cap, .slice ax3 i.wt.length cx3, .slice ax4 i.vl.length cx4, .slice ax5 i.cost.length cx5] 25] _ := hM
 refine S.done ?_
 refine Ends.seq ?_
 refine Ends.drawn (Mem w nof [pt b3 cz0 25, pt b1 #[.int .i64 i.kind, .int .i64 i.n, .int .i64 i.cap, .slice ax3 i.wt.length cx3, .slice ax4 i.vl.length cx4, .slice ax5 i.cost.length cx5] 25]) (.cons (0, true) (.cons (1, true) (.cons (2, true) (.cons (3, true) (.cons (4, true) (.cons (5, true) (.cons (6, true) (.cons (7, true) (.cons (9, true) (.cons (10, true) (.fork 8 13 (.fork 11 13 (.cons (12, true) (.cons (13, false) (.cons (14, false) .nil))) (.cons (11, false) (.cons (12, true) (.cons (14, false) .nil)))) (.cons (8, false) (.cons (11, false) (.cons (12, true) (.cons (14, false) .nil))))))))))))))) 14 mixed (by kernel_rfl) (by kernel_rfl) (by kernel_rfl) hM.drew ?_
 replace hM := hM.drew
 refine D.valF hA rfl (fun _ => R.fieldAddr (q := 0) fi25_0 rfl rfl rfl) rfl ?_; clear hA a; intro a hA
 refine D.val hA rfl (by kernel_rfl) (fun _ hM => R.load sz3 rfl (hM.cell (k := 1) rfl rfl)) rfl ?_; clear hA a; intro a hA
 refine D.valF hA rfl (fun _ => R.fieldAddr (q := 1) fi25_1 rfl rfl rfl) rfl ?_; clear hA a; intro a hA
 refine D.val hA rfl (by kernel_rfl) (fun _ hM => R.load sz3 rfl (hM.cell (k := 1) rfl rfl)) rfl ?_; clear hA a; intro a hA
 refine D.valF hA rfl (fun _ => R.fieldAddr (q := 2) fi25_2 rfl rfl rfl) rfl ?_; clear hA a; intro a hA
 refine D.val hA rfl (by kernel_rfl) (fun _ hM => R.load sz3 rfl (hM.cell (k := 1) rfl rfl)) rfl ?_; clear hA a; intro a hA
 refine D.valF hA rfl (fun _ => R.fieldAddr (q := 3) fi25_3 rfl rfl rfl) rfl ?_; clear hA a; intro a hA
 refine D.val hA rfl (by kernel_rfl) (fun _ hM => R.load sz22 rfl (hM.cell (k := 1) rfl rfl)) rfl ?_; clear hA a; intro a hA
 refine D.valF hA rfl (fun _ => R.fieldAddr (q := 4) fi25_4 rfl rfl rfl) rfl ?_; clear hA a; intro a hA
 refine D.val hA rfl (by kernel_rfl) (fun _ hM => R.load sz22 rfl (hM.cell (k := 1) rfl rfl)) rfl ?_; clear hA a; intro a hA
 refine D.fork rfl rfl ?_ ?_
 ·
  refine D.call hA rfl (R.callF Try.func39 rfl rfl rfl) rfl (cut05 ax3 i.wt cx3 _ (hx3.mem hM)) ?_; clear hA a
  rintro e w3 ⟨ka5, kc6, rfl, hn⟩
  replace hM : Mem _ _ [own 3 1 (.slice ka5 (((i.wt.take 70)).length) kc6) (((i.wt.take 70)).length) (((i.wt.take 70)).map (Value.int .i64)), pt b3 cz0 25, pt b1 #[.int .i64 i.kind, .int .i64 i.n, .int .i64 i.cap, .slice ax3 i.wt.length cx3, .slice ax4 i.vl.length cx4, .slice ax5 i.cost.length cx5] 25] _ := hM.call hn; clear hn
  refine ⟨.slice ka5 ((i.wt.take 70).length) kc6, rfl, (hM.drop 0), fun a hA => ?_⟩
  refine D.fork rfl rfl ?_ ?_
  ·
   refine D.call hA rfl (R.callF Try.func39 rfl rfl rfl) rfl (cut05 ax4 i.vl cx4 _ (hx4.mem hM)) ?_; clear hA a
   rintro e w4 ⟨ka7, kc8, rfl, hn⟩
   replace hM : Mem _ _ [own 3 1 (.slice ka7 (((i.vl.take 70)).length) kc8) (((i.vl.take 70)).length) (((i.vl.take 70)).map (Value.int .i64)), own 3 1 (.slice ka5 (((i.wt.take 70)).length) kc6) (((i.wt.take 70)).length) (((i.wt.take 70)).map (Value.int .i64)), pt b3 cz0 25, pt b1 #[.int .i64 i.kind, .int .i64 i.n, .int .i64 i.cap, .slice ax3 i.wt.length cx3, .slice ax4 i.vl.length cx4, .slice ax5 i.cost.length cx5] 25] _ := hM.call hn; clear hn
   refine ⟨.slice ka7 ((i.vl.take 70).length) kc8, rfl, ((hM.drop 1).drop 0), fun a hA => ?_⟩
   refine D.valF hA rfl (fun _ => R.build (cells := #[.int .i64 i.kind, .int .i64 i.n, .int .i64 i.cap, .slice ka5 ((i.wt.take 70).length) kc6, .slice ka7 ((i.vl.take 70).length) kc8, .slice none 0 0]) rfl (by kernel_rfl)) rfl ?_; clear hA a; intro a hA
   refine D.alloc hA hM rfl info25 rfl rfl ?_; clear hA hM a; intro b9 w5 hb10 hM; refine ⟨(fun hM => ((hM.drop 1).drop 0)) hM.tail, fun a hA => ?_⟩
   replace hM : Mem _ _ [pt b9 cz0 25, own 3 1 (.slice ka7 (((i.vl.take 70)).length) kc8) (((i.vl.take 70)).length) (((i.vl.take 70)).map (Value.int .i64)), own 3 1 (.slice ka5 (((i.wt.take 70)).length) kc6) (((i.wt.take 70)).length) (((i.wt.take 70)).map (Value.int .i64)), pt b3 cz0 25, pt b1 #[.int .i64 i.kind, .int .i64 i.n, .int .i64 i.cap, .slice ax3 i.wt.length cx3, .slice ax4 i.vl.length cx4, .slice ax5 i.cost.length cx5] 25] _ := hM
   refine D.storeA (k := 0) hA hM rfl sz25 rfl rfl rfl rfl rfl rfl ?_; clear hM
   intro w6 hM; refine ⟨fun _ hne => absurd rfl hne, ?_⟩
   replace hM : Mem _ _ [pt b9 #[.int .i64 i.kind, .int .i64 i.n, .int .i64 i.cap, .slice ka5 ((i.wt.take 70).length) kc6, .slice ka7 ((i.vl.take 70).length) kc8, .slice none 0 0] 25, own 3 1 (.slice ka7 (((i.vl.take 70)).length) kc8) (((i.vl.take 70)).length) (((i.vl.take 70)).map (Value.int .i64)), own 3 1 (.slice ka5 (((i.wt.take 70)).length) kc6) (((i.wt.take 70)).length) (((i.wt.take 70)).map (Value.int .i64)), pt b3 cz0 25, pt b1 #[.int .i64 i.kind, .int .i64 i.n, .int .i64 i.cap, .slice ax3 i.wt.length cx3, .slice ax4 i.vl.length cx4, .slice ax5 i.cost.length cx5] 25] _ := hM
   refine D.done ?_
   replace hA : St 41 [(1, _), (2, _), (3, _)] a := hA.sub ((.cons rfl (.cons rfl (.cons rfl .nil))))
   refine Ends.seq (Ends.seq (Ends.region ?_))
   refine S.val hA (R.assign rfl) rfl ?_; clear hA a; intro a hA
   refine S.done ?_
   refine Ends.block ?_
   replace hM := (hM.bundleNil (e := 3)).ownNil 22 1
   replace hM := hM.front (k := 6) rfl
   replace hM := hM.front (k := 6) rfl
   replace hM := hM.front (k := 3) rfl
   replace hM := hM.front (k := 3) rfl
   replace hM := hM.front (k := 5) rfl
   replace hM := hM.front (k := 6) rfl
   replace hM := hM.front (k := 6) rfl
   replace hM : Mem _ _ [pt b9 #[.int .i64 i.kind, .int .i64 i.n, .int .i64 i.cap, .slice ka5 ((i.wt.take 70).length) kc6, .slice ka7 ((i.vl.take 70).length) kc8, .slice none (([] : List OwR).length) 0] 25, own 3 1 (.slice ka5 (((i.wt.take 70)).length) kc6) (((i.wt.take 70)).length) (((i.wt.take 70)).map (Value.int .i64)), own 3 1 (.slice ka7 (((i.vl.take 70)).length) kc8) (((i.vl.take 70)).length) (((i.vl.take 70)).map (Value.int .i64)), own 22 1 (.slice none (([] : List OwR).length) 0) (([] : List OwR).length) ((([] : List OwR).map orV)), bundle (([] : List OwR).map (orC 3)), pt b3 cz0 25, pt b1 #[.int .i64 i.kind, .int .i64 i.n, .int .i64 i.cap, .slice ax3 i.wt.length cx3, .slice ax4 i.vl.length cx4, .slice ax5 i.cost.length cx5] 25] _ := hM
   refine Ends.loop (σ := Nat × Option Addr × Nat × List OwR) (fun (k, ao, co, rs) (a : Act) (wv : World) => St 41 [(1, .pointer (some ⟨b1, 0, none⟩)), (2, .pointer (some ⟨b3, 0, none⟩)), (3, .pointer (some ⟨b9, 0, none⟩)), (4, .int .i64 ((k : Int)))] a ∧ Mem w nof [pt b9 #[.int .i64 i.kind, .int .i64 i.n, .int .i64 i.cap, .slice ka5 ((i.wt.take 70).length) kc6, .slice ka7 ((i.vl.take 70).length) kc8, .slice ao rs.length co] 25, own 3 1 (.slice ka5 (((i.wt.take 70)).length) kc6) (((i.wt.take 70)).length) (((i.wt.take 70)).map (Value.int .i64)), own 3 1 (.slice ka7 (((i.vl.take 70)).length) kc8) (((i.vl.take 70)).length) (((i.vl.take 70)).map (Value.int .i64)), own 22 1 (.slice ao rs.length co) rs.length ((rs.map orV)), bundle (rs.map (orC 3)), pt b3 cz0 25, pt b1 #[.int .i64 i.kind, .int .i64 i.n, .int .i64 i.cap, .slice ax3 i.wt.length cx3, .slice ax4 i.vl.length cx4, .slice ax5 i.cost.length cx5] 25] wv ∧ (k ≤ i.cost.length ∧ k ≤ 30) ∧ (rs.map (·.Y) = (i.cost.take k).map (fun r => r.take 70))) (fun (k, ao, co, rs) => 30 - k) ((0, none, 0, [])) ⟨hA.sub ((.cons rfl (.cons rfl (.cons rfl (.cons rfl .nil))))), hM, (by omega), rfl⟩ ?_
   clear hA hM a
   rintro ⟨k, ao, co, rs⟩ a w7 ⟨hA, hM, hk, hY⟩ hNext
   refine Ends.seq (Ends.seq ?_)
   refine Ends.cut (fun (a : Act) (wv : World) => St 41 [(1, .pointer (some ⟨b1, 0, none⟩)), (2, .pointer (some ⟨b3, 0, none⟩)), (3, .pointer (some ⟨b9, 0, none⟩)), (4, .int .i64 ((k : Int))), (26, .bool (decide ((((k : Int)) < ((i.cost.length : Int)) ∧ ((k : Int)) < 30))))] a ∧ Mem w nof [pt b9 #[.int .i64 i.kind, .int .i64 i.n, .int .i64 i.cap, .slice ka5 ((i.wt.take 70).length) kc6, .slice ka7 ((i.vl.take 70).length) kc8, .slice ao rs.length co] 25, own 3 1 (.slice ka5 (((i.wt.take 70)).length) kc6) (((i.wt.take 70)).length) (((i.wt.take 70)).map (Value.int .i64)), own 3 1 (.slice ka7 (((i.vl.take 70)).length) kc8) (((i.vl.take 70)).length) (((i.vl.take 70)).map (Value.int .i64)), own 22 1 (.slice ao rs.length co) rs.length ((rs.map orV)), bundle (rs.map (orC 3)), pt b3 cz0 25, pt b1 #[.int .i64 i.kind, .int .i64 i.n, .int .i64 i.cap, .slice ax3 i.wt.length cx3, .slice ax4 i.vl.length cx4, .slice ax5 i.cost.length cx5] 25] wv) ?_ (fun k2 hJ => ?_)
   ·
    clear hA hM a; rintro a w8 ⟨hA, hM⟩
    refine Ends.ite hA rfl (fun hc11 => ?_) (fun hc11 => ?_)
    ·
     have hlr : rs.length = k := by have := congrArg List.length hY; simpa [List.length_take, Nat.min_eq_left hk.1] using this
     refine Ends.skip (Ends.seq (Ends.block ?_))
     refine Ends.drawn (Mem w nof [pt b9 #[.int .i64 i.kind, .int .i64 i.n, .int .i64 i.cap, .slice ka5 ((i.wt.take 70).length) kc6, .slice ka7 ((i.vl.take 70).length) kc8, .slice ao rs.length co] 25, pt b3 cz0 25, pt b1 #[.int .i64 i.kind, .int .i64 i.n, .int .i64 i.cap, .slice ax3 i.wt.length cx3, .slice ax4 i.vl.length cx4, .slice ax5 i.cost.length cx5] 25]) (.cons (0, true) (.cons (1, true) (.cons (2, true) (.cons (3, true) (.cons (4, true) (.cons (5, true) (.cons (6, true) (.cons (7, false) (.cons (8, false) (.cons (9, false) (.cons (10, true) (.cons (11, false) .nil)))))))))))) 11 mixed (by kernel_rfl) (by kernel_rfl) (by kernel_rfl) ((((hM.drop 4).drop 3).drop 2).drop 1).drew ?_
     replace hM := hM.drew
     refine D.valF hA rfl (fun _ => R.fieldAddr (q := 5) fi25_5 rfl rfl rfl) rfl ?_; clear hA a; intro a hA
     refine D.val hA rfl (by kernel_rfl) (fun _ hM => R.load sz23 rfl (hM.cell (k := 0) rfl rfl)) rfl ?_; clear hA a; intro a hA
     refine D.valF hA rfl (fun _ => R.fieldAddr (q := 5) fi25_5 rfl rfl rfl) rfl ?_; clear hA a; intro a hA
     refine D.val hA rfl (by kernel_rfl) (fun _ hM => R.load sz23 rfl (hM.cell (k := 2) rfl rfl)) rfl ?_; clear hA a; intro a hA
     refine D.valF hA rfl (fun _ => R.move rfl) rfl ?_; clear hA a; intro a hA
     refine D.valF hA rfl (fun _ => R.idxR hx5 (j := k) sl23 rfl rfl (by omega) (rfl)) rfl ?_; clear hA a; intro a hA
     obtain ⟨ra12, rc13, hrow14, hld15⟩ := hx5.atP (i := k) (by omega)
     refine D.val hA rfl (by kernel_rfl) (fun _ hM => hld15 _ _ _ _ _ _ hM sz22 rfl) rfl ?_; clear hA a; intro a hA
     refine D.call hA rfl (R.callF Try.func39 rfl rfl rfl) rfl (cut05 ra12 ((i.cost.getD k [])) rc13 _ (hrow14.mem hM)) ?_; clear hA a
     rintro e w9 ⟨ka16, kc17, rfl, hn⟩
     replace hM : Mem _ _ [own 3 1 (.slice ka16 (((((i.cost.getD k [])).take 70)).length) kc17) (((((i.cost.getD k [])).take 70)).length) (((((i.cost.getD k [])).take 70)).map (Value.int .i64)), pt b9 #[.int .i64 i.kind, .int .i64 i.n, .int .i64 i.cap, .slice ka5 ((i.wt.take 70).length) kc6, .slice ka7 ((i.vl.take 70).length) kc8, .slice ao rs.length co] 25, own 3 1 (.slice ka5 (((i.wt.take 70)).length) kc6) (((i.wt.take 70)).length) (((i.wt.take 70)).map (Value.int .i64)), own 3 1 (.slice ka7 (((i.vl.take 70)).length) kc8) (((i.vl.take 70)).length) (((i.vl.take 70)).map (Value.int .i64)), own 22 1 (.slice ao rs.length co) rs.length ((rs.map orV)), bundle (rs.map (orC 3)), pt b3 cz0 25, pt b1 #[.int .i64 i.kind, .int .i64 i.n, .int .i64 i.cap, .slice ax3 i.wt.length cx3, .slice ax4 i.vl.length cx4, .slice ax5 i.cost.length cx5] 25] _ := hM.call hn; clear hn
     refine ⟨.slice ka16 ((((i.cost.getD k [])).take 70).length) kc17, rfl, (((((hM.drop 5).drop 4).drop 3).drop 2).drop 0), fun a hA => ?_⟩
     refine D.buildSl (cells := #[.slice ka16 ((((i.cost.getD k [])).take 70).length) kc17]) hA hM rfl Try.underlying23 info22 rfl rfl rfl rfl (by kernel_rfl) rfl ?_; clear hA hM a; intro b18 w10 hb19 hM; refine ⟨(fun hM => (((((hM.drop 5).drop 4).drop 3).drop 2).drop 0)) hM.tail, fun a hA => ?_⟩
     replace hM : Mem _ _ [pt b18 #[.slice ka16 ((((i.cost.getD k [])).take 70).length) kc17] 22, own 3 1 (.slice ka16 (((((i.cost.getD k [])).take 70)).length) kc17) (((((i.cost.getD k [])).take 70)).length) (((((i.cost.getD k [])).take 70)).map (Value.int .i64)), pt b9 #[.int .i64 i.kind, .int .i64 i.n, .int .i64 i.cap, .slice ka5 ((i.wt.take 70).length) kc6, .slice ka7 ((i.vl.take 70).length) kc8, .slice ao rs.length co] 25, own 3 1 (.slice ka5 (((i.wt.take 70)).length) kc6) (((i.wt.take 70)).length) (((i.wt.take 70)).map (Value.int .i64)), own 3 1 (.slice ka7 (((i.vl.take 70)).length) kc8) (((i.vl.take 70)).length) (((i.vl.take 70)).map (Value.int .i64)), own 22 1 (.slice ao rs.length co) rs.length ((rs.map orV)), bundle (rs.map (orC 3)), pt b3 cz0 25, pt b1 #[.int .i64 i.kind, .int .i64 i.n, .int .i64 i.cap, .slice ax3 i.wt.length cx3, .slice ax4 i.vl.length cx4, .slice ax5 i.cost.length cx5] 25] _ := hM
     refine D.append (k := 5) (k2 := 0) hA hM rfl rfl rfl Try.underlying23 info22 rfl rfl rfl rfl rfl rfl rfl rfl rfl (by first | (rw [take_min70, List.length_take]; unfold maxLen; omega) | (rw [take_min70, List.length_take]; show (0 + _) * 8 ≤ (140737488355328 : Nat); omega) | omega | (show (_ + 1) * 24 ≤ (140737488355328 : Nat); omega) | (unfold maxLen; omega)) (by first | (rw [take_min70, List.length_take]; unfold maxLen; omega) | (rw [take_min70, List.length_take]; show (0 + _) * 8 ≤ (140737488355328 : Nat); omega) | omega | (show (_ + 1) * 24 ≤ (140737488355328 : Nat); omega) | (unfold maxLen; omega)) rfl ?_; clear hA hM a; intro a20 c21 w11 hM
     replace hM : Mem _ _ [pt b18 #[.slice ka16 ((((i.cost.getD k [])).take 70).length) kc17] 22, own 3 1 (.slice ka16 (((((i.cost.getD k [])).take 70)).length) kc17) (((((i.cost.getD k [])).take 70)).length) (((((i.cost.getD k [])).take 70)).map (Value.int .i64)), pt b9 #[.int .i64 i.kind, .int .i64 i.n, .int .i64 i.cap, .slice ka5 ((i.wt.take 70).length) kc6, .slice ka7 ((i.vl.take 70).length) kc8, .slice ao rs.length co] 25, own 3 1 (.slice ka5 (((i.wt.take 70)).length) kc6) (((i.wt.take 70)).length) (((i.wt.take 70)).map (Value.int .i64)), own 3 1 (.slice ka7 (((i.vl.take 70)).length) kc8) (((i.vl.take 70)).length) (((i.vl.take 70)).map (Value.int .i64)), own 22 1 (.slice a20 (rs.length + 1) c21) (rs.length + 1) (((rs.map orV) ++ [.slice ka16 ((((i.cost.getD k [])).take 70).length) kc17])), bundle (rs.map (orC 3)), pt b3 cz0 25, pt b1 #[.int .i64 i.kind, .int .i64 i.n, .int .i64 i.cap, .slice ax3 i.wt.length cx3, .slice ax4 i.vl.length cx4, .slice ax5 i.cost.length cx5] 25] _ := hM
     replace hM := hM.drop 0
     replace hM : Mem _ _ [own 3 1 (.slice ka16 (((((i.cost.getD k [])).take 70)).length) kc17) (((((i.cost.getD k [])).take 70)).length) (((((i.cost.getD k [])).take 70)).map (Value.int .i64)), pt b9 #[.int .i64 i.kind, .int .i64 i.n, .int .i64 i.cap, .slice ka5 ((i.wt.take 70).length) kc6, .slice ka7 ((i.vl.take 70).length) kc8, .slice ao rs.length co] 25, own 3 1 (.slice ka5 (((i.wt.take 70)).length) kc6) (((i.wt.take 70)).length) (((i.wt.take 70)).map (Value.int .i64)), own 3 1 (.slice ka7 (((i.vl.take 70)).length) kc8) (((i.vl.take 70)).length) (((i.vl.take 70)).map (Value.int .i64)), own 22 1 (.slice a20 (rs.length + 1) c21) (rs.length + 1) (((rs.map orV) ++ [.slice ka16 ((((i.cost.getD k [])).take 70).length) kc17])), bundle (rs.map (orC 3)), pt b3 cz0 25, pt b1 #[.int .i64 i.kind, .int .i64 i.n, .int .i64 i.cap, .slice ax3 i.wt.length cx3, .slice ax4 i.vl.length cx4, .slice ax5 i.cost.length cx5] 25] _ := hM
     refine ⟨(((((hM.drop 5).drop 4).drop 3).drop 2).drop 0), fun a hA => ?_⟩
     refine D.valF hA rfl (fun _ => R.fieldAddr (q := 5) fi25_5 rfl rfl rfl) rfl ?_; clear hA a; intro a hA
     refine D.store (k := 1) hA hM rfl sz23 rfl rfl rfl rfl rfl ?_; clear hM
     intro w12 hM; refine ⟨fun _ hne => absurd rfl hne, ?_⟩
     replace hM : Mem _ _ [own 3 1 (.slice ka16 (((((i.cost.getD k [])).take 70)).length) kc17) (((((i.cost.getD k [])).take 70)).length) (((((i.cost.getD k [])).take 70)).map (Value.int .i64)), pt b9 #[.int .i64 i.kind, .int .i64 i.n, .int .i64 i.cap, .slice ka5 ((i.wt.take 70).length) kc6, .slice ka7 ((i.vl.take 70).length) kc8, .slice a20 (rs.length + 1) c21] 25, own 3 1 (.slice ka5 (((i.wt.take 70)).length) kc6) (((i.wt.take 70)).length) (((i.wt.take 70)).map (Value.int .i64)), own 3 1 (.slice ka7 (((i.vl.take 70)).length) kc8) (((i.vl.take 70)).length) (((i.vl.take 70)).map (Value.int .i64)), own 22 1 (.slice a20 (rs.length + 1) c21) (rs.length + 1) (((rs.map orV) ++ [.slice ka16 ((((i.cost.getD k [])).take 70).length) kc17])), bundle (rs.map (orC 3)), pt b3 cz0 25, pt b1 #[.int .i64 i.kind, .int .i64 i.n, .int .i64 i.cap, .slice ax3 i.wt.length cx3, .slice ax4 i.vl.length cx4, .slice ax5 i.cost.length cx5] 25] _ := hM
     refine D.done ?_
     replace hA : St 41 [(1, _), (2, _), (3, _), (4, _)] a := hA.sub ((.cons rfl (.cons rfl (.cons rfl (.cons rfl .nil)))))
     refine Ends.inBlock (Ends.region ?_)
     refine S.val hA (R.move rfl) rfl ?_; clear hA a; intro a hA
     refine S.val hA (R.addI rfl rfl (r := ((k : Int)) + 1) rfl (by omega)) rfl ?_; clear hA a; intro a hA
     refine S.val hA (R.assign rfl) rfl ?_; clear hA a; intro a hA
     refine S.done ?_
     rw [show (Value.slice ka16 ((((i.cost.getD k [])).take 70)).length kc17) = orV (⟨(((i.cost.getD k [])).take 70), ka16, kc17⟩ : OwR) from rfl, orV_snoc', len_snoc' rs (⟨(((i.cost.getD k [])).take 70), ka16, kc17⟩ : OwR)] at hM
     replace hM := hM.front (k := 5) rfl
     replace hM := hM.front (k := 1) rfl
     replace hM := (hM.ownOrC).bundleSnoc
     replace hM := hM.front (k := 6) rfl
     replace hM := hM.front (k := 6) rfl
     replace hM := hM.front (k := 2) rfl
     replace hM := hM.front (k := 6) rfl
     replace hM := hM.front (k := 6) rfl
     replace hM := hM.front (k := 6) rfl
     replace hM := hM.front (k := 6) rfl
     replace hM := hM.firstN 7
     exact hNext ((k + 1, a20, c21, rs ++ [(⟨(((i.cost.getD k [])).take 70), ka16, kc17⟩ : OwR)])) _ _ ((by show 30 - (k + 1) < 30 - k; omega)) ⟨hA.sub ((.cons rfl (.cons rfl (.cons rfl (.cons rfl .nil))))), hM, (by omega), (by rw [List.map_append, hY, takeR_snoc (show k < i.cost.length by omega)]; rfl)⟩
    ·
     have hlr : (i.cost.take 30).map (fun r => r.take 70) = (i.cost.take k).map (fun r => r.take 70) := by
      by_cases h9 : k = 30
      · rw [h9]
      · rw [List.take_of_length_le (show i.cost.length ≤ 30 by omega), List.take_of_length_le (show i.cost.length ≤ k by omega)]
     refine Ends.exit rfl ?_
     refine Ends.seq (Ends.region ?_)
     refine S.val hA (R.loadA sz25 rfl (hM.range (k := 0) rfl) rfl) rfl ?_; clear hA a; intro a hA
     refine S.storeA (k := 5) hA hM sz25 rfl rfl rfl rfl rfl rfl ?_; clear hM
     intro w13 hM
     replace hM : Mem _ _ [pt b9 #[.int .i64 i.kind, .int .i64 i.n, .int .i64 i.cap, .slice ka5 ((i.wt.take 70).length) kc6, .slice ka7 ((i.vl.take 70).length) kc8, .slice ao rs.length co] 25, own 3 1 (.slice ka5 (((i.wt.take 70)).length) kc6) (((i.wt.take 70)).length) (((i.wt.take 70)).map (Value.int .i64)), own 3 1 (.slice ka7 (((i.vl.take 70)).length) kc8) (((i.vl.take 70)).length) (((i.vl.take 70)).map (Value.int .i64)), own 22 1 (.slice ao rs.length co) rs.length ((rs.map orV)), bundle (rs.map (orC 3)), pt b3 #[.int .i64 i.kind, .int .i64 i.n, .int .i64 i.cap, .slice ka5 ((i.wt.take 70).length) kc6, .slice ka7 ((i.vl.take 70).length) kc8, .slice ao rs.length co] 25, pt b1 #[.int .i64 i.kind, .int .i64 i.n, .int .i64 i.cap, .slice ax3 i.wt.length cx3, .slice ax4 i.vl.length cx4, .slice ax5 i.cost.length cx5] 25] _ := hM
     refine S.done ?_
     replace hA : St 41 [(2, _)] a := hA.sub ((.cons rfl .nil))
     refine Ends.retC (k := 5) Try.func13 Try.results13 hA hM rfl rfl sz25 rfl ?_
     replace hM := hM.front (k := 4) rfl
     replace hM := hM.front (k := 4) rfl
     replace hM := hM.front (k := 4) rfl
     replace hM := hM.front (k := 4) rfl
     replace hM := hM.firstN 4
     exact ⟨ka5, kc6, ka7, kc8, ao, co, rs, rfl, by rw [hY, ← hlr]; rfl, Mem.pack (cs := insL 3 22 (cutI i) ka5 kc6 ka7 kc8 ao co rs) (L := []) hM⟩
   ·
    refine Ends.region ?_
    refine S.val hA (R.move rfl) rfl ?_; clear hA a; intro a hA
    refine S.val hA (R.fieldAddr (q := 5) fi25_5 rfl rfl rfl) rfl ?_; clear hA a; intro a hA
    refine S.val hA (R.load sz23 rfl (hM.cell (k := 6) rfl rfl)) rfl ?_; clear hA a; intro a hA
    refine S.val hA (R.lenS Try.underlying23 rfl rfl) rfl ?_; clear hA a; intro a hA
    refine S.val hA (R.lss rfl rfl) rfl ?_; clear hA a; intro a hA
    refine S.val hA (R.move rfl) rfl ?_; clear hA a; intro a hA
    refine hA.split (d := 23) rfl ?_ ?_
    ·
     clear hA; intro hg22 hA
     refine S.valg (dj := 23) hA (by kernel_rfl) rfl (R.move rfl) rfl ?_; clear hA a; intro a hA
     refine S.valg (dj := 23) hA (by kernel_rfl) rfl (R.lss rfl rfl) rfl ?_; clear hA a; intro a hA
     refine S.val hA (R.pickT rfl rfl) rfl ?_; clear hA a; intro a hA
     refine S.done ?_
     replace hA : St 41 [(1, _), (2, _), (3, _), (4, _), (26, _)] a := hA.sub ((.cons rfl (.cons rfl (.cons rfl (.cons rfl (.cons rfl .nil))))))
     exact hJ _ _ ⟨hA.sub (.cons rfl (.cons rfl (.cons rfl (.cons rfl (.cons (by first | rfl | exact congrArg (fun b => some (Value.bool b)) (by first | exact decide_eq_decide.2 (by omega) | exact or_bool (by omega) | exact and_bool (by omega) | (simp; done) | (simp [hg22]; done) | (have h80 := hg22; (try simp at h80); simp [h80]; done) | exact (decide_eq_false (fun h9 => hg22 h9.1)).symm)) .nil))))), hM⟩
    ·
     clear hA; intro hg22 hA
     refine S.no (dj := 23) hA (by kernel_rfl) rfl rfl rfl ?_; clear hA a; intro a hA
     refine S.no (dj := 23) hA (by kernel_rfl) rfl rfl rfl ?_; clear hA a; intro a hA
     refine S.val hA (R.pickF rfl rfl) rfl ?_; clear hA a; intro a hA
     refine S.done ?_
     replace hA : St 41 [(1, _), (2, _), (3, _), (4, _), (26, _)] a := hA.sub ((.cons rfl (.cons rfl (.cons rfl (.cons rfl (.cons rfl .nil))))))
     exact hJ _ _ ⟨hA.sub (.cons rfl (.cons rfl (.cons rfl (.cons rfl (.cons (by first | rfl | exact congrArg (fun b => some (Value.bool b)) (by first | exact decide_eq_decide.2 (by omega) | exact or_bool (by omega) | exact and_bool (by omega) | (simp; done) | (simp [hg22]; done) | (have h80 := hg22; (try simp at h80); simp [h80]; done) | exact (decide_eq_false (fun h9 => hg22 h9.1)).symm)) .nil))))), hM⟩
  ·
   refine D.alloc hA hM rfl info25 rfl rfl ?_; clear hA hM a; intro b23 w14 hb24 hM; refine ⟨(fun hM => (hM.drop 0)) hM.tail, fun a hA => ?_⟩
   replace hM : Mem _ _ [pt b23 cz0 25, own 3 1 (.slice ka5 (((i.wt.take 70)).length) kc6) (((i.wt.take 70)).length) (((i.wt.take 70)).map (Value.int .i64)), pt b3 cz0 25, pt b1 #[.int .i64 i.kind, .int .i64 i.n, .int .i64 i.cap, .slice ax3 i.wt.length cx3, .slice ax4 i.vl.length cx4, .slice ax5 i.cost.length cx5] 25] _ := hM
   refine D.call hA rfl (R.callF Try.func39 rfl rfl rfl) rfl (cut05 ax4 i.vl cx4 _ (hx4.mem hM)) ?_; clear hA a
   rintro e w15 ⟨ka25, kc26, rfl, hn⟩
   replace hM : Mem _ _ [own 3 1 (.slice ka25 (((i.vl.take 70)).length) kc26) (((i.vl.take 70)).length) (((i.vl.take 70)).map (Value.int .i64)), pt b23 cz0 25, own 3 1 (.slice ka5 (((i.wt.take 70)).length) kc6) (((i.wt.take 70)).length) (((i.wt.take 70)).map (Value.int .i64)), pt b3 cz0 25, pt b1 #[.int .i64 i.kind, .int .i64 i.n, .int .i64 i.cap, .slice ax3 i.wt.length cx3, .slice ax4 i.vl.length cx4, .slice ax5 i.cost.length cx5] 25] _ := hM.call hn; clear hn
   refine ⟨.slice ka25 ((i.vl.take 70).length) kc26, rfl, (((hM.drop 2).drop 1).drop 0), fun a hA => ?_⟩
   refine D.valF hA rfl (fun _ => R.build (cells := #[.int .i64 i.kind, .int .i64 i.n, .int .i64 i.cap, .slice ka5 ((i.wt.take 70).length) kc6, .slice ka25 ((i.vl.take 70).length) kc26, .slice none 0 0]) rfl (by kernel_rfl)) rfl ?_; clear hA a; intro a hA
   refine D.storeA (k := 1) hA hM rfl sz25 rfl rfl rfl rfl rfl rfl ?_; clear hM
   intro w16 hM; refine ⟨fun _ hne => absurd rfl hne, ?_⟩
   replace hM : Mem _ _ [own 3 1 (.slice ka25 (((i.vl.take 70)).length) kc26) (((i.vl.take 70)).length) (((i.vl.take 70)).map (Value.int .i64)), pt b23 #[.int .i64 i.kind, .int .i64 i.n, .int .i64 i.cap, .slice ka5 ((i.wt.take 70).length) kc6, .slice ka25 ((i.vl.take 70).length) kc26, .slice none 0 0] 25, own 3 1 (.slice ka5 (((i.wt.take 70)).length) kc6) (((i.wt.take 70)).length) (((i.wt.take 70)).map (Value.int .i64)), pt b3 cz0 25, pt b1 #[.int .i64 i.kind, .int .i64 i.n, .int .i64 i.cap, .slice ax3 i.wt.length cx3, .slice ax4 i.vl.length cx4, .slice ax5 i.cost.length cx5] 25] _ := hM
   refine D.done ?_
   replace hA : St 41 [(1, _), (2, _), (3, _)] a := hA.sub ((.cons rfl (.cons rfl (.cons rfl .nil))))
   refine Ends.seq (Ends.seq (Ends.region ?_))
   refine S.val hA (R.assign rfl) rfl ?_; clear hA a; intro a hA
   refine S.done ?_
   refine Ends.block ?_
   replace hM := (hM.bundleNil (e := 3)).ownNil 22 1
   replace hM := hM.front (k := 6) rfl
   replace hM := hM.front (k := 6) rfl
   replace hM := hM.front (k := 3) rfl
   replace hM := hM.front (k := 3) rfl
   replace hM := hM.front (k := 4) rfl
   replace hM := hM.front (k := 6) rfl
   replace hM := hM.front (k := 6) rfl
   replace hM : Mem _ _ [pt b23 #[.int .i64 i.kind, .int .i64 i.n, .int .i64 i.cap, .slice ka5 ((i.wt.take 70).length) kc6, .slice ka25 ((i.vl.take 70).length) kc26, .slice none (([] : List OwR).length) 0] 25, own 3 1 (.slice ka5 (((i.wt.take 70)).length) kc6) (((i.wt.take 70)).length) (((i.wt.take 70)).map (Value.int .i64)), own 3 1 (.slice ka25 (((i.vl.take 70)).length) kc26) (((i.vl.take 70)).length) (((i.vl.take 70)).map (Value.int .i64)), own 22 1 (.slice none (([] : List OwR).length) 0) (([] : List OwR).length) ((([] : List OwR).map orV)), bundle (([] : List OwR).map (orC 3)), pt b3 cz0 25, pt b1 #[.int .i64 i.kind, .int .i64 i.n, .int .i64 i.cap, .slice ax3 i.wt.length cx3, .slice ax4 i.vl.length cx4, .slice ax5 i.cost.length cx5] 25] _ := hM
   refine Ends.loop (σ := Nat × Option Addr × Nat × List OwR) (fun (k, ao, co, rs) (a : Act) (wv : World) => St 41 [(1, .pointer (some ⟨b1, 0, none⟩)), (2, .pointer (some ⟨b3, 0, none⟩)), (3, .pointer (some ⟨b23, 0, none⟩)), (4, .int .i64 ((k : Int)))] a ∧ Mem w nof [pt b23 #[.int .i64 i.kind, .int .i64 i.n, .int .i64 i.cap, .slice ka5 ((i.wt.take 70).length) kc6, .slice ka25 ((i.vl.take 70).length) kc26, .slice ao rs.length co] 25, own 3 1 (.slice ka5 (((i.wt.take 70)).length) kc6) (((i.wt.take 70)).length) (((i.wt.take 70)).map (Value.int .i64)), own 3 1 (.slice ka25 (((i.vl.take 70)).length) kc26) (((i.vl.take 70)).length) (((i.vl.take 70)).map (Value.int .i64)), own 22 1 (.slice ao rs.length co) rs.length ((rs.map orV)), bundle (rs.map (orC 3)), pt b3 cz0 25, pt b1 #[.int .i64 i.kind, .int .i64 i.n, .int .i64 i.cap, .slice ax3 i.wt.length cx3, .slice ax4 i.vl.length cx4, .slice ax5 i.cost.length cx5] 25] wv ∧ (k ≤ i.cost.length ∧ k ≤ 30) ∧ (rs.map (·.Y) = (i.cost.take k).map (fun r => r.take 70))) (fun (k, ao, co, rs) => 30 - k) ((0, none, 0, [])) ⟨hA.sub ((.cons rfl (.cons rfl (.cons rfl (.cons rfl .nil))))), hM, (by omega), rfl⟩ ?_
   clear hA hM a
   rintro ⟨k, ao, co, rs⟩ a w17 ⟨hA, hM, hk, hY⟩ hNext
   refine Ends.seq (Ends.seq ?_)
   refine Ends.cut (fun (a : Act) (wv : World) => St 41 [(1, .pointer (some ⟨b1, 0, none⟩)), (2, .pointer (some ⟨b3, 0, none⟩)), (3, .pointer (some ⟨b23, 0, none⟩)), (4, .int .i64 ((k : Int))), (26, .bool (decide ((((k : Int)) < ((i.cost.length : Int)) ∧ ((k : Int)) < 30))))] a ∧ Mem w nof [pt b23 #[.int .i64 i.kind, .int .i64 i.n, .int .i64 i.cap, .slice ka5 ((i.wt.take 70).length) kc6, .slice ka25 ((i.vl.take 70).length) kc26, .slice ao rs.length co] 25, own 3 1 (.slice ka5 (((i.wt.take 70)).length) kc6) (((i.wt.take 70)).length) (((i.wt.take 70)).map (Value.int .i64)), own 3 1 (.slice ka25 (((i.vl.take 70)).length) kc26) (((i.vl.take 70)).length) (((i.vl.take 70)).map (Value.int .i64)), own 22 1 (.slice ao rs.length co) rs.length ((rs.map orV)), bundle (rs.map (orC 3)), pt b3 cz0 25, pt b1 #[.int .i64 i.kind, .int .i64 i.n, .int .i64 i.cap, .slice ax3 i.wt.length cx3, .slice ax4 i.vl.length cx4, .slice ax5 i.cost.length cx5] 25] wv) ?_ (fun k2 hJ => ?_)
   ·
    clear hA hM a; rintro a w18 ⟨hA, hM⟩
    refine Ends.ite hA rfl (fun hc27 => ?_) (fun hc27 => ?_)
    ·
     have hlr : rs.length = k := by have := congrArg List.length hY; simpa [List.length_take, Nat.min_eq_left hk.1] using this
     refine Ends.skip (Ends.seq (Ends.block ?_))
     refine Ends.drawn (Mem w nof [pt b23 #[.int .i64 i.kind, .int .i64 i.n, .int .i64 i.cap, .slice ka5 ((i.wt.take 70).length) kc6, .slice ka25 ((i.vl.take 70).length) kc26, .slice ao rs.length co] 25, pt b3 cz0 25, pt b1 #[.int .i64 i.kind, .int .i64 i.n, .int .i64 i.cap, .slice ax3 i.wt.length cx3, .slice ax4 i.vl.length cx4, .slice ax5 i.cost.length cx5] 25]) (.cons (0, true) (.cons (1, true) (.cons (2, true) (.cons (3, true) (.cons (4, true) (.cons (5, true) (.cons (6, true) (.cons (7, false) (.cons (8, false) (.cons (9, false) (.cons (10, true) (.cons (11, false) .nil)))))))))))) 11 mixed (by kernel_rfl) (by kernel_rfl) (by kernel_rfl) ((((hM.drop 4).drop 3).drop 2).drop 1).drew ?_
     replace hM := hM.drew
     refine D.valF hA rfl (fun _ => R.fieldAddr (q := 5) fi25_5 rfl rfl rfl) rfl ?_; clear hA a; intro a hA
     refine D.val hA rfl (by kernel_rfl) (fun _ hM => R.load sz23 rfl (hM.cell (k := 0) rfl rfl)) rfl ?_; clear hA a; intro a hA
     refine D.valF hA rfl (fun _ => R.fieldAddr (q := 5) fi25_5 rfl rfl rfl) rfl ?_; clear hA a; intro a hA
     refine D.val hA rfl (by kernel_rfl) (fun _ hM => R.load sz23 rfl (hM.cell (k := 2) rfl rfl)) rfl ?_; clear hA a; intro a hA
     refine D.valF hA rfl (fun _ => R.move rfl) rfl ?_; clear hA a; intro a hA
     refine D.valF hA rfl (fun _ => R.idxR hx5 (j := k) sl23 rfl rfl (by omega) (rfl)) rfl ?_; clear hA a; intro a hA
     obtain ⟨ra28, rc29, hrow30, hld31⟩ := hx5.atP (i := k) (by omega)
     refine D.val hA rfl (by kernel_rfl) (fun _ hM => hld31 _ _ _ _ _ _ hM sz22 rfl) rfl ?_; clear hA a; intro a hA
     refine D.call hA rfl (R.callF Try.func39 rfl rfl rfl) rfl (cut05 ra28 ((i.cost.getD k [])) rc29 _ (hrow30.mem hM)) ?_; clear hA a
     rintro e w19 ⟨ka32, kc33, rfl, hn⟩
     replace hM : Mem _ _ [own 3 1 (.slice ka32 (((((i.cost.getD k [])).take 70)).length) kc33) (((((i.cost.getD k [])).take 70)).length) (((((i.cost.getD k [])).take 70)).map (Value.int .i64)), pt b23 #[.int .i64 i.kind, .int .i64 i.n, .int .i64 i.cap, .slice ka5 ((i.wt.take 70).length) kc6, .slice ka25 ((i.vl.take 70).length) kc26, .slice ao rs.length co] 25, own 3 1 (.slice ka5 (((i.wt.take 70)).length) kc6) (((i.wt.take 70)).length) (((i.wt.take 70)).map (Value.int .i64)), own 3 1 (.slice ka25 (((i.vl.take 70)).length) kc26) (((i.vl.take 70)).length) (((i.vl.take 70)).map (Value.int .i64)), own 22 1 (.slice ao rs.length co) rs.length ((rs.map orV)), bundle (rs.map (orC 3)), pt b3 cz0 25, pt b1 #[.int .i64 i.kind, .int .i64 i.n, .int .i64 i.cap, .slice ax3 i.wt.length cx3, .slice ax4 i.vl.length cx4, .slice ax5 i.cost.length cx5] 25] _ := hM.call hn; clear hn
     refine ⟨.slice ka32 ((((i.cost.getD k [])).take 70).length) kc33, rfl, (((((hM.drop 5).drop 4).drop 3).drop 2).drop 0), fun a hA => ?_⟩
     refine D.buildSl (cells := #[.slice ka32 ((((i.cost.getD k [])).take 70).length) kc33]) hA hM rfl Try.underlying23 info22 rfl rfl rfl rfl (by kernel_rfl) rfl ?_; clear hA hM a; intro b34 w20 hb35 hM; refine ⟨(fun hM => (((((hM.drop 5).drop 4).drop 3).drop 2).drop 0)) hM.tail, fun a hA => ?_⟩
     replace hM : Mem _ _ [pt b34 #[.slice ka32 ((((i.cost.getD k [])).take 70).length) kc33] 22, own 3 1 (.slice ka32 (((((i.cost.getD k [])).take 70)).length) kc33) (((((i.cost.getD k [])).take 70)).length) (((((i.cost.getD k [])).take 70)).map (Value.int .i64)), pt b23 #[.int .i64 i.kind, .int .i64 i.n, .int .i64 i.cap, .slice ka5 ((i.wt.take 70).length) kc6, .slice ka25 ((i.vl.take 70).length) kc26, .slice ao rs.length co] 25, own 3 1 (.slice ka5 (((i.wt.take 70)).length) kc6) (((i.wt.take 70)).length) (((i.wt.take 70)).map (Value.int .i64)), own 3 1 (.slice ka25 (((i.vl.take 70)).length) kc26) (((i.vl.take 70)).length) (((i.vl.take 70)).map (Value.int .i64)), own 22 1 (.slice ao rs.length co) rs.length ((rs.map orV)), bundle (rs.map (orC 3)), pt b3 cz0 25, pt b1 #[.int .i64 i.kind, .int .i64 i.n, .int .i64 i.cap, .slice ax3 i.wt.length cx3, .slice ax4 i.vl.length cx4, .slice ax5 i.cost.length cx5] 25] _ := hM
     refine D.append (k := 5) (k2 := 0) hA hM rfl rfl rfl Try.underlying23 info22 rfl rfl rfl rfl rfl rfl rfl rfl rfl (by first | (rw [take_min70, List.length_take]; unfold maxLen; omega) | (rw [take_min70, List.length_take]; show (0 + _) * 8 ≤ (140737488355328 : Nat); omega) | omega | (show (_ + 1) * 24 ≤ (140737488355328 : Nat); omega) | (unfold maxLen; omega)) (by first | (rw [take_min70, List.length_take]; unfold maxLen; omega) | (rw [take_min70, List.length_take]; show (0 + _) * 8 ≤ (140737488355328 : Nat); omega) | omega | (show (_ + 1) * 24 ≤ (140737488355328 : Nat); omega) | (unfold maxLen; omega)) rfl ?_; clear hA hM a; intro a36 c37 w21 hM
     replace hM : Mem _ _ [pt b34 #[.slice ka32 ((((i.cost.getD k [])).take 70).length) kc33] 22, own 3 1 (.slice ka32 (((((i.cost.getD k [])).take 70)).length) kc33) (((((i.cost.getD k [])).take 70)).length) (((((i.cost.getD k [])).take 70)).map (Value.int .i64)), pt b23 #[.int .i64 i.kind, .int .i64 i.n, .int .i64 i.cap, .slice ka5 ((i.wt.take 70).length) kc6, .slice ka25 ((i.vl.take 70).length) kc26, .slice ao rs.length co] 25, own 3 1 (.slice ka5 (((i.wt.take 70)).length) kc6) (((i.wt.take 70)).length) (((i.wt.take 70)).map (Value.int .i64)), own 3 1 (.slice ka25 (((i.vl.take 70)).length) kc26) (((i.vl.take 70)).length) (((i.vl.take 70)).map (Value.int .i64)), own 22 1 (.slice a36 (rs.length + 1) c37) (rs.length + 1) (((rs.map orV) ++ [.slice ka32 ((((i.cost.getD k [])).take 70).length) kc33])), bundle (rs.map (orC 3)), pt b3 cz0 25, pt b1 #[.int .i64 i.kind, .int .i64 i.n, .int .i64 i.cap, .slice ax3 i.wt.length cx3, .slice ax4 i.vl.length cx4, .slice ax5 i.cost.length cx5] 25] _ := hM
     replace hM := hM.drop 0
     replace hM : Mem _ _ [own 3 1 (.slice ka32 (((((i.cost.getD k [])).take 70)).length) kc33) (((((i.cost.getD k [])).take 70)).length) (((((i.cost.getD k [])).take 70)).map (Value.int .i64)), pt b23 #[.int .i64 i.kind, .int .i64 i.n, .int .i64 i.cap, .slice ka5 ((i.wt.take 70).length) kc6, .slice ka25 ((i.vl.take 70).length) kc26, .slice ao rs.length co] 25, own 3 1 (.slice ka5 (((i.wt.take 70)).length) kc6) (((i.wt.take 70)).length) (((i.wt.take 70)).map (Value.int .i64)), own 3 1 (.slice ka25 (((i.vl.take 70)).length) kc26) (((i.vl.take 70)).length) (((i.vl.take 70)).map (Value.int .i64)), own 22 1 (.slice a36 (rs.length + 1) c37) (rs.length + 1) (((rs.map orV) ++ [.slice ka32 ((((i.cost.getD k [])).take 70).length) kc33])), bundle (rs.map (orC 3)), pt b3 cz0 25, pt b1 #[.int .i64 i.kind, .int .i64 i.n, .int .i64 i.cap, .slice ax3 i.wt.length cx3, .slice ax4 i.vl.length cx4, .slice ax5 i.cost.length cx5] 25] _ := hM
     refine ⟨(((((hM.drop 5).drop 4).drop 3).drop 2).drop 0), fun a hA => ?_⟩
     refine D.valF hA rfl (fun _ => R.fieldAddr (q := 5) fi25_5 rfl rfl rfl) rfl ?_; clear hA a; intro a hA
     refine D.store (k := 1) hA hM rfl sz23 rfl rfl rfl rfl rfl ?_; clear hM
     intro w22 hM; refine ⟨fun _ hne => absurd rfl hne, ?_⟩
     replace hM : Mem _ _ [own 3 1 (.slice ka32 (((((i.cost.getD k [])).take 70)).length) kc33) (((((i.cost.getD k [])).take 70)).length) (((((i.cost.getD k [])).take 70)).map (Value.int .i64)), pt b23 #[.int .i64 i.kind, .int .i64 i.n, .int .i64 i.cap, .slice ka5 ((i.wt.take 70).length) kc6, .slice ka25 ((i.vl.take 70).length) kc26, .slice a36 (rs.length + 1) c37] 25, own 3 1 (.slice ka5 (((i.wt.take 70)).length) kc6) (((i.wt.take 70)).length) (((i.wt.take 70)).map (Value.int .i64)), own 3 1 (.slice ka25 (((i.vl.take 70)).length) kc26) (((i.vl.take 70)).length) (((i.vl.take 70)).map (Value.int .i64)), own 22 1 (.slice a36 (rs.length + 1) c37) (rs.length + 1) (((rs.map orV) ++ [.slice ka32 ((((i.cost.getD k [])).take 70).length) kc33])), bundle (rs.map (orC 3)), pt b3 cz0 25, pt b1 #[.int .i64 i.kind, .int .i64 i.n, .int .i64 i.cap, .slice ax3 i.wt.length cx3, .slice ax4 i.vl.length cx4, .slice ax5 i.cost.length cx5] 25] _ := hM
     refine D.done ?_
     replace hA : St 41 [(1, _), (2, _), (3, _), (4, _)] a := hA.sub ((.cons rfl (.cons rfl (.cons rfl (.cons rfl .nil)))))
     refine Ends.inBlock (Ends.region ?_)
     refine S.val hA (R.move rfl) rfl ?_; clear hA a; intro a hA
     refine S.val hA (R.addI rfl rfl (r := ((k : Int)) + 1) rfl (by omega)) rfl ?_; clear hA a; intro a hA
     refine S.val hA (R.assign rfl) rfl ?_; clear hA a; intro a hA
     refine S.done ?_
     rw [show (Value.slice ka32 ((((i.cost.getD k [])).take 70)).length kc33) = orV (⟨(((i.cost.getD k [])).take 70), ka32, kc33⟩ : OwR) from rfl, orV_snoc', len_snoc' rs (⟨(((i.cost.getD k [])).take 70), ka32, kc33⟩ : OwR)] at hM
     replace hM := hM.front (k := 5) rfl
     replace hM := hM.front (k := 1) rfl
     replace hM := (hM.ownOrC).bundleSnoc
     replace hM := hM.front (k := 6) rfl
     replace hM := hM.front (k := 6) rfl
     replace hM := hM.front (k := 2) rfl
     replace hM := hM.front (k := 6) rfl
     replace hM := hM.front (k := 6) rfl
     replace hM := hM.front (k := 6) rfl
     replace hM := hM.front (k := 6) rfl
     replace hM := hM.firstN 7
     exact hNext ((k + 1, a36, c37, rs ++ [(⟨(((i.cost.getD k [])).take 70), ka32, kc33⟩ : OwR)])) _ _ ((by show 30 - (k + 1) < 30 - k; omega)) ⟨hA.sub ((.cons rfl (.cons rfl (.cons rfl (.cons rfl .nil))))), hM, (by omega), (by rw [List.map_append, hY, takeR_snoc (show k < i.cost.length by omega)]; rfl)⟩
    ·
     have hlr : (i.cost.take 30).map (fun r => r.take 70) = (i.cost.take k).map (fun r => r.take 70) := by
      by_cases h9 : k = 30
      · rw [h9]
      · rw [List.take_of_length_le (show i.cost.length ≤ 30 by omega), List.take_of_length_le (show i.cost.length ≤ k by omega)]
     refine Ends.exit rfl ?_
     refine Ends.seq (Ends.region ?_)
     refine S.val hA (R.loadA sz25 rfl (hM.range (k := 0) rfl) rfl) rfl ?_; clear hA a; intro a hA
     refine S.storeA (k := 5) hA hM sz25 rfl rfl rfl rfl rfl rfl ?_; clear hM
     intro w23 hM
     replace hM : Mem _ _ [pt b23 #[.int .i64 i.kind, .int .i64 i.n, .int .i64 i.cap, .slice ka5 ((i.wt.take 70).length) kc6, .slice ka25 ((i.vl.take 70).length) kc26, .slice ao rs.length co] 25, own 3 1 (.slice ka5 (((i.wt.take 70)).length) kc6) (((i.wt.take 70)).length) (((i.wt.take 70)).map (Value.int .i64)), own 3 1 (.slice ka25 (((i.vl.take 70)).length) kc26) (((i.vl.take 70)).length) (((i.vl.take 70)).map (Value.int .i64)), own 22 1 (.slice ao rs.length co) rs.length ((rs.map orV)), bundle (rs.map (orC 3)), pt b3 #[.int .i64 i.kind, .int .i64 i.n, .int .i64 i.cap, .slice ka5 ((i.wt.take 70).length) kc6, .slice ka25 ((i.vl.take 70).length) kc26, .slice ao rs.length co] 25, pt b1 #[.int .i64 i.kind, .int .i64 i.n, .int .i64 i.cap, .slice ax3 i.wt.length cx3, .slice ax4 i.vl.length cx4, .slice ax5 i.cost.length cx5] 25] _ := hM
     refine S.done ?_
     replace hA : St 41 [(2, _)] a := hA.sub ((.cons rfl .nil))
     refine Ends.retC (k := 5) Try.func13 Try.results13 hA hM rfl rfl sz25 rfl ?_
     replace hM := hM.front (k := 4) rfl
     replace hM := hM.front (k := 4) rfl
     replace hM := hM.front (k := 4) rfl
     replace hM := hM.front (k := 4) rfl
     replace hM := hM.firstN 4
     exact ⟨ka5, kc6, ka25, kc26, ao, co, rs, rfl, by rw [hY, ← hlr]; rfl, Mem.pack (cs := insL 3 22 (cutI i) ka5 kc6 ka25 kc26 ao co rs) (L := []) hM⟩
   ·
    refine Ends.region ?_
    refine S.val hA (R.move rfl) rfl ?_; clear hA a; intro a hA
    refine S.val hA (R.fieldAddr (q := 5) fi25_5 rfl rfl rfl) rfl ?_; clear hA a; intro a hA
    refine S.val hA (R.load sz23 rfl (hM.cell (k := 6) rfl rfl)) rfl ?_; clear hA a; intro a hA
    refine S.val hA (R.lenS Try.underlying23 rfl rfl) rfl ?_; clear hA a; intro a hA
    refine S.val hA (R.lss rfl rfl) rfl ?_; clear hA a; intro a hA
    refine S.val hA (R.move rfl) rfl ?_; clear hA a; intro a hA
    refine hA.split (d := 23) rfl ?_ ?_
    ·
     clear hA; intro hg38 hA
     refine S.valg (dj := 23) hA (by kernel_rfl) rfl (R.move rfl) rfl ?_; clear hA a; intro a hA
     refine S.valg (dj := 23) hA (by kernel_rfl) rfl (R.lss rfl rfl) rfl ?_; clear hA a; intro a hA
     refine S.val hA (R.pickT rfl rfl) rfl ?_; clear hA a; intro a hA
     refine S.done ?_
     replace hA : St 41 [(1, _), (2, _), (3, _), (4, _), (26, _)] a := hA.sub ((.cons rfl (.cons rfl (.cons rfl (.cons rfl (.cons rfl .nil))))))
     exact hJ _ _ ⟨hA.sub (.cons rfl (.cons rfl (.cons rfl (.cons rfl (.cons (by first | rfl | exact congrArg (fun b => some (Value.bool b)) (by first | exact decide_eq_decide.2 (by omega) | exact or_bool (by omega) | exact and_bool (by omega) | (simp; done) | (simp [hg38]; done) | (have h80 := hg38; (try simp at h80); simp [h80]; done) | exact (decide_eq_false (fun h9 => hg38 h9.1)).symm)) .nil))))), hM⟩
    ·
     clear hA; intro hg38 hA
     refine S.no (dj := 23) hA (by kernel_rfl) rfl rfl rfl ?_; clear hA a; intro a hA
     refine S.no (dj := 23) hA (by kernel_rfl) rfl rfl rfl ?_; clear hA a; intro a hA
     refine S.val hA (R.pickF rfl rfl) rfl ?_; clear hA a; intro a hA
     refine S.done ?_
     replace hA : St 41 [(1, _), (2, _), (3, _), (4, _), (26, _)] a := hA.sub ((.cons rfl (.cons rfl (.cons rfl (.cons rfl (.cons rfl .nil))))))
     exact hJ _ _ ⟨hA.sub (.cons rfl (.cons rfl (.cons rfl (.cons rfl (.cons (by first | rfl | exact congrArg (fun b => some (Value.bool b)) (by first | exact decide_eq_decide.2 (by omega) | exact or_bool (by omega) | exact and_bool (by omega) | (simp; done) | (simp [hg38]; done) | (have h80 := hg38; (try simp at h80); simp [h80]; done) | exact (decide_eq_false (fun h9 => hg38 h9.1)).symm)) .nil))))), hM⟩
 ·
  refine D.alloc hA hM rfl info25 rfl rfl ?_; clear hA hM a; intro b39 w24 hb40 hM; refine ⟨(fun hM => hM) hM.tail, fun a hA => ?_⟩
  replace hM : Mem _ _ [pt b39 cz0 25, pt b3 cz0 25, pt b1 #[.int .i64 i.kind, .int .i64 i.n, .int .i64 i.cap, .slice ax3 i.wt.length cx3, .slice ax4 i.vl.length cx4, .slice ax5 i.cost.length cx5] 25] _ := hM
  refine D.call hA rfl (R.callF Try.func39 rfl rfl rfl) rfl (cut05 ax3 i.wt cx3 _ (hx3.mem hM)) ?_; clear hA a
  rintro e w25 ⟨ka41, kc42, rfl, hn⟩
  replace hM : Mem _ _ [own 3 1 (.slice ka41 (((i.wt.take 70)).length) kc42) (((i.wt.take 70)).length) (((i.wt.take 70)).map (Value.int .i64)), pt b39 cz0 25, pt b3 cz0 25, pt b1 #[.int .i64 i.kind, .int .i64 i.n, .int .i64 i.cap, .slice ax3 i.wt.length cx3, .slice ax4 i.vl.length cx4, .slice ax5 i.cost.length cx5] 25] _ := hM.call hn; clear hn
  refine ⟨.slice ka41 ((i.wt.take 70).length) kc42, rfl, ((hM.drop 1).drop 0), fun a hA => ?_⟩
  refine D.call hA rfl (R.callF Try.func39 rfl rfl rfl) rfl (cut05 ax4 i.vl cx4 _ (hx4.mem hM)) ?_; clear hA a
  rintro e w26 ⟨ka43, kc44, rfl, hn⟩
  replace hM : Mem _ _ [own 3 1 (.slice ka43 (((i.vl.take 70)).length) kc44) (((i.vl.take 70)).length) (((i.vl.take 70)).map (Value.int .i64)), own 3 1 (.slice ka41 (((i.wt.take 70)).length) kc42) (((i.wt.take 70)).length) (((i.wt.take 70)).map (Value.int .i64)), pt b39 cz0 25, pt b3 cz0 25, pt b1 #[.int .i64 i.kind, .int .i64 i.n, .int .i64 i.cap, .slice ax3 i.wt.length cx3, .slice ax4 i.vl.length cx4, .slice ax5 i.cost.length cx5] 25] _ := hM.call hn; clear hn
  refine ⟨.slice ka43 ((i.vl.take 70).length) kc44, rfl, (((hM.drop 2).drop 1).drop 0), fun a hA => ?_⟩
  refine D.valF hA rfl (fun _ => R.build (cells := #[.int .i64 i.kind, .int .i64 i.n, .int .i64 i.cap, .slice ka41 ((i.wt.take 70).length) kc42, .slice ka43 ((i.vl.take 70).length) kc44, .slice none 0 0]) rfl (by kernel_rfl)) rfl ?_; clear hA a; intro a hA
  refine D.storeA (k := 2) hA hM rfl sz25 rfl rfl rfl rfl rfl rfl ?_; clear hM
  intro w27 hM; refine ⟨fun _ hne => absurd rfl hne, ?_⟩
  replace hM : Mem _ _ [own 3 1 (.slice ka43 (((i.vl.take 70)).length) kc44) (((i.vl.take 70)).length) (((i.vl.take 70)).map (Value.int .i64)), own 3 1 (.slice ka41 (((i.wt.take 70)).length) kc42) (((i.wt.take 70)).length) (((i.wt.take 70)).map (Value.int .i64)), pt b39 #[.int .i64 i.kind, .int .i64 i.n, .int .i64 i.cap, .slice ka41 ((i.wt.take 70).length) kc42, .slice ka43 ((i.vl.take 70).length) kc44, .slice none 0 0] 25, pt b3 cz0 25, pt b1 #[.int .i64 i.kind, .int .i64 i.n, .int .i64 i.cap, .slice ax3 i.wt.length cx3, .slice ax4 i.vl.length cx4, .slice ax5 i.cost.length cx5] 25] _ := hM
  refine D.done ?_
  replace hA : St 41 [(1, _), (2, _), (3, _)] a := hA.sub ((.cons rfl (.cons rfl (.cons rfl .nil))))
  refine Ends.seq (Ends.seq (Ends.region ?_))
  refine S.val hA (R.assign rfl) rfl ?_; clear hA a; intro a hA
  refine S.done ?_
  refine Ends.block ?_
  replace hM := (hM.bundleNil (e := 3)).ownNil 22 1
  replace hM := hM.front (k := 6) rfl
  replace hM := hM.front (k := 6) rfl
  replace hM := hM.front (k := 3) rfl
  replace hM := hM.front (k := 3) rfl
  replace hM := hM.front (k := 4) rfl
  replace hM := hM.front (k := 5) rfl
  replace hM := hM.front (k := 6) rfl
  replace hM : Mem _ _ [pt b39 #[.int .i64 i.kind, .int .i64 i.n, .int .i64 i.cap, .slice ka41 ((i.wt.take 70).length) kc42, .slice ka43 ((i.vl.take 70).length) kc44, .slice none (([] : List OwR).length) 0] 25, own 3 1 (.slice ka41 (((i.wt.take 70)).length) kc42) (((i.wt.take 70)).length) (((i.wt.take 70)).map (Value.int .i64)), own 3 1 (.slice ka43 (((i.vl.take 70)).length) kc44) (((i.vl.take 70)).length) (((i.vl.take 70)).map (Value.int .i64)), own 22 1 (.slice none (([] : List OwR).length) 0) (([] : List OwR).length) ((([] : List OwR).map orV)), bundle (([] : List OwR).map (orC 3)), pt b3 cz0 25, pt b1 #[.int .i64 i.kind, .int .i64 i.n, .int .i64 i.cap, .slice ax3 i.wt.length cx3, .slice ax4 i.vl.length cx4, .slice ax5 i.cost.length cx5] 25] _ := hM
  refine Ends.loop (σ := Nat × Option Addr × Nat × List OwR) (fun (k, ao, co, rs) (a : Act) (wv : World) => St 41 [(1, .pointer (some ⟨b1, 0, none⟩)), (2, .pointer (some ⟨b3, 0, none⟩)), (3, .pointer (some ⟨b39, 0, none⟩)), (4, .int .i64 ((k : Int)))] a ∧ Mem w nof [pt b39 #[.int .i64 i.kind, .int .i64 i.n, .int .i64 i.cap, .slice ka41 ((i.wt.take 70).length) kc42, .slice ka43 ((i.vl.take 70).length) kc44, .slice ao rs.length co] 25, own 3 1 (.slice ka41 (((i.wt.take 70)).length) kc42) (((i.wt.take 70)).length) (((i.wt.take 70)).map (Value.int .i64)), own 3 1 (.slice ka43 (((i.vl.take 70)).length) kc44) (((i.vl.take 70)).length) (((i.vl.take 70)).map (Value.int .i64)), own 22 1 (.slice ao rs.length co) rs.length ((rs.map orV)), bundle (rs.map (orC 3)), pt b3 cz0 25, pt b1 #[.int .i64 i.kind, .int .i64 i.n, .int .i64 i.cap, .slice ax3 i.wt.length cx3, .slice ax4 i.vl.length cx4, .slice ax5 i.cost.length cx5] 25] wv ∧ (k ≤ i.cost.length ∧ k ≤ 30) ∧ (rs.map (·.Y) = (i.cost.take k).map (fun r => r.take 70))) (fun (k, ao, co, rs) => 30 - k) ((0, none, 0, [])) ⟨hA.sub ((.cons rfl (.cons rfl (.cons rfl (.cons rfl .nil))))), hM, (by omega), rfl⟩ ?_
  clear hA hM a
  rintro ⟨k, ao, co, rs⟩ a w28 ⟨hA, hM, hk, hY⟩ hNext
  refine Ends.seq (Ends.seq ?_)
  refine Ends.cut (fun (a : Act) (wv : World) => St 41 [(1, .pointer (some ⟨b1, 0, none⟩)), (2, .pointer (some ⟨b3, 0, none⟩)), (3, .pointer (some ⟨b39, 0, none⟩)), (4, .int .i64 ((k : Int))), (26, .bool (decide ((((k : Int)) < ((i.cost.length : Int)) ∧ ((k : Int)) < 30))))] a ∧ Mem w nof [pt b39 #[.int .i64 i.kind, .int .i64 i.n, .int .i64 i.cap, .slice ka41 ((i.wt.take 70).length) kc42, .slice ka43 ((i.vl.take 70).length) kc44, .slice ao rs.length co] 25, own 3 1 (.slice ka41 (((i.wt.take 70)).length) kc42) (((i.wt.take 70)).length) (((i.wt.take 70)).map (Value.int .i64)), own 3 1 (.slice ka43 (((i.vl.take 70)).length) kc44) (((i.vl.take 70)).length) (((i.vl.take 70)).map (Value.int .i64)), own 22 1 (.slice ao rs.length co) rs.length ((rs.map orV)), bundle (rs.map (orC 3)), pt b3 cz0 25, pt b1 #[.int .i64 i.kind, .int .i64 i.n, .int .i64 i.cap, .slice ax3 i.wt.length cx3, .slice ax4 i.vl.length cx4, .slice ax5 i.cost.length cx5] 25] wv) ?_ (fun k2 hJ => ?_)
  ·
   clear hA hM a; rintro a w29 ⟨hA, hM⟩
   refine Ends.ite hA rfl (fun hc45 => ?_) (fun hc45 => ?_)
   ·
    have hlr : rs.length = k := by have := congrArg List.length hY; simpa [List.length_take, Nat.min_eq_left hk.1] using this
    refine Ends.skip (Ends.seq (Ends.block ?_))
    refine Ends.drawn (Mem w nof [pt b39 #[.int .i64 i.kind, .int .i64 i.n, .int .i64 i.cap, .slice ka41 ((i.wt.take 70).length) kc42, .slice ka43 ((i.vl.take 70).length) kc44, .slice ao rs.length co] 25, pt b3 cz0 25, pt b1 #[.int .i64 i.kind, .int .i64 i.n, .int .i64 i.cap, .slice ax3 i.wt.length cx3, .slice ax4 i.vl.length cx4, .slice ax5 i.cost.length cx5] 25]) (.cons (0, true) (.cons (1, true) (.cons (2, true) (.cons (3, true) (.cons (4, true) (.cons (5, true) (.cons (6, true) (.cons (7, false) (.cons (8, false) (.cons (9, false) (.cons (10, true) (.cons (11, false) .nil)))))))))))) 11 mixed (by kernel_rfl) (by kernel_rfl) (by kernel_rfl) ((((hM.drop 4).drop 3).drop 2).drop 1).drew ?_
    replace hM := hM.drew
    refine D.valF hA rfl (fun _ => R.fieldAddr (q := 5) fi25_5 rfl rfl rfl) rfl ?_; clear hA a; intro a hA
    refine D.val hA rfl (by kernel_rfl) (fun _ hM => R.load sz23 rfl (hM.cell (k := 0) rfl rfl)) rfl ?_; clear hA a; intro a hA
    refine D.valF hA rfl (fun _ => R.fieldAddr (q := 5) fi25_5 rfl rfl rfl) rfl ?_; clear hA a; intro a hA
    refine D.val hA rfl (by kernel_rfl) (fun _ hM => R.load sz23 rfl (hM.cell (k := 2) rfl rfl)) rfl ?_; clear hA a; intro a hA
    refine D.valF hA rfl (fun _ => R.move rfl) rfl ?_; clear hA a; intro a hA
    refine D.valF hA rfl (fun _ => R.idxR hx5 (j := k) sl23 rfl rfl (by omega) (rfl)) rfl ?_; clear hA a; intro a hA
    obtain ⟨ra46, rc47, hrow48, hld49⟩ := hx5.atP (i := k) (by omega)
    refine D.val hA rfl (by kernel_rfl) (fun _ hM => hld49 _ _ _ _ _ _ hM sz22 rfl) rfl ?_; clear hA a; intro a hA
    refine D.call hA rfl (R.callF Try.func39 rfl rfl rfl) rfl (cut05 ra46 ((i.cost.getD k [])) rc47 _ (hrow48.mem hM)) ?_; clear hA a
    rintro e w30 ⟨ka50, kc51, rfl, hn⟩
    replace hM : Mem _ _ [own 3 1 (.slice ka50 (((((i.cost.getD k [])).take 70)).length) kc51) (((((i.cost.getD k [])).take 70)).length) (((((i.cost.getD k [])).take 70)).map (Value.int .i64)), pt b39 #[.int .i64 i.kind, .int .i64 i.n, .int .i64 i.cap, .slice ka41 ((i.wt.take 70).length) kc42, .slice ka43 ((i.vl.take 70).length) kc44, .slice ao rs.length co] 25, own 3 1 (.slice ka41 (((i.wt.take 70)).length) kc42) (((i.wt.take 70)).length) (((i.wt.take 70)).map (Value.int .i64)), own 3 1 (.slice ka43 (((i.vl.take 70)).length) kc44) (((i.vl.take 70)).length) (((i.vl.take 70)).map (Value.int .i64)), own 22 1 (.slice ao rs.length co) rs.length ((rs.map orV)), bundle (rs.map (orC 3)), pt b3 cz0 25, pt b1 #[.int .i64 i.kind, .int .i64 i.n, .int .i64 i.cap, .slice ax3 i.wt.length cx3, .slice ax4 i.vl.length cx4, .slice ax5 i.cost.length cx5] 25] _ := hM.call hn; clear hn
    refine ⟨.slice ka50 ((((i.cost.getD k [])).take 70).length) kc51, rfl, (((((hM.drop 5).drop 4).drop 3).drop 2).drop 0), fun a hA => ?_⟩
    refine D.buildSl (cells := #[.slice ka50 ((((i.cost.getD k [])).take 70).length) kc51]) hA hM rfl Try.underlying23 info22 rfl rfl rfl rfl (by kernel_rfl) rfl ?_; clear hA hM a; intro b52 w31 hb53 hM; refine ⟨(fun hM => (((((hM.drop 5).drop 4).drop 3).drop 2).drop 0)) hM.tail, fun a hA => ?_⟩
    replace hM : Mem _ _ [pt b52 #[.slice ka50 ((((i.cost.getD k [])).take 70).length) kc51] 22, own 3 1 (.slice ka50 (((((i.cost.getD k [])).take 70)).length) kc51) (((((i.cost.getD k [])).take 70)).length) (((((i.cost.getD k [])).take 70)).map (Value.int .i64)), pt b39 #[.int .i64 i.kind, .int .i64 i.n, .int .i64 i.cap, .slice ka41 ((i.wt.take 70).length) kc42, .slice ka43 ((i.vl.take 70).length) kc44, .slice ao rs.length co] 25, own 3 1 (.slice ka41 (((i.wt.take 70)).length) kc42) (((i.wt.take 70)).length) (((i.wt.take 70)).map (Value.int .i64)), own 3 1 (.slice ka43 (((i.vl.take 70)).length) kc44) (((i.vl.take 70)).length) (((i.vl.take 70)).map (Value.int .i64)), own 22 1 (.slice ao rs.length co) rs.length ((rs.map orV)), bundle (rs.map (orC 3)), pt b3 cz0 25, pt b1 #[.int .i64 i.kind, .int .i64 i.n, .int .i64 i.cap, .slice ax3 i.wt.length cx3, .slice ax4 i.vl.length cx4, .slice ax5 i.cost.length cx5] 25] _ := hM
    refine D.append (k := 5) (k2 := 0) hA hM rfl rfl rfl Try.underlying23 info22 rfl rfl rfl rfl rfl rfl rfl rfl rfl (by first | (rw [take_min70, List.length_take]; unfold maxLen; omega) | (rw [take_min70, List.length_take]; show (0 + _) * 8 ≤ (140737488355328 : Nat); omega) | omega | (show (_ + 1) * 24 ≤ (140737488355328 : Nat); omega) | (unfold maxLen; omega)) (by first | (rw [take_min70, List.length_take]; unfold maxLen; omega) | (rw [take_min70, List.length_take]; show (0 + _) * 8 ≤ (140737488355328 : Nat); omega) | omega | (show (_ + 1) * 24 ≤ (140737488355328 : Nat); omega) | (unfold maxLen; omega)) rfl ?_; clear hA hM a; intro a54 c55 w32 hM
    replace hM : Mem _ _ [pt b52 #[.slice ka50 ((((i.cost.getD k [])).take 70).length) kc51] 22, own 3 1 (.slice ka50 (((((i.cost.getD k [])).take 70)).length) kc51) (((((i.cost.getD k [])).take 70)).length) (((((i.cost.getD k [])).take 70)).map (Value.int .i64)), pt b39 #[.int .i64 i.kind, .int .i64 i.n, .int .i64 i.cap, .slice ka41 ((i.wt.take 70).length) kc42, .slice ka43 ((i.vl.take 70).length) kc44, .slice ao rs.length co] 25, own 3 1 (.slice ka41 (((i.wt.take 70)).length) kc42) (((i.wt.take 70)).length) (((i.wt.take 70)).map (Value.int .i64)), own 3 1 (.slice ka43 (((i.vl.take 70)).length) kc44) (((i.vl.take 70)).length) (((i.vl.take 70)).map (Value.int .i64)), own 22 1 (.slice a54 (rs.length + 1) c55) (rs.length + 1) (((rs.map orV) ++ [.slice ka50 ((((i.cost.getD k [])).take 70).length) kc51])), bundle (rs.map (orC 3)), pt b3 cz0 25, pt b1 #[.int .i64 i.kind, .int .i64 i.n, .int .i64 i.cap, .slice ax3 i.wt.length cx3, .slice ax4 i.vl.length cx4, .slice ax5 i.cost.length cx5] 25] _ := hM
    replace hM := hM.drop 0
    replace hM : Mem _ _ [own 3 1 (.slice ka50 (((((i.cost.getD k [])).take 70)).length) kc51) (((((i.cost.getD k [])).take 70)).length) (((((i.cost.getD k [])).take 70)).map (Value.int .i64)), pt b39 #[.int .i64 i.kind, .int .i64 i.n, .int .i64 i.cap, .slice ka41 ((i.wt.take 70).length) kc42, .slice ka43 ((i.vl.take 70).length) kc44, .slice ao rs.length co] 25, own 3 1 (.slice ka41 (((i.wt.take 70)).length) kc42) (((i.wt.take 70)).length) (((i.wt.take 70)).map (Value.int .i64)), own 3 1 (.slice ka43 (((i.vl.take 70)).length) kc44) (((i.vl.take 70)).length) (((i.vl.take 70)).map (Value.int .i64)), own 22 1 (.slice a54 (rs.length + 1) c55) (rs.length + 1) (((rs.map orV) ++ [.slice ka50 ((((i.cost.getD k [])).take 70).length) kc51])), bundle (rs.map (orC 3)), pt b3 cz0 25, pt b1 #[.int .i64 i.kind, .int .i64 i.n, .int .i64 i.cap, .slice ax3 i.wt.length cx3, .slice ax4 i.vl.length cx4, .slice ax5 i.cost.length cx5] 25] _ := hM
    refine ⟨(((((hM.drop 5).drop 4).drop 3).drop 2).drop 0), fun a hA => ?_⟩
    refine D.valF hA rfl (fun _ => R.fieldAddr (q := 5) fi25_5 rfl rfl rfl) rfl ?_; clear hA a; intro a hA
    refine D.store (k := 1) hA hM rfl sz23 rfl rfl rfl rfl rfl ?_; clear hM
    intro w33 hM; refine ⟨fun _ hne => absurd rfl hne, ?_⟩
    replace hM : Mem _ _ [own 3 1 (.slice ka50 (((((i.cost.getD k [])).take 70)).length) kc51) (((((i.cost.getD k [])).take 70)).length) (((((i.cost.getD k [])).take 70)).map (Value.int .i64)), pt b39 #[.int .i64 i.kind, .int .i64 i.n, .int .i64 i.cap, .slice ka41 ((i.wt.take 70).length) kc42, .slice ka43 ((i.vl.take 70).length) kc44, .slice a54 (rs.length + 1) c55] 25, own 3 1 (.slice ka41 (((i.wt.take 70)).length) kc42) (((i.wt.take 70)).length) (((i.wt.take 70)).map (Value.int .i64)), own 3 1 (.slice ka43 (((i.vl.take 70)).length) kc44) (((i.vl.take 70)).length) (((i.vl.take 70)).map (Value.int .i64)), own 22 1 (.slice a54 (rs.length + 1) c55) (rs.length + 1) (((rs.map orV) ++ [.slice ka50 ((((i.cost.getD k [])).take 70).length) kc51])), bundle (rs.map (orC 3)), pt b3 cz0 25, pt b1 #[.int .i64 i.kind, .int .i64 i.n, .int .i64 i.cap, .slice ax3 i.wt.length cx3, .slice ax4 i.vl.length cx4, .slice ax5 i.cost.length cx5] 25] _ := hM
    refine D.done ?_
    replace hA : St 41 [(1, _), (2, _), (3, _), (4, _)] a := hA.sub ((.cons rfl (.cons rfl (.cons rfl (.cons rfl .nil)))))
    refine Ends.inBlock (Ends.region ?_)
    refine S.val hA (R.move rfl) rfl ?_; clear hA a; intro a hA
    refine S.val hA (R.addI rfl rfl (r := ((k : Int)) + 1) rfl (by omega)) rfl ?_; clear hA a; intro a hA
    refine S.val hA (R.assign rfl) rfl ?_; clear hA a; intro a hA
    refine S.done ?_
    rw [show (Value.slice ka50 ((((i.cost.getD k [])).take 70)).length kc51) = orV (⟨(((i.cost.getD k [])).take 70), ka50, kc51⟩ : OwR) from rfl, orV_snoc', len_snoc' rs (⟨(((i.cost.getD k [])).take 70), ka50, kc51⟩ : OwR)] at hM
    replace hM := hM.front (k := 5) rfl
    replace hM := hM.front (k := 1) rfl
    replace hM := (hM.ownOrC).bundleSnoc
    replace hM := hM.front (k := 6) rfl
    replace hM := hM.front (k := 6) rfl
    replace hM := hM.front (k := 2) rfl
    replace hM := hM.front (k := 6) rfl
    replace hM := hM.front (k := 6) rfl
    replace hM := hM.front (k := 6) rfl
    replace hM := hM.front (k := 6) rfl
    replace hM := hM.firstN 7
    exact hNext ((k + 1, a54, c55, rs ++ [(⟨(((i.cost.getD k [])).take 70), ka50, kc51⟩ : OwR)])) _ _ ((by show 30 - (k + 1) < 30 - k; omega)) ⟨hA.sub ((.cons rfl (.cons rfl (.cons rfl (.cons rfl .nil))))), hM, (by omega), (by rw [List.map_append, hY, takeR_snoc (show k < i.cost.length by omega)]; rfl)⟩
   ·
    have hlr : (i.cost.take 30).map (fun r => r.take 70) = (i.cost.take k).map (fun r => r.take 70) := by
     by_cases h9 : k = 30
     · rw [h9]
     · rw [List.take_of_length_le (show i.cost.length ≤ 30 by omega), List.take_of_length_le (show i.cost.length ≤ k by omega)]
    refine Ends.exit rfl ?_
    refine Ends.seq (Ends.region ?_)
    refine S.val hA (R.loadA sz25 rfl (hM.range (k := 0) rfl) rfl) rfl ?_; clear hA a; intro a hA
    refine S.storeA (k := 5) hA hM sz25 rfl rfl rfl rfl rfl rfl ?_; clear hM
    intro w34 hM
    replace hM : Mem _ _ [pt b39 #[.int .i64 i.kind, .int .i64 i.n, .int .i64 i.cap, .slice ka41 ((i.wt.take 70).length) kc42, .slice ka43 ((i.vl.take 70).length) kc44, .slice ao rs.length co] 25, own 3 1 (.slice ka41 (((i.wt.take 70)).length) kc42) (((i.wt.take 70)).length) (((i.wt.take 70)).map (Value.int .i64)), own 3 1 (.slice ka43 (((i.vl.take 70)).length) kc44) (((i.vl.take 70)).length) (((i.vl.take 70)).map (Value.int .i64)), own 22 1 (.slice ao rs.length co) rs.length ((rs.map orV)), bundle (rs.map (orC 3)), pt b3 #[.int .i64 i.kind, .int .i64 i.n, .int .i64 i.cap, .slice ka41 ((i.wt.take 70).length) kc42, .slice ka43 ((i.vl.take 70).length) kc44, .slice ao rs.length co] 25, pt b1 #[.int .i64 i.kind, .int .i64 i.n, .int .i64 i.cap, .slice ax3 i.wt.length cx3, .slice ax4 i.vl.length cx4, .slice ax5 i.cost.length cx5] 25] _ := hM
    refine S.done ?_
    replace hA : St 41 [(2, _)] a := hA.sub ((.cons rfl .nil))
    refine Ends.retC (k := 5) Try.func13 Try.results13 hA hM rfl rfl sz25 rfl ?_
    replace hM := hM.front (k := 4) rfl
    replace hM := hM.front (k := 4) rfl
    replace hM := hM.front (k := 4) rfl
    replace hM := hM.front (k := 4) rfl
    replace hM := hM.firstN 4
    exact ⟨ka41, kc42, ka43, kc44, ao, co, rs, rfl, by rw [hY, ← hlr]; rfl, Mem.pack (cs := insL 3 22 (cutI i) ka41 kc42 ka43 kc44 ao co rs) (L := []) hM⟩
  ·
   refine Ends.region ?_
   refine S.val hA (R.move rfl) rfl ?_; clear hA a; intro a hA
   refine S.val hA (R.fieldAddr (q := 5) fi25_5 rfl rfl rfl) rfl ?_; clear hA a; intro a hA
   refine S.val hA (R.load sz23 rfl (hM.cell (k := 6) rfl rfl)) rfl ?_; clear hA a; intro a hA
   refine S.val hA (R.lenS Try.underlying23 rfl rfl) rfl ?_; clear hA a; intro a hA
   refine S.val hA (R.lss rfl rfl) rfl ?_; clear hA a; intro a hA
   refine S.val hA (R.move rfl) rfl ?_; clear hA a; intro a hA
   refine hA.split (d := 23) rfl ?_ ?_
   ·
    clear hA; intro hg56 hA
    refine S.valg (dj := 23) hA (by kernel_rfl) rfl (R.move rfl) rfl ?_; clear hA a; intro a hA
    refine S.valg (dj := 23) hA (by kernel_rfl) rfl (R.lss rfl rfl) rfl ?_; clear hA a; intro a hA
    refine S.val hA (R.pickT rfl rfl) rfl ?_; clear hA a; intro a hA
    refine S.done ?_
    replace hA : St 41 [(1, _), (2, _), (3, _), (4, _), (26, _)] a := hA.sub ((.cons rfl (.cons rfl (.cons rfl (.cons rfl (.cons rfl .nil))))))
    exact hJ _ _ ⟨hA.sub (.cons rfl (.cons rfl (.cons rfl (.cons rfl (.cons (by first | rfl | exact congrArg (fun b => some (Value.bool b)) (by first | exact decide_eq_decide.2 (by omega) | exact or_bool (by omega) | exact and_bool (by omega) | (simp; done) | (simp [hg56]; done) | (have h80 := hg56; (try simp at h80); simp [h80]; done) | exact (decide_eq_false (fun h9 => hg56 h9.1)).symm)) .nil))))), hM⟩
   ·
    clear hA; intro hg56 hA
    refine S.no (dj := 23) hA (by kernel_rfl) rfl rfl rfl ?_; clear hA a; intro a hA
    refine S.no (dj := 23) hA (by kernel_rfl) rfl rfl rfl ?_; clear hA a; intro a hA
    refine S.val hA (R.pickF rfl rfl) rfl ?_; clear hA a; intro a hA
    refine S.done ?_
    replace hA : St 41 [(1, _), (2, _), (3, _), (4, _), (26, _)] a := hA.sub ((.cons rfl (.cons rfl (.cons rfl (.cons rfl (.cons rfl .nil))))))
    exact hJ _ _ ⟨hA.sub (.cons rfl (.cons rfl (.cons rfl (.cons rfl (.cons (by first | rfl | exact congrArg (fun b => some (Value.bool b)) (by first | exact decide_eq_decide.2 (by omega) | exact or_bool (by omega) | exact and_bool (by omega) | (simp; done) | (simp [hg56]; done) | (have h80 := hg56; (try simp at h80); simp [h80]; done) | exact (decide_eq_false (fun h9 => hg56 h9.1)).symm)) .nil))))), hM⟩
theorem copyG (i : Ins) (ax3 : Option Addr) (cx3 : Nat) (ax4 : Option Addr) (cx4 : Nat) (ax5 : Option Addr) (cx5 : Nat) (G : Ins) (hG : G = cutI i) (w : World) (hx3 : IntSl w (.slice ax3 i.wt.length cx3) i.wt) (hx4 : IntSl w (.slice ax4 i.vl.length cx4) i.vl) (hx5 : RowsV w (.slice ax5 i.cost.length cx5) i.cost) : Calls Try.prog 13 #[.agg #[.int .i64 i.kind, .int .i64 i.n, .int .i64 i.cap, .slice ax3 i.wt.length cx3, .slice ax4 i.vl.length cx4, .slice ax5 i.cost.length cx5]] w fun e w' => ∃ aw cw av cv ac cc rs, e = .returned (insA G aw cw av cv ac cc rs) ∧ rs.map (·.Y) = G.cost ∧ Mem w nof [bundle (insL 3 22 G aw cw av cv ac cc rs)] w' := by
  subst hG; exact copy05_own i ax3 cx3 ax4 cx4 ax5 cx5 w hx3 hx4 hx5
theorem chk_inF {i : Ins} (h : chk i = 0) : InF i := by
  unfold chk at h
  split at h
  · rename_i q; exact absurd h q
  · rename_i q
    split at h
    · rename_i q2; exact inF_of (Decidable.not_not.1 q) q2 h
    · cases h
end Go.Proofs.Ytnikajkklocncaa
namespace Go.Proofs.Ytnikajkklocncaa
open Go.RowKit
theorem Mem.eqM {w0 w : World} {F : Nat → Prop} {L L2 : List Ck} (h : Mem w0 F L w) (he : L = L2) : Mem w0 F L2 w := he ▸ h
theorem lo_nil (x : List Int) : loW (memF (x.take 0)) = 0 := by unfold loW; rw [wdB_none (fun b _ => by simp [memF])]; rfl
theorem hi_nil (x : List Int) : hiW (memF (x.take 0)) = 0 := by unfold hiW; rw [wdB_none (f := fun b => memF (x.take 0) (64 + b)) (fun b _ => by simp [memF])]; rfl
theorem full_w {n : Nat} (h : n < 64) : IntKind.u64.wrap (IntKind.u64.wrap (1 * 2 ^ min n IntKind.u64.bits) - 1) = loW (lessF n) := by
  rw [u64_pow h, full_lo h, IntKind.wrap_u64]
  have h2 : 2 ^ n < 2 ^ 64 := Nat.pow_lt_pow_right (by decide) h
  have h3 : 0 < 2 ^ n := Nat.pow_pos (by decide)
  generalize 2 ^ n = p at h2 h3
  omega
theorem eq_set (a b c d : Int) (w : World) : (Op.equalIn 10000 63 (.agg #[.int .u64 a, .int .u64 b]) (.agg #[.int .u64 c, .int .u64 d])).run Try.prog w = .ok (decide (a = c ∧ b = d)) w := by
  have u3 := Try.underlying45
  have q3 := Try.isAgg45
  have z3 := Try.sizeOf45
  rw [show (10000 : Nat) = 9999 + 1 from rfl, run_equalIn_array (P := Try.prog) w 9999 _ _ Try.underlying63 info45]
  rw [show List.range 2 = [0, 1] from rfl, show Try.prog.cellsOf 45 = 1 by kernel_rfl]
  simp only [Op.eqItems]
  by_cases h1 : a = c
  · by_cases h2 : b = d
    · subst h1; subst h2; go_simp
    · subst h1; go_simp
  · go_simp
def costI (i : Ins) (x : List Int) : Int × Int := if chk i ≠ 0 then (0, chk i) else if i.kind = 1 then knpI i x else if ¬ ordP i x then (0, 1) else (sumF (stp i x) i.n.toNat, 0)
theorem inF_len {i : Ins} (h : InF i) : i.wt.length ≤ 64 ∧ i.vl.length ≤ 64 ∧ i.cost.length ≤ 64 := by
  have h1 := h.wt
  have h2 := h.vl
  have h3 := h.cost
  have h4 := h.n64
  refine ⟨?_, ?_, ?_⟩
  · rw [h1]; split <;> omega
  · rw [h2]; split <;> omega
  · rw [h3]; split <;> omega
theorem wtF_bd {i : Ins} (h : InF i) (x : List Int) (k : Nat) (hk : k ≤ 64) : 0 ≤ sumF (wtF i x) k ∧ sumF (wtF i x) k ≤ 64 * 2147483647 := by
  have h1 := sumF_bd (f := wtF i x) (B := 2147483647) (by decide) (k := k) (fun q _ => by unfold wtF; have := h.wtr q; split <;> omega)
  omega
theorem vlF_bd {i : Ins} (h : InF i) (x : List Int) (k : Nat) (hk : k ≤ 64) : 0 ≤ sumF (vlF i x) k ∧ sumF (vlF i x) k ≤ 64 * 2147483647 := by
  have h1 := sumF_bd (f := vlF i x) (B := 2147483647) (by decide) (k := k) (fun q _ => by unfold vlF; have := h.vlr q; split <;> omega)
  omega
theorem cl2_bd {i : Ins} (h : InF i) (r c : Int) : 0 ≤ cl2 i r c ∧ cl2 i r c ≤ 2147483647 := h.cell _ _
theorem stp_bd {i : Ins} (h : InF i) (x : List Int) (k : Nat) (hk : k ≤ 64) : 0 ≤ sumF (stp i x) k ∧ sumF (stp i x) k ≤ 64 * 2147483647 := by
  have h1 := sumF_bd (f := stp i x) (B := 2147483647) (by decide) (k := k) (fun q _ => by unfold stp; split <;> exact cl2_bd h _ _)
  omega
theorem knp_bd {i : Ins} (h : InF i) (x : List Int) : 0 ≤ (knpI i x).1 ∧ (knpI i x).1 ≤ 64 * 2147483647 := by
  have h1 := h.n64
  unfold knpI
  split
  · simp
  · split
    · simp
    · split
      · simp
      · exact vlF_bd h x _ (by omega)
theorem cost_bd (i : Ins) (x : List Int) : 0 ≤ (costI i x).1 ∧ (costI i x).1 ≤ 64 * 2147483647 := by
  unfold costI
  split
  · simp
  · rename_i h
    have hF := chk_inF (Decidable.not_not.1 h)
    have h1 := hF.n64
    split
    · exact knp_bd hF x
    · split
      · simp
      · exact stp_bd hF x _ (by omega)
theorem take_all {X : List Int} {k : Nat} (h : k = X.length) : X.take k = X := by subst h; exact List.take_length
set_option maxRecDepth 100000 in
set_option maxHeartbeats 400000 in
theorem within02 (i : Int) (w : World) :
  Calls Try.prog 75 #[.int .i64 i] w fun e w' => e = .returned (.bool (decide (0 ≤ i ∧ i < 128))) ∧ Below w.heap.size w w' := by
 have hbs := Below.refl (B := w.heap.size) w
 have hM := Mem.start w
 refine Calls.of_ends (vs := [.int .i64 i]) Try.func75 rfl Try.ntmps75 rfl ?_
 intro a hA
 replace hA : St 9 [(0, _)] a := hA
 refine Ends.seq (Ends.region ?_)
 refine S.val hA (R.assign rfl) rfl ?_; clear hA a; intro a hA
 refine S.done ?_
 refine Ends.seq ?_
 refine Ends.cut (fun (a : Act) (wv : World) => St 9 [(2, .bool (decide ((0 ≤ i ∧ i < 128))))] a ∧ Mem w nof [] wv) ?_ (fun k2 hJ => ?_)
 ·
  clear hA hM a; rintro a w1 ⟨hA, hM⟩
  refine Ends.ret1 Try.func75 Try.results75 hA rfl ?_
  exact ⟨congrArg (fun b => Ending.returned (.bool b)) (decide_eq_decide.2 (by omega)), Mem.trans0 hbs hM.nilL⟩
 ·
  refine Ends.region ?_
  refine S.val hA (R.move rfl) rfl ?_; clear hA a; intro a hA
  refine S.val hA (R.geq rfl rfl) rfl ?_; clear hA a; intro a hA
  refine S.val hA (R.move rfl) rfl ?_; clear hA a; intro a hA
  refine hA.split (d := 5) rfl ?_ ?_
  ·
   clear hA; intro hg1 hA
   refine S.valg (dj := 5) hA (by kernel_rfl) rfl (R.move rfl) rfl ?_; clear hA a; intro a hA
   refine S.valg (dj := 5) hA (by kernel_rfl) rfl (R.lss rfl rfl) rfl ?_; clear hA a; intro a hA
   refine S.val hA (R.pickT rfl rfl) rfl ?_; clear hA a; intro a hA
   refine S.val hA (R.assign rfl) rfl ?_; clear hA a; intro a hA
   refine S.done ?_
   replace hA : St 9 [(2, _)] a := hA.sub ((.cons rfl .nil))
   exact hJ _ _ ⟨hA.sub (.cons (by first | rfl | exact congrArg (fun b => some (Value.bool b)) (by first | exact decide_eq_decide.2 (by omega) | exact or_bool (by omega) | exact and_bool (by omega) | (simp; done) | (simp [hg1]; done) | (have h80 := hg1; (try simp at h80); simp [h80]; done) | exact (decide_eq_false (fun h9 => hg1 h9.1)).symm)) .nil), hM⟩
  ·
   clear hA; intro hg1 hA
   refine S.no (dj := 5) hA (by kernel_rfl) rfl rfl rfl ?_; clear hA a; intro a hA
   refine S.no (dj := 5) hA (by kernel_rfl) rfl rfl rfl ?_; clear hA a; intro a hA
   refine S.val hA (R.pickF rfl rfl) rfl ?_; clear hA a; intro a hA
   refine S.val hA (R.assign rfl) rfl ?_; clear hA a; intro a hA
   refine S.done ?_
   replace hA : St 9 [(2, _)] a := hA.sub ((.cons rfl .nil))
   exact hJ _ _ ⟨hA.sub (.cons (by first | rfl | exact congrArg (fun b => some (Value.bool b)) (by first | exact decide_eq_decide.2 (by omega) | exact or_bool (by omega) | exact and_bool (by omega) | (simp; done) | (simp [hg1]; done) | (have h80 := hg1; (try simp at h80); simp [h80]; done) | exact (decide_eq_false (fun h9 => hg1 h9.1)).symm)) .nil), hM⟩
set_option maxRecDepth 100000 in
set_option maxHeartbeats 400000 in
theorem with02 (f : Nat → Bool) (i : Int) (w : World) :
  Calls Try.prog 70 #[.agg #[.int .u64 (loW f), .int .u64 (hiW f)], .int .i64 i] w fun e w' => e = .returned (.agg #[.int .u64 (loW (adF1 f i)), .int .u64 (hiW (adF1 f i))]) ∧ Below w.heap.size w w' := by
 have hbs := Below.refl (B := w.heap.size) w
 have hM := Mem.start w
 refine Calls.of_ends (vs := [.agg #[.int .u64 (loW f), .int .u64 (hiW f)], .int .i64 i]) Try.func70 rfl Try.ntmps70 rfl ?_
 intro a hA
 replace hA : St 17 [(0, _), (1, _)] a := hA
 refine Ends.seq (Ends.region ?_)
 refine S.box hA hM rfl rfl ?_; clear hA hM a; intro b1 w1 hb2 hM a hA
 replace hM : Mem _ _ [pt b1 #[.int .u64 (loW f), .int .u64 (hiW f)] 63] _ := hM
 refine S.alloc hA hM info63 rfl rfl ?_; clear hA hM a; intro b3 w2 hb4 hM a hA
 replace hM : Mem _ _ [pt b3 #[.int .u64 0, .int .u64 0] 63, pt b1 #[.int .u64 (loW f), .int .u64 (hiW f)] 63] _ := hM
 refine S.done ?_
 refine Ends.seq (Ends.seq (Ends.region ?_))
 refine S.val hA (R.move rfl) rfl ?_; clear hA a; intro a hA
 refine S.call hA (R.callF Try.func75 rfl rfl rfl) rfl (within02 i _) ?_; clear hA a
 rintro e w3 ⟨rfl, hb⟩
 replace hM := hM.callB hb; clear hb
 refine ⟨.bool (decide (0 ≤ i ∧ i < 128)), rfl, fun a hA => ?_⟩
 refine S.done ?_
 refine Ends.ite hA rfl (fun hc5 => ?_) (fun hc5 => ?_)
 ·
  have hin := hc5
  by_cases hs6 : i < 64
  ·
   obtain ⟨m, hm, hmi⟩ : ∃ m : Nat, m < 64 ∧ i = (m : Int) := ⟨i.toNat, by omega, by omega⟩
   have e9 : (i % 64).toNat = m := by omega
   refine Ends.drawn (Mem w nof [pt b3 #[.int .u64 0, .int .u64 0] 63, pt b1 #[.int .u64 (loW f), .int .u64 (hiW f)] 63]) (.cons (0, true) (.cons (1, true) (.cons (2, true) (.cons (3, true) (.cons (4, true) (.cons (5, true) (.cons (6, true) (.cons (7, true) (.cons (8, true) (.cons (9, false) .nil)))))))))) 9 mixed (by kernel_rfl) (by kernel_rfl) (by kernel_rfl) hM.drew ?_
   replace hM := hM.drew
   refine D.valF hA rfl (fun _ => R.move rfl) rfl ?_; clear hA a; intro a hA
   refine D.valF hA rfl (fun _ => R.quoI rfl rfl rfl (by omega)) rfl ?_; clear hA a; intro a hA
   refine D.valF hA rfl (fun _ => R.indexAddrA (q := 0) ar63 rfl rfl (by omega) (by omega)) rfl ?_; clear hA a; intro a hA
   refine D.val hA rfl (by kernel_rfl) (fun _ hM => R.load sz45 rfl (hM.cell (k := 1) rfl rfl)) rfl ?_; clear hA a; intro a hA
   refine D.valF hA rfl (fun _ => R.move rfl) rfl ?_; clear hA a; intro a hA
   refine D.valF hA rfl (fun _ => R.remI rfl rfl rfl (by omega)) rfl ?_; clear hA a; intro a hA
   refine D.valF hA rfl (fun _ => R.shl rfl rfl (by omega)) rfl ?_; clear hA a; intro a hA
   refine D.valF hA rfl (fun _ => R.bits (by simp) rfl rfl) rfl ?_; clear hA a; intro a hA
   refine D.valF hA rfl (fun _ => R.indexAddrA (q := 0) ar63 rfl rfl (by omega) (by omega)) rfl ?_; clear hA a; intro a hA
   refine D.store (k := 1) hA hM rfl sz45 rfl rfl rfl rfl rfl ?_; clear hM
   intro w4 hM; refine ⟨fun _ hne => absurd rfl hne, ?_⟩
   replace hM : Mem _ _ [pt b3 #[.int .u64 0, .int .u64 0] 63, pt b1 #[.int .u64 (bits .or .u64 (loW f) (IntKind.u64.wrap (1 * 2 ^ min (i % 64).toNat (IntKind.u64).bits))), .int .u64 (hiW f)] 63] _ := hM
   refine D.done ?_
   obtain ⟨g1, g2⟩ := add_lo (f := f) hm
   rw [← hmi] at g1 g2
   rw [e9, g1, ← g2] at hM
   replace hM : Mem _ _ [pt b3 #[.int .u64 0, .int .u64 0] 63, pt b1 #[.int .u64 (loW (adF1 f i)), .int .u64 (hiW (adF1 f i))] 63] _ := hM
   replace hA : St 17 [(2, _), (4, _)] a := hA.sub ((.cons rfl (.cons rfl .nil)))
   refine Ends.seq (Ends.region ?_)
   refine S.val hA (R.loadA sz63 rfl (hM.range (k := 1) rfl) rfl) rfl ?_; clear hA a; intro a hA
   refine S.storeA (k := 0) hA hM sz63 rfl rfl rfl rfl rfl rfl ?_; clear hM
   intro w5 hM
   replace hM : Mem _ _ [pt b3 #[.int .u64 (loW (adF1 f i)), .int .u64 (hiW (adF1 f i))] 63, pt b1 #[.int .u64 (loW (adF1 f i)), .int .u64 (hiW (adF1 f i))] 63] _ := hM
   refine S.done ?_
   refine Ends.retC (k := 0) Try.func70 Try.results70 hA hM rfl rfl sz63 rfl ?_
   exact ⟨rfl, Mem.trans0 hbs hM.nilL⟩
  ·
   obtain ⟨m, hm, hmi⟩ : ∃ m : Nat, m < 64 ∧ i = ((64 + m : Nat) : Int) := ⟨(i - 64).toNat, by omega, by omega⟩
   have e9 : (i % 64).toNat = m := by omega
   refine Ends.drawn (Mem w nof [pt b3 #[.int .u64 0, .int .u64 0] 63, pt b1 #[.int .u64 (loW f), .int .u64 (hiW f)] 63]) (.cons (0, true) (.cons (1, true) (.cons (2, true) (.cons (3, true) (.cons (4, true) (.cons (5, true) (.cons (6, true) (.cons (7, true) (.cons (8, true) (.cons (9, false) .nil)))))))))) 9 mixed (by kernel_rfl) (by kernel_rfl) (by kernel_rfl) hM.drew ?_
   replace hM := hM.drew
   refine D.valF hA rfl (fun _ => R.move rfl) rfl ?_; clear hA a; intro a hA
   refine D.valF hA rfl (fun _ => R.quoI rfl rfl rfl (by omega)) rfl ?_; clear hA a; intro a hA
   refine D.valF hA rfl (fun _ => R.indexAddrA (q := 1) ar63 rfl rfl (by omega) (by omega)) rfl ?_; clear hA a; intro a hA
   refine D.val hA rfl (by kernel_rfl) (fun _ hM => R.load sz45 rfl (hM.cell (k := 1) rfl rfl)) rfl ?_; clear hA a; intro a hA
   refine D.valF hA rfl (fun _ => R.move rfl) rfl ?_; clear hA a; intro a hA
   refine D.valF hA rfl (fun _ => R.remI rfl rfl rfl (by omega)) rfl ?_; clear hA a; intro a hA
   refine D.valF hA rfl (fun _ => R.shl rfl rfl (by omega)) rfl ?_; clear hA a; intro a hA
   refine D.valF hA rfl (fun _ => R.bits (by simp) rfl rfl) rfl ?_; clear hA a; intro a hA
   refine D.valF hA rfl (fun _ => R.indexAddrA (q := 1) ar63 rfl rfl (by omega) (by omega)) rfl ?_; clear hA a; intro a hA
   refine D.store (k := 1) hA hM rfl sz45 rfl rfl rfl rfl rfl ?_; clear hM
   intro w6 hM; refine ⟨fun _ hne => absurd rfl hne, ?_⟩
   replace hM : Mem _ _ [pt b3 #[.int .u64 0, .int .u64 0] 63, pt b1 #[.int .u64 (loW f), .int .u64 (bits .or .u64 (hiW f) (IntKind.u64.wrap (1 * 2 ^ min (i % 64).toNat (IntKind.u64).bits)))] 63] _ := hM
   refine D.done ?_
   obtain ⟨g1, g2⟩ := add_hi (f := f) hm
   rw [← hmi] at g1 g2
   rw [e9, g1, ← g2] at hM
   replace hM : Mem _ _ [pt b3 #[.int .u64 0, .int .u64 0] 63, pt b1 #[.int .u64 (loW (adF1 f i)), .int .u64 (hiW (adF1 f i))] 63] _ := hM
   replace hA : St 17 [(2, _), (4, _)] a := hA.sub ((.cons rfl (.cons rfl .nil)))
   refine Ends.seq (Ends.region ?_)
   refine S.val hA (R.loadA sz63 rfl (hM.range (k := 1) rfl) rfl) rfl ?_; clear hA a; intro a hA
   refine S.storeA (k := 0) hA hM sz63 rfl rfl rfl rfl rfl rfl ?_; clear hM
   intro w7 hM
   replace hM : Mem _ _ [pt b3 #[.int .u64 (loW (adF1 f i)), .int .u64 (hiW (adF1 f i))] 63, pt b1 #[.int .u64 (loW (adF1 f i)), .int .u64 (hiW (adF1 f i))] 63] _ := hM
   refine S.done ?_
   refine Ends.retC (k := 0) Try.func70 Try.results70 hA hM rfl rfl sz63 rfl ?_
   exact ⟨rfl, Mem.trans0 hbs hM.nilL⟩
 ·
  refine Ends.skip (Ends.seq (Ends.region ?_))
  refine S.val hA (R.loadA sz63 rfl (hM.range (k := 1) rfl) rfl) rfl ?_; clear hA a; intro a hA
  refine S.storeA (k := 0) hA hM sz63 rfl rfl rfl rfl rfl rfl ?_; clear hM
  intro w8 hM
  replace hM : Mem _ _ [pt b3 #[.int .u64 (loW f), .int .u64 (hiW f)] 63, pt b1 #[.int .u64 (loW f), .int .u64 (hiW f)] 63] _ := hM
  refine S.done ?_
  replace hA : St 17 [(4, _)] a := hA.sub ((.cons rfl .nil))
  refine Ends.retC (k := 0) Try.func70 Try.results70 hA hM rfl rfl sz63 rfl ?_
  obtain ⟨g1, g2⟩ := add_out (f := f) hc5
  exact ⟨by rw [g1, g2], Mem.trans0 hbs hM.nilL⟩
set_option maxRecDepth 100000 in
set_option maxHeartbeats 400000 in
theorem of02 (ay : Option Addr) (x : List Int) (cy : Nat) (w : World) (hy : IntSl w (.slice ay x.length cy) x) :
  Calls Try.prog 60 #[.slice ay x.length cy] w fun e w' => e = .returned (.agg #[.int .u64 (loW (memF x)), .int .u64 (hiW (memF x))]) ∧ Below w.heap.size w w' := by
 have hbs := Below.refl (B := w.heap.size) w
 have hlx := hy.lenB
 have hM := Mem.start w
 refine Calls.of_ends (vs := [.slice ay x.length cy]) Try.func60 rfl Try.ntmps60 rfl ?_
 intro a hA
 replace hA : St 17 [(0, _)] a := hA
 refine Ends.seq (Ends.region ?_)
 refine S.alloc hA hM info63 rfl rfl ?_; clear hA hM a; intro b1 w1 hb2 hM a hA
 replace hM : Mem _ _ [pt b1 #[.int .u64 0, .int .u64 0] 63] _ := hM
 refine S.done ?_
 refine Ends.seq (Ends.region ?_)
 refine S.alloc hA hM info63 rfl rfl ?_; clear hA hM a; intro b3 w2 hb4 hM a hA
 replace hM : Mem _ _ [pt b3 #[.int .u64 0, .int .u64 0] 63, pt b1 #[.int .u64 0, .int .u64 0] 63] _ := hM
 refine S.done ?_
 refine Ends.seq (Ends.seq (Ends.region ?_))
 refine S.val hA (R.move rfl) rfl ?_; clear hA a; intro a hA
 refine S.val hA (R.lenS Try.underlying22 rfl rfl) rfl ?_; clear hA a; intro a hA
 refine S.val hA (R.move rfl) rfl ?_; clear hA a; intro a hA
 refine S.done ?_
 refine Ends.block ?_
 replace hM := Mem.eqM (L2 := [pt b3 #[.int .u64 (loW (memF (x.take 0))), .int .u64 (hiW (memF (x.take 0)))] 63, pt b1 #[.int .u64 0, .int .u64 0] 63]) hM (by rw [lo_nil, hi_nil])
 refine Ends.loop (σ := Nat) (fun k (a : Act) (wv : World) => St 17 [(2, .pointer (some ⟨b1, 0, none⟩)), (3, .pointer (some ⟨b3, 0, none⟩)), (6, .slice ay x.length cy), (7, .int .i64 ((x.length : Int))), (8, .int .i64 ((k : Int)))] a ∧ Mem w nof [pt b3 #[.int .u64 (loW (memF (x.take k))), .int .u64 (hiW (memF (x.take k)))] 63, pt b1 #[.int .u64 0, .int .u64 0] 63] wv ∧ (k ≤ x.length)) (fun k => x.length - k) 0 ⟨hA.sub ((.cons rfl (.cons rfl (.cons rfl (.cons rfl (.cons rfl .nil)))))), hM, (Nat.zero_le _)⟩ ?_
 clear hA hM a
 rintro k a w3 ⟨hA, hM, hk⟩ hNext
 refine Ends.seq (Ends.region ?_)
 refine S.val hA (R.lss rfl rfl) rfl ?_; clear hA a; intro a hA
 refine S.done ?_
 refine Ends.seq ?_
 refine Ends.ite hA rfl (fun hc5 => ?_) (fun hc5 => ?_)
 ·
  refine Ends.skip (Ends.seq (Ends.block (Ends.seq (Ends.region ?_))))
  refine S.val hA (R.idxI hy (j := k) sl22 rfl rfl (by omega) (rfl)) rfl ?_; clear hA a; intro a hA
  refine S.val hA (R.loadI (hy.mem hM) sz3 rfl (by omega)) rfl ?_; clear hA a; intro a hA
  refine S.val hA (R.assign rfl) rfl ?_; clear hA a; intro a hA
  refine S.done ?_
  refine Ends.region ?_
  refine S.val hA (R.loadA sz63 rfl (hM.range (k := 0) rfl) rfl) rfl ?_; clear hA a; intro a hA
  refine S.val hA (R.move rfl) rfl ?_; clear hA a; intro a hA
  refine S.call hA (R.callF Try.func70 rfl rfl rfl) rfl (with02 (memF (x.take k)) (x.getD k 0) _) ?_; clear hA a
  rintro e w4 ⟨rfl, hb⟩
  replace hM := hM.callB hb; clear hb
  refine ⟨.agg #[.int .u64 (loW (adF1 (memF (x.take k)) (x.getD k 0))), .int .u64 (hiW (adF1 (memF (x.take k)) (x.getD k 0)))], rfl, fun a hA => ?_⟩
  refine S.storeA (k := 0) hA hM sz63 rfl rfl rfl rfl rfl rfl ?_; clear hM
  intro w5 hM
  replace hM : Mem _ _ [pt b3 #[.int .u64 (loW (adF1 (memF (x.take k)) (x.getD k 0))), .int .u64 (hiW (adF1 (memF (x.take k)) (x.getD k 0)))] 63, pt b1 #[.int .u64 0, .int .u64 0] 63] _ := hM
  refine S.done ?_
  replace hA : St 17 [(2, _), (3, _), (6, _), (7, _), (8, _)] a := hA.sub ((.cons rfl (.cons rfl (.cons rfl (.cons rfl (.cons rfl .nil))))))
  refine Ends.inBlock (Ends.region ?_)
  refine S.val hA (R.addI rfl rfl (r := ((k : Int)) + 1) rfl (by omega)) rfl ?_; clear hA a; intro a hA
  refine S.val hA (R.move rfl) rfl ?_; clear hA a; intro a hA
  refine S.done ?_
  rw [← memF_snoc, ← take_succ_getD x k (by omega)] at hM
  exact hNext ((k + 1)) _ _ ((by show x.length - (k + 1) < x.length - k; omega)) ⟨hA.sub ((.cons rfl (.cons rfl (.cons rfl (.cons rfl (.cons rfl .nil)))))), hM, (by omega)⟩
 ·
  refine Ends.exit rfl ?_
  replace hA : St 17 [(2, _), (3, _)] a := hA.sub ((.cons rfl (.cons rfl .nil)))
  refine Ends.seq (Ends.region ?_)
  refine S.val hA (R.loadA sz63 rfl (hM.range (k := 0) rfl) rfl) rfl ?_; clear hA a; intro a hA
  refine S.storeA (k := 1) hA hM sz63 rfl rfl rfl rfl rfl rfl ?_; clear hM
  intro w6 hM
  replace hM : Mem _ _ [pt b3 #[.int .u64 (loW (memF (x.take k))), .int .u64 (hiW (memF (x.take k)))] 63, pt b1 #[.int .u64 (loW (memF (x.take k))), .int .u64 (hiW (memF (x.take k)))] 63] _ := hM
  refine S.done ?_
  refine Ends.retC (k := 1) Try.func60 Try.results60 hA hM rfl rfl sz63 rfl ?_
  exact ⟨by rw [take_all (X := x) (k := k) (by omega)], Mem.trans0 hbs hM.nilL⟩
set_option maxRecDepth 100000 in
set_option maxHeartbeats 400000 in
theorem full02 (n : Nat) (h1 : 1 ≤ n) (h24 : n ≤ 24) (w : World) :
  Calls Try.prog 61 #[.int .i64 ((n : Int))] w fun e w' => e = .returned (.agg #[.int .u64 (loW (lessF n)), .int .u64 (hiW (lessF n))]) ∧ Below w.heap.size w w' := by
 have hbs := Below.refl (B := w.heap.size) w
 have hM := Mem.start w
 refine Calls.of_ends (vs := [.int .i64 ((n : Int))]) Try.func61 rfl Try.ntmps61 rfl ?_
 intro a hA
 replace hA : St 29 [(0, _)] a := hA
 refine Ends.seq (Ends.region ?_)
 refine S.alloc hA hM info63 rfl rfl ?_; clear hA hM a; intro b1 w1 hb2 hM a hA
 replace hM : Mem _ _ [pt b1 #[.int .u64 0, .int .u64 0] 63] _ := hM
 refine S.done ?_
 refine Ends.seq (Ends.region ?_)
 refine S.alloc hA hM info63 rfl rfl ?_; clear hA hM a; intro b3 w2 hb4 hM a hA
 replace hM : Mem _ _ [pt b3 #[.int .u64 0, .int .u64 0] 63, pt b1 #[.int .u64 0, .int .u64 0] 63] _ := hM
 refine S.done ?_
 refine Ends.seq (Ends.seq (Ends.region ?_))
 refine S.val hA (R.move rfl) rfl ?_; clear hA a; intro a hA
 refine S.done ?_
 refine Ends.block ?_
 refine Ends.unroll ?_
 refine Ends.seq (Ends.region ?_)
 refine S.val hA (R.tt (R.lss rfl rfl) (by first | decide | simp | omega)) rfl ?_; clear hA a; intro a hA
 refine S.done ?_
 refine Ends.seq ?_
 refine Ends.condT hA rfl ?_
 refine Ends.skip (Ends.seq (Ends.block (Ends.seq (Ends.region ?_))))
 refine S.val hA (R.move rfl) rfl ?_; clear hA a; intro a hA
 refine S.val hA (R.assign rfl) rfl ?_; clear hA a; intro a hA
 refine S.done ?_
 refine Ends.seq (Ends.region ?_)
 refine S.val hA (R.move rfl) rfl ?_; clear hA a; intro a hA
 refine S.val hA (R.max rfl rfl) rfl ?_; clear hA a; intro a hA
 refine S.val hA (R.move rfl) rfl ?_; clear hA a; intro a hA
 refine S.val hA (R.mulI rfl rfl (r := 0) rfl (by omega)) rfl ?_; clear hA a; intro a hA
 refine S.val hA (R.subI rfl rfl (r := (max ((n : Int)) 0) - 0) rfl (by omega)) rfl ?_; clear hA a; intro a hA
 refine S.val hA (R.assign rfl) rfl ?_; clear hA a; intro a hA
 refine S.done ?_
 replace hA : St 29 [(0, _), (2, _), (3, _), (4, _), (5, _), (6, _)] a := hA.sub ((.cons rfl (.cons rfl (.cons rfl (.cons rfl (.cons rfl (.cons rfl .nil)))))))
 refine Ends.block (Ends.seq (Ends.region ?_))
 refine S.val hA (R.move rfl) rfl ?_; clear hA a; intro a hA
 refine S.val hA (R.ff (R.geq rfl rfl) (by omega)) rfl ?_; clear hA a; intro a hA
 refine S.val hA (R.assign rfl) rfl ?_; clear hA a; intro a hA
 refine S.done ?_
 refine Ends.condF hA rfl ?_
 refine Ends.seq (Ends.region ?_)
 refine S.val hA (R.move rfl) rfl ?_; clear hA a; intro a hA
 refine S.val hA (R.tt (R.gtr rfl rfl) (by omega)) rfl ?_; clear hA a; intro a hA
 refine S.val hA (R.assign rfl) rfl ?_; clear hA a; intro a hA
 refine S.done ?_
 replace hA : St 29 [(0, _), (2, _), (3, _), (4, _), (5, _), (6, _), (19, _)] a := hA.sub ((.cons rfl (.cons rfl (.cons rfl (.cons rfl (.cons rfl (.cons rfl (.cons rfl .nil))))))))
 refine Ends.condT hA rfl ?_
 refine Ends.region ?_
 refine S.val hA (R.move rfl) rfl ?_; clear hA a; intro a hA
 refine S.val hA (R.move rfl) rfl ?_; clear hA a; intro a hA
 refine S.val hA (R.shl rfl rfl (by omega)) rfl ?_; clear hA a; intro a hA
 refine S.val hA (R.sub rfl rfl) rfl ?_; clear hA a; intro a hA
 refine S.val hA (R.indexAddrA (q := 0) ar63 rfl rfl (by omega) (rfl)) rfl ?_; clear hA a; intro a hA
 refine S.store (k := 0) hA hM sz45 rfl rfl rfl rfl rfl ?_; clear hM
 intro w3 hM
 replace hM : Mem _ _ [pt b3 #[.int .u64 (IntKind.u64.wrap ((IntKind.u64.wrap (1 * 2 ^ min ((max ((n : Int)) 0) - 0).toNat (IntKind.u64).bits)) - 1)), .int .u64 0] 63, pt b1 #[.int .u64 0, .int .u64 0] 63] _ := hM
 refine S.done ?_
 replace hA : St 29 [(0, _), (2, _), (3, _), (6, _)] a := hA.sub ((.cons rfl (.cons rfl (.cons rfl (.cons rfl .nil)))))
 refine Ends.inBlock (Ends.inBlock (Ends.region ?_))
 refine S.val hA (R.addI rfl rfl (r := 1) rfl (by omega)) rfl ?_; clear hA a; intro a hA
 refine S.val hA (R.move rfl) rfl ?_; clear hA a; intro a hA
 refine S.done ?_
 refine Ends.inLoop ?_
 refine Ends.seq (Ends.region ?_)
 refine S.val hA (R.tt (R.lss rfl rfl) (by first | decide | simp | omega)) rfl ?_; clear hA a; intro a hA
 refine S.done ?_
 refine Ends.seq ?_
 refine Ends.condT hA rfl ?_
 refine Ends.skip (Ends.seq (Ends.block (Ends.seq (Ends.region ?_))))
 refine S.val hA (R.move rfl) rfl ?_; clear hA a; intro a hA
 refine S.val hA (R.assign rfl) rfl ?_; clear hA a; intro a hA
 refine S.done ?_
 refine Ends.seq (Ends.region ?_)
 refine S.val hA (R.move rfl) rfl ?_; clear hA a; intro a hA
 refine S.val hA (R.max rfl rfl) rfl ?_; clear hA a; intro a hA
 refine S.val hA (R.move rfl) rfl ?_; clear hA a; intro a hA
 refine S.val hA (R.mulI rfl rfl (r := 64) rfl (by omega)) rfl ?_; clear hA a; intro a hA
 refine S.val hA (R.subI rfl rfl (r := (max ((n : Int)) 0) - 64) rfl (by omega)) rfl ?_; clear hA a; intro a hA
 refine S.val hA (R.assign rfl) rfl ?_; clear hA a; intro a hA
 refine S.done ?_
 replace hA : St 29 [(0, _), (2, _), (3, _), (4, _), (5, _), (6, _)] a := hA.sub ((.cons rfl (.cons rfl (.cons rfl (.cons rfl (.cons rfl (.cons rfl .nil)))))))
 refine Ends.block (Ends.seq (Ends.region ?_))
 refine S.val hA (R.move rfl) rfl ?_; clear hA a; intro a hA
 refine S.val hA (R.ff (R.geq rfl rfl) (by omega)) rfl ?_; clear hA a; intro a hA
 refine S.val hA (R.assign rfl) rfl ?_; clear hA a; intro a hA
 refine S.done ?_
 refine Ends.condF hA rfl ?_
 refine Ends.seq (Ends.region ?_)
 refine S.val hA (R.move rfl) rfl ?_; clear hA a; intro a hA
 refine S.val hA (R.ff (R.gtr rfl rfl) (by omega)) rfl ?_; clear hA a; intro a hA
 refine S.val hA (R.assign rfl) rfl ?_; clear hA a; intro a hA
 refine S.done ?_
 replace hA : St 29 [(0, _), (2, _), (3, _), (4, _), (5, _), (6, _), (19, _)] a := hA.sub ((.cons rfl (.cons rfl (.cons rfl (.cons rfl (.cons rfl (.cons rfl (.cons rfl .nil))))))))
 refine Ends.condF hA rfl ?_
 refine Ends.skip (Ends.inBlock (Ends.inBlock (Ends.region ?_)))
 refine S.val hA (R.addI rfl rfl (r := 2) rfl (by omega)) rfl ?_; clear hA a; intro a hA
 refine S.val hA (R.move rfl) rfl ?_; clear hA a; intro a hA
 refine S.done ?_
 replace hA : St 29 [(0, _), (2, _), (3, _), (6, _)] a := hA.sub ((.cons rfl (.cons rfl (.cons rfl (.cons rfl .nil)))))
 refine Ends.inLoop ?_
 refine Ends.seq (Ends.region ?_)
 refine S.val hA (R.ff (R.lss rfl rfl) (by first | decide | simp | omega)) rfl ?_; clear hA a; intro a hA
 refine S.done ?_
 refine Ends.seq ?_
 refine Ends.condF hA rfl ?_
 refine Ends.exit rfl ?_
 refine Ends.seq (Ends.region ?_)
 refine S.val hA (R.loadA sz63 rfl (hM.range (k := 0) rfl) rfl) rfl ?_; clear hA a; intro a hA
 refine S.storeA (k := 1) hA hM sz63 rfl rfl rfl rfl rfl rfl ?_; clear hM
 intro w4 hM
 replace hM : Mem _ _ [pt b3 #[.int .u64 (IntKind.u64.wrap ((IntKind.u64.wrap (1 * 2 ^ min ((max ((n : Int)) 0) - 0).toNat (IntKind.u64).bits)) - 1)), .int .u64 0] 63, pt b1 #[.int .u64 (IntKind.u64.wrap ((IntKind.u64.wrap (1 * 2 ^ min ((max ((n : Int)) 0) - 0).toNat (IntKind.u64).bits)) - 1)), .int .u64 0] 63] _ := hM
 refine S.done ?_
 replace hA : St 29 [(2, _)] a := hA.sub ((.cons rfl .nil))
 refine Ends.retC (k := 1) Try.func61 Try.results61 hA hM rfl rfl sz63 rfl ?_
 have e1 : (max (n : Int) 0 - 0).toNat = n := by omega
 rw [e1, full_w (n := n) (by omega)]
 exact ⟨by rw [full_hi (n := n) (by omega)], Mem.trans0 hbs hM.nilL⟩
set_option maxRecDepth 100000 in
set_option maxHeartbeats 400000 in
theorem order08 (ay : Option Addr) (x : List Int) (cy : Nat) (n : Nat) (h1 : 1 ≤ n) (h24 : n ≤ 24) (w : World) (hy : IntSl w (.slice ay x.length cy) x) :
  Calls Try.prog 42 #[.slice ay x.length cy, .int .i64 ((n : Int))] w fun e w' => e = .returned (.bool (decide (permP x n))) ∧ Below w.heap.size w w' := by
 have hbs := Below.refl (B := w.heap.size) w
 have hM := Mem.start w
 refine Calls.of_ends (vs := [.slice ay x.length cy, .int .i64 ((n : Int))]) Try.func42 rfl Try.ntmps42 rfl ?_
 intro a hA
 replace hA : St 16 [(0, _), (1, _)] a := hA
 refine Ends.seq (Ends.region ?_)
 refine S.val hA (R.assign rfl) rfl ?_; clear hA a; intro a hA
 refine S.done ?_
 refine Ends.seq ?_
 refine Ends.cut (fun (a : Act) (wv : World) => St 16 [(4, .bool (decide ((((x.length : Int)) = ((n : Int)) ∧ loW (memF x) = loW (lessF n) ∧ hiW (memF x) = hiW (lessF n)))))] a ∧ Mem w nof [] wv) ?_ (fun k2 hJ => ?_)
 ·
  clear hA hM a; rintro a w1 ⟨hA, hM⟩
  refine Ends.ret1 Try.func42 Try.results42 hA rfl ?_
  have he : ((((x.length : Int)) = ((n : Int)) ∧ loW (memF x) = loW (lessF n) ∧ hiW (memF x) = hiW (lessF n))) ↔ permP x n := by rw [← perm_set (x := x) (n := n) (by omega), set_eq]; exact ⟨fun h => ⟨by omega, h.2⟩, fun h => ⟨by omega, h.2⟩⟩
  exact ⟨congrArg (fun b => Ending.returned (.bool b)) (decide_eq_decide.2 he), Mem.trans0 hbs hM.nilL⟩
 ·
  refine Ends.region ?_
  refine S.val hA (R.move rfl) rfl ?_; clear hA a; intro a hA
  refine S.val hA (R.lenS Try.underlying22 rfl rfl) rfl ?_; clear hA a; intro a hA
  refine S.val hA (R.move rfl) rfl ?_; clear hA a; intro a hA
  refine S.val hA (R.eql rfl rfl) rfl ?_; clear hA a; intro a hA
  refine S.val hA (R.move rfl) rfl ?_; clear hA a; intro a hA
  refine hA.split (d := 9) rfl ?_ ?_
  ·
   clear hA; intro hg1 hA
   refine S.valg (dj := 9) hA (by kernel_rfl) rfl (R.move rfl) rfl ?_; clear hA a; intro a hA
   refine S.callg (dj := 9) hA (by kernel_rfl) rfl (R.callF Try.func60 rfl rfl rfl) rfl (of02 ay x cy _ (hy.mem hM)) ?_; clear hA a
   rintro e w2 ⟨rfl, hb⟩
   replace hM := hM.callB hb; clear hb
   refine ⟨.agg #[.int .u64 (loW (memF x)), .int .u64 (hiW (memF x))], rfl, fun a hA => ?_⟩
   refine S.valg (dj := 9) hA (by kernel_rfl) rfl (R.move rfl) rfl ?_; clear hA a; intro a hA
   refine S.callg (dj := 9) hA (by kernel_rfl) rfl (R.callF Try.func61 rfl rfl rfl) rfl (full02 n (by omega) (by omega) _) ?_; clear hA a
   rintro e w3 ⟨rfl, hb⟩
   replace hM := hM.callB hb; clear hb
   refine ⟨.agg #[.int .u64 (loW (lessF n)), .int .u64 (hiW (lessF n))], rfl, fun a hA => ?_⟩
   refine S.valg (dj := 9) hA (by kernel_rfl) rfl (R.eqlS (b := decide (loW (memF x) = loW (lessF n) ∧ hiW (memF x) = hiW (lessF n))) Try.eqGuardType63 (fun w => eq_set _ _ _ _ w) rfl rfl) rfl ?_; clear hA a; intro a hA
   refine S.val hA (R.pickT rfl rfl) rfl ?_; clear hA a; intro a hA
   refine S.val hA (R.assign rfl) rfl ?_; clear hA a; intro a hA
   refine S.done ?_
   replace hA : St 16 [(4, _)] a := hA.sub ((.cons rfl .nil))
   exact hJ _ _ ⟨hA.sub (.cons (by first | rfl | exact congrArg (fun b => some (Value.bool b)) (by first | exact decide_eq_decide.2 (by omega) | exact or_bool (by omega) | exact and_bool (by omega) | (simp; done) | (simp [hg1]; done) | (have h80 := hg1; (try simp at h80); simp [h80]; done) | exact (decide_eq_false (fun h9 => hg1 h9.1)).symm)) .nil), hM⟩
  ·
   clear hA; intro hg1 hA
   refine S.no (dj := 9) hA (by kernel_rfl) rfl rfl rfl ?_; clear hA a; intro a hA
   refine S.no (dj := 9) hA (by kernel_rfl) rfl rfl rfl ?_; clear hA a; intro a hA
   refine S.no (dj := 9) hA (by kernel_rfl) rfl rfl rfl ?_; clear hA a; intro a hA
   refine S.no (dj := 9) hA (by kernel_rfl) rfl rfl rfl ?_; clear hA a; intro a hA
   refine S.no (dj := 9) hA (by kernel_rfl) rfl rfl rfl ?_; clear hA a; intro a hA
   refine S.val hA (R.pickF rfl rfl) rfl ?_; clear hA a; intro a hA
   refine S.val hA (R.assign rfl) rfl ?_; clear hA a; intro a hA
   refine S.done ?_
   replace hA : St 16 [(4, _)] a := hA.sub ((.cons rfl .nil))
   exact hJ _ _ ⟨hA.sub (.cons (by first | rfl | exact congrArg (fun b => some (Value.bool b)) (by first | exact decide_eq_decide.2 (by omega) | exact or_bool (by omega) | exact and_bool (by omega) | (simp; done) | (simp [hg1]; done) | (have h80 := hg1; (try simp at h80); simp [h80]; done) | exact (decide_eq_false (fun h9 => hg1 h9.1)).symm)) .nil), hM⟩
set_option maxRecDepth 100000 in
set_option maxHeartbeats 400000 in
theorem knap08 (i : Ins) (ax3 : Option Addr) (cx3 : Nat) (ax4 : Option Addr) (cx4 : Nat) (ax5 : Option Addr) (cx5 : Nat) (ay : Option Addr) (x : List Int) (cy : Nat) (hF : InF i) (hk1 : i.kind = 1) (w : World) (hx3 : IntSl w (.slice ax3 i.wt.length cx3) i.wt) (hx4 : IntSl w (.slice ax4 i.vl.length cx4) i.vl) (hx5 : RowsV w (.slice ax5 i.cost.length cx5) i.cost) (hy : IntSl w (.slice ay x.length cy) x) :
  Calls Try.prog 41 #[.agg #[.int .i64 i.kind, .int .i64 i.n, .int .i64 i.cap, .slice ax3 i.wt.length cx3, .slice ax4 i.vl.length cx4, .slice ax5 i.cost.length cx5], .slice ay x.length cy] w fun e w' => e = .returned (.tuple #[.int .i64 (knpI i x).1, .int .i64 (knpI i x).2]) ∧ Below w.heap.size w w' := by
 have hbs := Below.refl (B := w.heap.size) w
 have f2 := hF.n1
 have f3 := hF.n64
 have f5 := hF.wt
 have f6 := hF.vl
 rw [if_pos hk1] at f5 f6
 have hlx := hy.lenB
 have hM := Mem.start w
 refine Calls.of_ends (vs := [.agg #[.int .i64 i.kind, .int .i64 i.n, .int .i64 i.cap, .slice ax3 i.wt.length cx3, .slice ax4 i.vl.length cx4, .slice ax5 i.cost.length cx5], .slice ay x.length cy]) Try.func41 rfl Try.ntmps41 rfl ?_
 intro a hA
 replace hA : St 47 [(0, _), (1, _)] a := hA
 refine Ends.seq (Ends.region ?_)
 refine S.box hA hM rfl rfl ?_; clear hA hM a; intro b1 w1 hb2 hM a hA
 replace hM : Mem _ _ [pt b1 #[.int .i64 i.kind, .int .i64 i.n, .int .i64 i.cap, .slice ax3 i.wt.length cx3, .slice ax4 i.vl.length cx4, .slice ax5 i.cost.length cx5] 25] _ := hM
 refine S.val hA (R.assign rfl) rfl ?_; clear hA a; intro a hA
 refine S.val hA (R.assign rfl) rfl ?_; clear hA a; intro a hA
 refine S.done ?_
 refine Ends.seq (Ends.seq (Ends.region ?_))
 refine S.val hA (R.move rfl) rfl ?_; clear hA a; intro a hA
 refine S.val hA (R.lenS Try.underlying22 rfl rfl) rfl ?_; clear hA a; intro a hA
 refine S.val hA (R.fieldAddr (q := 1) fi25_1 rfl rfl rfl) rfl ?_; clear hA a; intro a hA
 refine S.val hA (R.load sz3 rfl (hM.cell (k := 0) rfl rfl)) rfl ?_; clear hA a; intro a hA
 refine S.val hA (R.neq rfl rfl) rfl ?_; clear hA a; intro a hA
 refine S.done ?_
 replace hA : St 47 [(1, _), (2, _), (14, _)] a := hA.sub ((.cons rfl (.cons rfl (.cons rfl .nil))))
 refine Ends.ite hA rfl (fun hc3 => ?_) (fun hc3 => ?_)
 ·
  refine Ends.seq (Ends.region ?_)
  refine S.val hA (R.assign rfl) rfl ?_; clear hA a; intro a hA
  refine S.val hA (R.assign rfl) rfl ?_; clear hA a; intro a hA
  refine S.done ?_
  refine Ends.ret2 Try.func41 Try.results41 hA rfl rfl ?_
  have he : knpI i x = (0, 1) := if_pos hc3
  exact ⟨by rw [he], Mem.trans0 hbs hM.nilL⟩
 ·
  have hln : (x.length : Int) = i.n := Decidable.not_not.1 hc3
  refine Ends.skip (Ends.seq (Ends.region ?_))
  refine S.val hA (R.assign rfl) rfl ?_; clear hA a; intro a hA
  refine S.val hA (R.assign rfl) rfl ?_; clear hA a; intro a hA
  refine S.done ?_
  refine Ends.seq (Ends.seq (Ends.region ?_))
  refine S.val hA (R.move rfl) rfl ?_; clear hA a; intro a hA
  refine S.val hA (R.lenS Try.underlying22 rfl rfl) rfl ?_; clear hA a; intro a hA
  refine S.val hA (R.move rfl) rfl ?_; clear hA a; intro a hA
  refine S.done ?_
  refine Ends.block ?_
  refine Ends.loop (σ := Nat) (fun k (a : Act) (wv : World) => St 47 [(2, .pointer (some ⟨b1, 0, none⟩)), (6, .int .i64 (sumF (wtF i x) k)), (7, .int .i64 (sumF (vlF i x) k)), (15, .slice ay x.length cy), (16, .int .i64 ((x.length : Int))), (17, .int .i64 ((k : Int)))] a ∧ Mem w nof [pt b1 #[.int .i64 i.kind, .int .i64 i.n, .int .i64 i.cap, .slice ax3 i.wt.length cx3, .slice ax4 i.vl.length cx4, .slice ax5 i.cost.length cx5] 25] wv ∧ (k ≤ x.length) ∧ (∀ q, q < k → x.getD q 0 = 0 ∨ x.getD q 0 = 1)) (fun k => x.length - k) 0 ⟨hA.sub ((.cons rfl (.cons rfl (.cons rfl (.cons rfl (.cons rfl (.cons rfl .nil))))))), hM, (Nat.zero_le _), (fun q h => absurd h (Nat.not_lt_zero q))⟩ ?_
  clear hA hM a
  rintro k a w2 ⟨hA, hM, hk, hbit⟩ hNext
  refine Ends.seq (Ends.region ?_)
  refine S.val hA (R.lss rfl rfl) rfl ?_; clear hA a; intro a hA
  refine S.done ?_
  refine Ends.seq ?_
  refine Ends.ite hA rfl (fun hc4 => ?_) (fun hc4 => ?_)
  ·
   have g1 := hF.wtr k
   have g2 := hF.vlr k
   have s1 := wtF_bd hF x k (by omega)
   have s2 := vlF_bd hF x k (by omega)
   refine Ends.skip (Ends.seq (Ends.block (Ends.seq (Ends.region ?_))))
   refine S.val hA (R.move rfl) rfl ?_; clear hA a; intro a hA
   refine S.val hA (R.idxI hy (j := k) sl22 rfl rfl (by omega) (rfl)) rfl ?_; clear hA a; intro a hA
   refine S.val hA (R.loadI (hy.mem hM) sz3 rfl (by omega)) rfl ?_; clear hA a; intro a hA
   refine S.val hA (R.assign rfl) rfl ?_; clear hA a; intro a hA
   refine S.val hA (R.assign rfl) rfl ?_; clear hA a; intro a hA
   refine S.done ?_
   replace hA : St 47 [(2, _), (6, _), (7, _), (8, _), (9, _), (15, _), (16, _), (17, _)] a := hA.sub ((.cons rfl (.cons rfl (.cons rfl (.cons rfl (.cons rfl (.cons rfl (.cons rfl (.cons rfl .nil)))))))))
   refine Ends.seq (Ends.region ?_)
   refine S.val hA (R.move rfl) rfl ?_; clear hA a; intro a hA
   refine S.done ?_
   refine Ends.block (Ends.seq (Ends.region ?_))
   refine S.val hA (R.eql rfl rfl) rfl ?_; clear hA a; intro a hA
   refine S.val hA (R.assign rfl) rfl ?_; clear hA a; intro a hA
   refine S.done ?_
   refine Ends.ite hA rfl (fun hc5 => ?_) (fun hc5 => ?_)
   ·
    refine Ends.region ?_
    refine S.val hA (R.move rfl) rfl ?_; clear hA a; intro a hA
    refine S.val hA (R.fieldAddr (q := 3) fi25_3 rfl rfl rfl) rfl ?_; clear hA a; intro a hA
    refine S.val hA (R.load sz22 rfl (hM.cell (k := 0) rfl rfl)) rfl ?_; clear hA a; intro a hA
    refine S.val hA (R.move rfl) rfl ?_; clear hA a; intro a hA
    refine S.val hA (R.idxI hx3 (j := k) sl22 rfl rfl (by omega) (rfl)) rfl ?_; clear hA a; intro a hA
    refine S.val hA (R.loadI (hx3.mem hM) sz3 rfl (by omega)) rfl ?_; clear hA a; intro a hA
    refine S.val hA (R.addI rfl rfl (r := (sumF (wtF i x) k) + (i.wt.getD k 0)) rfl (by omega)) rfl ?_; clear hA a; intro a hA
    refine S.val hA (R.assign rfl) rfl ?_; clear hA a; intro a hA
    refine S.done ?_
    replace hA : St 47 [(2, _), (6, _), (7, _), (15, _), (16, _), (17, _)] a := hA.sub ((.cons rfl (.cons rfl (.cons rfl (.cons rfl (.cons rfl (.cons rfl .nil)))))))
    refine Ends.inBlock (Ends.inBlock (Ends.region ?_))
    refine S.val hA (R.addI rfl rfl (r := ((k : Int)) + 1) rfl (by omega)) rfl ?_; clear hA a; intro a hA
    refine S.val hA (R.move rfl) rfl ?_; clear hA a; intro a hA
    refine S.done ?_
    have hw9 : sumF (wtF i x) (k + 1) = (sumF (wtF i x) k) + (i.wt.getD k 0) := by simp only [sumF, wtF]; rw [if_pos hc5]
    have hv9 : sumF (vlF i x) (k + 1) = sumF (vlF i x) k := by simp only [sumF, vlF]; rw [if_pos hc5]; omega
    rw [← hw9, ← hv9] at hA
    exact hNext ((k + 1)) _ _ ((by show x.length - (k + 1) < x.length - k; omega)) ⟨hA.sub ((.cons rfl (.cons rfl (.cons rfl (.cons rfl (.cons rfl (.cons rfl .nil))))))), hM, (by omega), (fun q hq => by rcases Nat.lt_succ_iff_lt_or_eq.1 hq with g | g; exact hbit q g; rw [g]; exact .inr hc5)⟩
   ·
    refine Ends.seq (Ends.region ?_)
    refine S.val hA (R.eql rfl rfl) rfl ?_; clear hA a; intro a hA
    refine S.val hA (R.assign rfl) rfl ?_; clear hA a; intro a hA
    refine S.done ?_
    replace hA : St 47 [(2, _), (6, _), (7, _), (8, _), (15, _), (16, _), (17, _), (32, _)] a := hA.sub ((.cons rfl (.cons rfl (.cons rfl (.cons rfl (.cons rfl (.cons rfl (.cons rfl (.cons rfl .nil)))))))))
    refine Ends.ite hA rfl (fun hc6 => ?_) (fun hc6 => ?_)
    ·
     refine Ends.region ?_
     refine S.val hA (R.move rfl) rfl ?_; clear hA a; intro a hA
     refine S.val hA (R.fieldAddr (q := 4) fi25_4 rfl rfl rfl) rfl ?_; clear hA a; intro a hA
     refine S.val hA (R.load sz22 rfl (hM.cell (k := 0) rfl rfl)) rfl ?_; clear hA a; intro a hA
     refine S.val hA (R.move rfl) rfl ?_; clear hA a; intro a hA
     refine S.val hA (R.idxI hx4 (j := k) sl22 rfl rfl (by omega) (rfl)) rfl ?_; clear hA a; intro a hA
     refine S.val hA (R.loadI (hx4.mem hM) sz3 rfl (by omega)) rfl ?_; clear hA a; intro a hA
     refine S.val hA (R.addI rfl rfl (r := (sumF (vlF i x) k) + (i.vl.getD k 0)) rfl (by omega)) rfl ?_; clear hA a; intro a hA
     refine S.val hA (R.assign rfl) rfl ?_; clear hA a; intro a hA
     refine S.done ?_
     replace hA : St 47 [(2, _), (6, _), (7, _), (15, _), (16, _), (17, _)] a := hA.sub ((.cons rfl (.cons rfl (.cons rfl (.cons rfl (.cons rfl (.cons rfl .nil)))))))
     refine Ends.inBlock (Ends.inBlock (Ends.region ?_))
     refine S.val hA (R.addI rfl rfl (r := ((k : Int)) + 1) rfl (by omega)) rfl ?_; clear hA a; intro a hA
     refine S.val hA (R.move rfl) rfl ?_; clear hA a; intro a hA
     refine S.done ?_
     have hw9 : sumF (wtF i x) (k + 1) = sumF (wtF i x) k := by simp only [sumF, wtF]; rw [if_neg hc5]; omega
     have hv9 : sumF (vlF i x) (k + 1) = (sumF (vlF i x) k) + (i.vl.getD k 0) := by simp only [sumF, vlF]; rw [if_neg hc5]
     rw [← hw9, ← hv9] at hA
     exact hNext ((k + 1)) _ _ ((by show x.length - (k + 1) < x.length - k; omega)) ⟨hA.sub ((.cons rfl (.cons rfl (.cons rfl (.cons rfl (.cons rfl (.cons rfl .nil))))))), hM, (by omega), (fun q hq => by rcases Nat.lt_succ_iff_lt_or_eq.1 hq with g | g; exact hbit q g; rw [g]; exact .inl hc6)⟩
    ·
     refine Ends.seq (Ends.region ?_)
     refine S.val hA (R.assign rfl) rfl ?_; clear hA a; intro a hA
     refine S.val hA (R.assign rfl) rfl ?_; clear hA a; intro a hA
     refine S.done ?_
     refine Ends.ret2 Try.func41 Try.results41 hA rfl rfl ?_
     have he : knpI i x = (0, 1) := by unfold knpI; rw [if_neg (not_not_intro hln), if_pos (fun hb9 => by have h9 := hb9 k (by omega); rcases h9 with h9 | h9; exact hc6 h9; exact hc5 h9)]
     exact ⟨by rw [he], Mem.trans0 hbs hM.nilL⟩
  ·
   have hke : k = x.length := by omega
   refine Ends.exit rfl ?_
   replace hA : St 47 [(2, _), (6, _), (7, _)] a := hA.sub ((.cons rfl (.cons rfl (.cons rfl .nil))))
   refine Ends.seq (Ends.seq (Ends.region ?_))
   refine S.val hA (R.move rfl) rfl ?_; clear hA a; intro a hA
   refine S.val hA (R.fieldAddr (q := 2) fi25_2 rfl rfl rfl) rfl ?_; clear hA a; intro a hA
   refine S.val hA (R.load sz3 rfl (hM.cell (k := 0) rfl rfl)) rfl ?_; clear hA a; intro a hA
   refine S.val hA (R.gtr rfl rfl) rfl ?_; clear hA a; intro a hA
   refine S.done ?_
   replace hA : St 47 [(7, _), (45, _)] a := hA.sub ((.cons rfl (.cons rfl .nil)))
   refine Ends.ite hA rfl (fun hc7 => ?_) (fun hc7 => ?_)
   ·
    refine Ends.seq (Ends.region ?_)
    refine S.val hA (R.assign rfl) rfl ?_; clear hA a; intro a hA
    refine S.val hA (R.assign rfl) rfl ?_; clear hA a; intro a hA
    refine S.done ?_
    refine Ends.ret2 Try.func41 Try.results41 hA rfl rfl ?_
    rw [hke] at hbit
    replace hbit : bitP x x.length := hbit
    have hf9 := hc7
    rw [hke] at hf9
    have he : knpI i x = (0, 9) := by unfold knpI; rw [if_neg (not_not_intro hln), if_neg (not_not_intro hbit), if_pos hf9]
    exact ⟨by rw [he], Mem.trans0 hbs hM.nilL⟩
   ·
    refine Ends.skip (Ends.seq (Ends.region ?_))
    refine S.val hA (R.move rfl) rfl ?_; clear hA a; intro a hA
    refine S.val hA (R.assign rfl) rfl ?_; clear hA a; intro a hA
    refine S.val hA (R.assign rfl) rfl ?_; clear hA a; intro a hA
    refine S.done ?_
    refine Ends.ret2 Try.func41 Try.results41 hA rfl rfl ?_
    rw [hke] at hbit
    replace hbit : bitP x x.length := hbit
    have hf9 := hc7
    rw [hke] at hf9
    have he : knpI i x = (sumF (vlF i x) x.length, 0) := by unfold knpI; rw [if_neg (not_not_intro hln), if_neg (not_not_intro hbit), if_neg hf9]
    exact ⟨by rw [he, hke], Mem.trans0 hbs hM.nilL⟩
set_option maxRecDepth 100000 in
set_option maxHeartbeats 400000 in
theorem cost08 (i : Ins) (ax3 : Option Addr) (cx3 : Nat) (ax4 : Option Addr) (cx4 : Nat) (ax5 : Option Addr) (cx5 : Nat) (ay : Option Addr) (x : List Int) (cy : Nat) (hsm : i.wt.length ≤ 1000000 ∧ i.vl.length ≤ 1000000) (w : World) (hx3 : IntSl w (.slice ax3 i.wt.length cx3) i.wt) (hx4 : IntSl w (.slice ax4 i.vl.length cx4) i.vl) (hx5 : RowsV w (.slice ax5 i.cost.length cx5) i.cost) (hy : IntSl w (.slice ay x.length cy) x) :
  Calls Try.prog 17 #[.agg #[.int .i64 i.kind, .int .i64 i.n, .int .i64 i.cap, .slice ax3 i.wt.length cx3, .slice ax4 i.vl.length cx4, .slice ax5 i.cost.length cx5], .slice ay x.length cy] w fun e w' => e = .returned (.tuple #[.int .i64 (costI i x).1, .int .i64 (costI i x).2]) ∧ Below w.heap.size w w' := by
 have hbs := Below.refl (B := w.heap.size) w
 have hM := Mem.start w
 refine Calls.of_ends (vs := [.agg #[.int .i64 i.kind, .int .i64 i.n, .int .i64 i.cap, .slice ax3 i.wt.length cx3, .slice ax4 i.vl.length cx4, .slice ax5 i.cost.length cx5], .slice ay x.length cy]) Try.func17 rfl Try.ntmps17 rfl ?_
 intro a hA
 replace hA : St 81 [(0, _), (1, _)] a := hA
 refine Ends.seq (Ends.region ?_)
 refine S.box hA hM rfl rfl ?_; clear hA hM a; intro b1 w1 hb2 hM a hA
 replace hM : Mem _ _ [pt b1 #[.int .i64 i.kind, .int .i64 i.n, .int .i64 i.cap, .slice ax3 i.wt.length cx3, .slice ax4 i.vl.length cx4, .slice ax5 i.cost.length cx5] 25] _ := hM
 refine S.val hA (R.assign rfl) rfl ?_; clear hA a; intro a hA
 refine S.val hA (R.assign rfl) rfl ?_; clear hA a; intro a hA
 refine S.done ?_
 refine Ends.seq (Ends.region ?_)
 refine S.val hA (R.loadA sz25 rfl (hM.range (k := 0) rfl) rfl) rfl ?_; clear hA a; intro a hA
 refine S.call hA (R.callF Try.func35 rfl rfl rfl) rfl (check05 i ax3 cx3 ax4 cx4 ax5 cx5 hsm _ (hx3.mem hM) (hx4.mem hM) (hx5.mem hM)) ?_; clear hA a
 rintro e w2 ⟨rfl, hb⟩
 replace hM := hM.callB hb; clear hb
 refine ⟨.int .i64 (chk i), rfl, fun a hA => ?_⟩
 refine S.val hA (R.assign rfl) rfl ?_; clear hA a; intro a hA
 refine S.done ?_
 replace hA : St 81 [(1, _), (2, _), (6, _)] a := hA.sub ((.cons rfl (.cons rfl (.cons rfl .nil))))
 refine Ends.seq (Ends.block (Ends.seq (Ends.region ?_)))
 refine S.val hA (R.move rfl) rfl ?_; clear hA a; intro a hA
 refine S.val hA (R.neq rfl rfl) rfl ?_; clear hA a; intro a hA
 refine S.val hA (R.assign rfl) rfl ?_; clear hA a; intro a hA
 refine S.done ?_
 refine Ends.ite hA rfl (fun hc3 => ?_) (fun hc3 => ?_)
 ·
  refine Ends.seq (Ends.region ?_)
  refine S.val hA (R.move rfl) rfl ?_; clear hA a; intro a hA
  refine S.val hA (R.assign rfl) rfl ?_; clear hA a; intro a hA
  refine S.val hA (R.assign rfl) rfl ?_; clear hA a; intro a hA
  refine S.done ?_
  replace hA : St 81 [(1, _), (2, _), (4, _), (5, _)] a := hA.sub ((.cons rfl (.cons rfl (.cons rfl (.cons rfl .nil)))))
  refine Ends.ret2 Try.func17 Try.results17 hA rfl rfl ?_
  have he : costI i x = (0, chk i) := if_pos hc3
  exact ⟨by rw [he], Mem.trans0 hbs hM.nilL⟩
 ·
  have hz : chk i = 0 := Decidable.not_not.1 hc3
  have hF := chk_inF hz
  have f2 := hF.n1
  have f3 := hF.n64
  have hlx := hy.lenB
  refine Ends.seq (Ends.region ?_)
  refine S.val hA (R.fieldAddr (q := 0) fi25_0 rfl rfl rfl) rfl ?_; clear hA a; intro a hA
  refine S.val hA (R.load sz3 rfl (hM.cell (k := 0) rfl rfl)) rfl ?_; clear hA a; intro a hA
  refine S.val hA (R.eql rfl rfl) rfl ?_; clear hA a; intro a hA
  refine S.val hA (R.assign rfl) rfl ?_; clear hA a; intro a hA
  refine S.done ?_
  replace hA : St 81 [(1, _), (2, _), (16, _)] a := hA.sub ((.cons rfl (.cons rfl (.cons rfl .nil))))
  refine Ends.ite hA rfl (fun hc4 => ?_) (fun hc4 => ?_)
  ·
   have hkn := hc4
   refine Ends.seq (Ends.region ?_)
   refine S.val hA (R.loadA sz25 rfl (hM.range (k := 0) rfl) rfl) rfl ?_; clear hA a; intro a hA
   refine S.val hA (R.move rfl) rfl ?_; clear hA a; intro a hA
   refine S.call hA (R.callF Try.func41 rfl rfl rfl) rfl (knap08 i ax3 cx3 ax4 cx4 ax5 cx5 ay x cy hF hkn _ (hx3.mem hM) (hx4.mem hM) (hx5.mem hM) (hy.mem hM)) ?_; clear hA a
   rintro e w3 ⟨rfl, hb⟩
   replace hM := hM.callB hb; clear hb
   refine ⟨.tuple #[.int .i64 ((knpI i x).1), .int .i64 ((knpI i x).2)], rfl, fun a hA => ?_⟩
   refine S.val hA (R.extract (v := .int .i64 ((knpI i x).1)) rfl rfl) rfl ?_; clear hA a; intro a hA
   refine S.val hA (R.extract (v := .int .i64 ((knpI i x).2)) rfl rfl) rfl ?_; clear hA a; intro a hA
   refine S.val hA (R.assign rfl) rfl ?_; clear hA a; intro a hA
   refine S.val hA (R.assign rfl) rfl ?_; clear hA a; intro a hA
   refine S.done ?_
   replace hA : St 81 [(1, _), (2, _), (4, _), (5, _)] a := hA.sub ((.cons rfl (.cons rfl (.cons rfl (.cons rfl .nil)))))
   refine Ends.ret2 Try.func17 Try.results17 hA rfl rfl ?_
   have he : costI i x = knpI i x := by unfold costI; rw [if_neg (not_not_intro hz), if_pos hkn]
   exact ⟨by rw [he], Mem.trans0 hbs hM.nilL⟩
  ·
   have hkn := hc4
   have f4 := hF.n24 hkn
   have f7 := hF.cost
   rw [if_neg hkn] at f7
   obtain ⟨n, hn⟩ : ∃ n : Nat, i.n = (n : Int) := ⟨i.n.toNat, by omega⟩
   have hnt : i.n.toNat = n := by omega
   rw [hn] at hM
   replace hM : Mem _ _ [pt b1 #[.int .i64 i.kind, .int .i64 ((n : Int)), .int .i64 i.cap, .slice ax3 i.wt.length cx3, .slice ax4 i.vl.length cx4, .slice ax5 i.cost.length cx5] 25] _ := hM
   refine Ends.seq ?_
   refine Ends.cut (fun (a : Act) (wv : World) => St 81 [(1, .slice ay x.length cy), (2, .pointer (some ⟨b1, 0, none⟩)), (25, .bool (decide ((¬ (permP x n) ∨ (i.kind = 3 ∧ (x.getD 0 0) ≠ 0)))))] a ∧ Mem w nof [pt b1 #[.int .i64 i.kind, .int .i64 ((n : Int)), .int .i64 i.cap, .slice ax3 i.wt.length cx3, .slice ax4 i.vl.length cx4, .slice ax5 i.cost.length cx5] 25] wv) ?_ (fun k2 hJ => ?_)
   ·
    clear hA hM a; rintro a w4 ⟨hA, hM⟩
    refine Ends.ite hA rfl (fun hc5 => ?_) (fun hc5 => ?_)
    ·
     refine Ends.seq (Ends.region ?_)
     refine S.val hA (R.assign rfl) rfl ?_; clear hA a; intro a hA
     refine S.val hA (R.assign rfl) rfl ?_; clear hA a; intro a hA
     refine S.done ?_
     refine Ends.ret2 Try.func17 Try.results17 hA rfl rfl ?_
     have hno : ¬ ordP i x := fun h9 => by have h8 := h9.1; rw [hnt] at h8; rcases hc5 with g | g; exact g h8; exact g.2 (h9.2 g.1)
     have he : costI i x = (0, 1) := by unfold costI; rw [if_neg (not_not_intro hz), if_neg hkn, if_pos hno]
     exact ⟨by rw [he], Mem.trans0 hbs hM.nilL⟩
    ·
     have hp : permP x n := Classical.byContradiction fun h9 => hc5 (.inl h9)
     have ho : ordP i x := ⟨by rw [hnt]; exact hp, fun h3 => Classical.byContradiction fun h9 => hc5 (.inr ⟨h3, h9⟩)⟩
     have hlp := hp.1
     refine Ends.skip (Ends.inBlock (Ends.seq (Ends.region ?_)))
     refine S.val hA (R.assign rfl) rfl ?_; clear hA a; intro a hA
     refine S.done ?_
     refine Ends.seq (Ends.seq (Ends.region ?_))
     refine S.val hA (R.move rfl) rfl ?_; clear hA a; intro a hA
     refine S.val hA (R.lenS Try.underlying22 rfl rfl) rfl ?_; clear hA a; intro a hA
     refine S.val hA (R.move rfl) rfl ?_; clear hA a; intro a hA
     refine S.done ?_
     refine Ends.block ?_
     refine Ends.loop (σ := Nat) (fun k (a : Act) (wv : World) => St 81 [(1, .slice ay x.length cy), (2, .pointer (some ⟨b1, 0, none⟩)), (7, .int .i64 (sumF (stp i x) k)), (42, .slice ay x.length cy), (43, .int .i64 ((x.length : Int))), (44, .int .i64 ((k : Int)))] a ∧ Mem w nof [pt b1 #[.int .i64 i.kind, .int .i64 ((n : Int)), .int .i64 i.cap, .slice ax3 i.wt.length cx3, .slice ax4 i.vl.length cx4, .slice ax5 i.cost.length cx5] 25] wv ∧ (k ≤ x.length)) (fun k => x.length - k) 0 ⟨hA.sub ((.cons rfl (.cons rfl (.cons rfl (.cons rfl (.cons rfl (.cons rfl .nil))))))), hM, (Nat.zero_le _)⟩ ?_
     clear hA hM a
     rintro k a w5 ⟨hA, hM, hk⟩ hNext
     refine Ends.seq (Ends.region ?_)
     refine S.val hA (R.lss rfl rfl) rfl ?_; clear hA a; intro a hA
     refine S.done ?_
     refine Ends.seq ?_
     refine Ends.ite hA rfl (fun hc6 => ?_) (fun hc6 => ?_)
     ·
      have hkl : k < n := by omega
      have s1 := stp_bd hF x k (by omega)
      have p1 := hp.at_ hkl
      have hrw := hF.row
      have g1 := hF.row k (by omega)
      have g2 := hF.row (x.getD k 0).toNat (by omega)
      have hml := Nat.mod_lt (k + 1) (show 0 < n by omega)
      have p2 := hp.at_ hml
      have hmod : ((k : Int) + 1) % (n : Int) = (((k + 1) % n : Nat) : Int) := by push_cast; rfl
      have d1 := cl2_bd hF k (x.getD k 0)
      have d2 := cl2_bd hF (x.getD k 0) (x.getD ((k + 1) % n) 0)
      have e1 : cl2 i k (x.getD k 0) = (i.cost.getD k []).getD (x.getD k 0).toNat 0 := rfl
      have e2 : cl2 i (x.getD k 0) (x.getD ((k + 1) % n) 0) = (i.cost.getD (x.getD k 0).toNat []).getD (x.getD ((k + 1) % n) 0).toNat 0 := rfl
      refine Ends.skip (Ends.seq (Ends.block (Ends.seq (Ends.region ?_))))
      refine S.val hA (R.move rfl) rfl ?_; clear hA a; intro a hA
      refine S.val hA (R.idxI hy (j := k) sl22 rfl rfl (by first | omega | exact hmod | (rw [hmod]; omega) | (have h9 := Decidable.not_not.1 ‹¬ ¬ permP x n›; have h8 := h9.1; omega)) (rfl)) rfl ?_; clear hA a; intro a hA
      refine S.val hA (R.loadI (hy.mem hM) sz3 rfl (by first | omega | exact hmod | (rw [hmod]; omega) | (have h9 := Decidable.not_not.1 ‹¬ ¬ permP x n›; have h8 := h9.1; omega))) rfl ?_; clear hA a; intro a hA
      refine S.val hA (R.assign rfl) rfl ?_; clear hA a; intro a hA
      refine S.val hA (R.assign rfl) rfl ?_; clear hA a; intro a hA
      refine S.done ?_
      replace hA : St 81 [(1, _), (2, _), (7, _), (8, _), (9, _), (42, _), (43, _), (44, _)] a := hA.sub ((.cons rfl (.cons rfl (.cons rfl (.cons rfl (.cons rfl (.cons rfl (.cons rfl (.cons rfl .nil)))))))))
      refine Ends.seq (Ends.seq (Ends.region ?_))
      refine S.val hA (R.fieldAddr (q := 0) fi25_0 rfl rfl rfl) rfl ?_; clear hA a; intro a hA
      refine S.val hA (R.load sz3 rfl (hM.cell (k := 0) rfl rfl)) rfl ?_; clear hA a; intro a hA
      refine S.val hA (R.eql rfl rfl) rfl ?_; clear hA a; intro a hA
      refine S.done ?_
      refine Ends.ite hA rfl (fun hc7 => ?_) (fun hc7 => ?_)
      ·
       refine Ends.seq (Ends.region ?_)
       refine S.val hA (R.move rfl) rfl ?_; clear hA a; intro a hA
       refine S.val hA (R.fieldAddr (q := 5) fi25_5 rfl rfl rfl) rfl ?_; clear hA a; intro a hA
       refine S.val hA (R.load sz23 rfl (hM.cell (k := 0) rfl rfl)) rfl ?_; clear hA a; intro a hA
       refine S.val hA (R.move rfl) rfl ?_; clear hA a; intro a hA
       refine S.val hA (R.idxR hx5 (j := k) sl23 rfl rfl (by first | omega | exact hmod | (rw [hmod]; omega) | (have h9 := Decidable.not_not.1 ‹¬ ¬ permP x n›; have h8 := h9.1; omega)) (by first | omega | exact hmod | (rw [hmod]; omega) | (have h9 := Decidable.not_not.1 ‹¬ ¬ permP x n›; have h8 := h9.1; omega))) rfl ?_; clear hA a; intro a hA
       obtain ⟨ra8, rc9, hrow10, hld11⟩ := hx5.atP (i := k) (by first | omega | exact hmod | (rw [hmod]; omega) | (have h9 := Decidable.not_not.1 ‹¬ ¬ permP x n›; have h8 := h9.1; omega))
       refine S.val hA (hld11 _ _ _ _ _ _ hM sz22 rfl) rfl ?_; clear hA a; intro a hA
       refine S.val hA (R.move rfl) rfl ?_; clear hA a; intro a hA
       refine S.val hA (R.idxI hrow10 (j := (x.getD k 0).toNat) sl22 rfl rfl (by first | omega | exact hmod | (rw [hmod]; omega) | (have h9 := Decidable.not_not.1 ‹¬ ¬ permP x n›; have h8 := h9.1; omega)) (rfl)) rfl ?_; clear hA a; intro a hA
       refine S.val hA (R.loadI (hrow10.mem hM) sz3 rfl (by first | omega | exact hmod | (rw [hmod]; omega) | (have h9 := Decidable.not_not.1 ‹¬ ¬ permP x n›; have h8 := h9.1; omega))) rfl ?_; clear hA a; intro a hA
       refine S.val hA (R.addI rfl rfl (r := (sumF (stp i x) k) + (((i.cost.getD k [])).getD ((x.getD k 0).toNat) 0)) rfl (by first | omega | exact hmod | (rw [hmod]; omega) | (have h9 := Decidable.not_not.1 ‹¬ ¬ permP x n›; have h8 := h9.1; omega))) rfl ?_; clear hA a; intro a hA
       refine S.val hA (R.assign rfl) rfl ?_; clear hA a; intro a hA
       refine S.done ?_
       replace hA : St 81 [(1, _), (2, _), (7, _), (8, _), (9, _), (42, _), (43, _), (44, _)] a := hA.sub ((.cons rfl (.cons rfl (.cons rfl (.cons rfl (.cons rfl (.cons rfl (.cons rfl (.cons rfl .nil)))))))))
       refine Ends.exit rfl ?_
       refine Ends.region ?_
       refine S.val hA (R.addI rfl rfl (r := ((k : Int)) + 1) rfl (by first | omega | exact hmod | (rw [hmod]; omega) | (have h9 := Decidable.not_not.1 ‹¬ ¬ permP x n›; have h8 := h9.1; omega))) rfl ?_; clear hA a; intro a hA
       refine S.val hA (R.move rfl) rfl ?_; clear hA a; intro a hA
       refine S.done ?_
       have hs9 : sumF (stp i x) (k + 1) = (sumF (stp i x) k) + (((i.cost.getD k [])).getD ((x.getD k 0).toNat) 0) := by simp only [sumF, stp]; rw [if_pos hc7]; rfl
       rw [← hs9] at hA
       exact hNext ((k + 1)) _ _ ((by show x.length - (k + 1) < x.length - k; omega)) ⟨hA.sub ((.cons rfl (.cons rfl (.cons rfl (.cons rfl (.cons rfl (.cons rfl .nil))))))), hM, (by omega)⟩
      ·
       refine Ends.skip ?_
       refine Ends.drawn (Mem w nof [pt b1 #[.int .i64 i.kind, .int .i64 ((n : Int)), .int .i64 i.cap, .slice ax3 i.wt.length cx3, .slice ax4 i.vl.length cx4, .slice ax5 i.cost.length cx5] 25]) (.cons (0, true) (.cons (1, true) (.cons (2, true) (.cons (3, true) (.cons (4, true) (.cons (5, true) (.cons (6, true) (.cons (7, true) (.cons (8, true) (.cons (9, true) (.cons (10, true) (.cons (11, true) (.cons (12, true) (.cons (13, true) (.cons (14, true) (.cons (15, true) (.cons (16, true) (.cons (17, true) .nil)))))))))))))))))) 18 mixed (by kernel_rfl) (by kernel_rfl) (by kernel_rfl) hM.drew ?_
       replace hM := hM.drew
       refine D.valF hA rfl (fun _ => R.move rfl) rfl ?_; clear hA a; intro a hA
       refine D.valF hA rfl (fun _ => R.fieldAddr (q := 5) fi25_5 rfl rfl rfl) rfl ?_; clear hA a; intro a hA
       refine D.val hA rfl (by kernel_rfl) (fun _ hM => R.load sz23 rfl (hM.cell (k := 0) rfl rfl)) rfl ?_; clear hA a; intro a hA
       refine D.valF hA rfl (fun _ => R.move rfl) rfl ?_; clear hA a; intro a hA
       refine D.valF hA rfl (fun _ => R.idxR hx5 (j := (x.getD k 0).toNat) sl23 rfl rfl (by first | omega | exact hmod | (rw [hmod]; omega) | (have h9 := Decidable.not_not.1 ‹¬ ¬ permP x n›; have h8 := h9.1; omega)) (rfl)) rfl ?_; clear hA a; intro a hA
       obtain ⟨ra12, rc13, hrow14, hld15⟩ := hx5.atP (i := (x.getD k 0).toNat) (by first | omega | exact hmod | (rw [hmod]; omega) | (have h9 := Decidable.not_not.1 ‹¬ ¬ permP x n›; have h8 := h9.1; omega))
       refine D.val hA rfl (by kernel_rfl) (fun _ hM => hld15 _ _ _ _ _ _ hM sz22 rfl) rfl ?_; clear hA a; intro a hA
       refine D.valF hA rfl (fun _ => R.move rfl) rfl ?_; clear hA a; intro a hA
       refine D.valF hA rfl (fun _ => R.move rfl) rfl ?_; clear hA a; intro a hA
       refine D.valF hA rfl (fun _ => R.addI rfl rfl (r := ((k : Int)) + 1) rfl (by first | omega | exact hmod | (rw [hmod]; omega) | (have h9 := Decidable.not_not.1 ‹¬ ¬ permP x n›; have h8 := h9.1; omega))) rfl ?_; clear hA a; intro a hA
       refine D.valF hA rfl (fun _ => R.fieldAddr (q := 1) fi25_1 rfl rfl rfl) rfl ?_; clear hA a; intro a hA
       refine D.val hA rfl (by kernel_rfl) (fun _ hM => R.load sz3 rfl (hM.cell (k := 0) rfl rfl)) rfl ?_; clear hA a; intro a hA
       refine D.valF hA rfl (fun _ => R.remI rfl rfl (r := (((k + 1) % n : Nat) : Int)) (by first | omega | exact hmod | (rw [hmod]; omega) | (have h9 := Decidable.not_not.1 ‹¬ ¬ permP x n›; have h8 := h9.1; omega)) (by first | omega | exact hmod | (rw [hmod]; omega) | (have h9 := Decidable.not_not.1 ‹¬ ¬ permP x n›; have h8 := h9.1; omega))) rfl ?_; clear hA a; intro a hA
       refine D.valF hA rfl (fun _ => R.idxI hy (j := ((k + 1) % n)) sl22 rfl rfl (by first | omega | exact hmod | (rw [hmod]; omega) | (have h9 := Decidable.not_not.1 ‹¬ ¬ permP x n›; have h8 := h9.1; omega)) (by first | omega | exact hmod | (rw [hmod]; omega) | (have h9 := Decidable.not_not.1 ‹¬ ¬ permP x n›; have h8 := h9.1; omega))) rfl ?_; clear hA a; intro a hA
       refine D.val hA rfl (by kernel_rfl) (fun _ hM => R.loadI (hy.mem hM) sz3 rfl (by first | omega | exact hmod | (rw [hmod]; omega) | (have h9 := Decidable.not_not.1 ‹¬ ¬ permP x n›; have h8 := h9.1; omega))) rfl ?_; clear hA a; intro a hA
       refine D.valF hA rfl (fun _ => R.idxI hrow14 (j := (x.getD (((k + 1) % n)) 0).toNat) sl22 rfl rfl (by first | omega | exact hmod | (rw [hmod]; omega) | (have h9 := Decidable.not_not.1 ‹¬ ¬ permP x n›; have h8 := h9.1; omega)) (rfl)) rfl ?_; clear hA a; intro a hA
       refine D.val hA rfl (by kernel_rfl) (fun _ hM => R.loadI (hrow14.mem hM) sz3 rfl (by first | omega | exact hmod | (rw [hmod]; omega) | (have h9 := Decidable.not_not.1 ‹¬ ¬ permP x n›; have h8 := h9.1; omega))) rfl ?_; clear hA a; intro a hA
       refine D.valF hA rfl (fun _ => R.addI rfl rfl (r := (sumF (stp i x) k) + (((i.cost.getD ((x.getD k 0).toNat) [])).getD ((x.getD (((k + 1) % n)) 0).toNat) 0)) rfl (by first | omega | exact hmod | (rw [hmod]; omega) | (have h9 := Decidable.not_not.1 ‹¬ ¬ permP x n›; have h8 := h9.1; omega))) rfl ?_; clear hA a; intro a hA
       refine D.valF hA rfl (fun _ => R.assign rfl) rfl ?_; clear hA a; intro a hA
       refine D.done ?_
       replace hA : St 81 [(1, _), (2, _), (7, _), (42, _), (43, _), (44, _)] a := hA.sub ((.cons rfl (.cons rfl (.cons rfl (.cons rfl (.cons rfl (.cons rfl .nil)))))))
       refine Ends.inBlock (Ends.region ?_)
       refine S.val hA (R.addI rfl rfl (r := ((k : Int)) + 1) rfl (by first | omega | exact hmod | (rw [hmod]; omega) | (have h9 := Decidable.not_not.1 ‹¬ ¬ permP x n›; have h8 := h9.1; omega))) rfl ?_; clear hA a; intro a hA
       refine S.val hA (R.move rfl) rfl ?_; clear hA a; intro a hA
       refine S.done ?_
       have hs9 : sumF (stp i x) (k + 1) = (sumF (stp i x) k) + (((i.cost.getD ((x.getD k 0).toNat) [])).getD ((x.getD (((k + 1) % n)) 0).toNat) 0) := by simp only [sumF, stp]; rw [if_neg hc7]; rw [hnt]; rfl
       rw [← hs9] at hA
       exact hNext ((k + 1)) _ _ ((by show x.length - (k + 1) < x.length - k; omega)) ⟨hA.sub ((.cons rfl (.cons rfl (.cons rfl (.cons rfl (.cons rfl (.cons rfl .nil))))))), hM, (by omega)⟩
     ·
      have hke : k = i.n.toNat := by omega
      refine Ends.exit rfl ?_
      replace hA : St 81 [(7, _)] a := hA.sub ((.cons rfl .nil))
      refine Ends.seq (Ends.region ?_)
      refine S.val hA (R.move rfl) rfl ?_; clear hA a; intro a hA
      refine S.val hA (R.assign rfl) rfl ?_; clear hA a; intro a hA
      refine S.val hA (R.assign rfl) rfl ?_; clear hA a; intro a hA
      refine S.done ?_
      refine Ends.ret2 Try.func17 Try.results17 hA rfl rfl ?_
      have he : costI i x = (sumF (stp i x) i.n.toNat, 0) := by unfold costI; rw [if_neg (not_not_intro hz), if_neg hkn, if_neg (not_not_intro ho)]
      exact ⟨by rw [he, hke], Mem.trans0 hbs hM.nilL⟩
   ·
    refine Ends.region ?_
    refine S.val hA (R.move rfl) rfl ?_; clear hA a; intro a hA
    refine S.val hA (R.fieldAddr (q := 1) fi25_1 rfl rfl rfl) rfl ?_; clear hA a; intro a hA
    refine S.val hA (R.load sz3 rfl (hM.cell (k := 0) rfl rfl)) rfl ?_; clear hA a; intro a hA
    refine S.call hA (R.callF Try.func42 rfl rfl rfl) rfl (order08 ay x cy n (by omega) (by omega) _ (hy.mem hM)) ?_; clear hA a
    rintro e w6 ⟨rfl, hb⟩
    replace hM := hM.callB hb; clear hb
    refine ⟨.bool (decide (permP x n)), rfl, fun a hA => ?_⟩
    refine S.val hA (R.notD rfl) rfl ?_; clear hA a; intro a hA
    refine S.val hA (R.move rfl) rfl ?_; clear hA a; intro a hA
    refine hA.split (d := 31) rfl ?_ ?_
    ·
     clear hA; intro hg16 hA
     refine S.no (dj := 31) hA (by kernel_rfl) rfl rfl rfl ?_; clear hA a; intro a hA
     refine S.no (dj := 31) hA (by kernel_rfl) rfl rfl rfl ?_; clear hA a; intro a hA
     refine S.no (dj := 31) hA (by kernel_rfl) rfl rfl rfl ?_; clear hA a; intro a hA
     refine S.no (dj := 31) hA (by kernel_rfl) rfl rfl rfl ?_; clear hA a; intro a hA
     refine S.noU (dj := 35) hA (by kernel_rfl) rfl rfl ?_; clear hA a; intro a hA
     refine S.noU (dj := 35) hA (by kernel_rfl) rfl rfl ?_; clear hA a; intro a hA
     refine S.noU (dj := 35) hA (by kernel_rfl) rfl rfl ?_; clear hA a; intro a hA
     refine S.noU (dj := 35) hA (by kernel_rfl) rfl rfl ?_; clear hA a; intro a hA
     refine S.no (dj := 31) hA (by kernel_rfl) rfl rfl rfl ?_; clear hA a; intro a hA
     refine S.val hA (R.pickT rfl rfl) rfl ?_; clear hA a; intro a hA
     refine S.val hA (R.assign rfl) rfl ?_; clear hA a; intro a hA
     refine S.done ?_
     replace hA : St 81 [(1, _), (2, _), (25, _)] a := hA.sub ((.cons rfl (.cons rfl (.cons rfl .nil))))
     exact hJ _ _ ⟨hA.sub (.cons rfl (.cons rfl (.cons (by first | rfl | exact congrArg (fun b => some (Value.bool b)) (by first | exact decide_eq_decide.2 (by omega) | exact or_bool (by omega) | exact and_bool (by omega) | (simp; done) | (simp [hg16]; done) | (have h80 := hg16; (try simp at h80); simp [h80]; done) | exact (decide_eq_false (fun h9 => hg16 h9.1)).symm)) .nil))), hM⟩
    ·
     clear hA; intro hg16 hA
     refine S.valg (dj := 31) hA (by kernel_rfl) rfl (R.fieldAddr (q := 0) fi25_0 rfl rfl rfl) rfl ?_; clear hA a; intro a hA
     refine S.valg (dj := 31) hA (by kernel_rfl) rfl (R.load sz3 rfl (hM.cell (k := 0) rfl rfl)) rfl ?_; clear hA a; intro a hA
     refine S.valg (dj := 31) hA (by kernel_rfl) rfl (R.eql rfl rfl) rfl ?_; clear hA a; intro a hA
     refine S.valg (dj := 31) hA (by kernel_rfl) rfl (R.move rfl) rfl ?_; clear hA a; intro a hA
     refine hA.split (d := 35) rfl ?_ ?_
     ·
      clear hA; intro hg17 hA
      refine S.valg (dj := 35) hA (by kernel_rfl) rfl (R.move rfl) rfl ?_; clear hA a; intro a hA
      refine S.valg (dj := 35) hA (by kernel_rfl) rfl (R.idxI hy (j := 0) sl22 rfl rfl (by first | omega | exact hmod | (rw [hmod]; omega) | (have h9 := Decidable.not_not.1 ‹¬ ¬ permP x n›; have h8 := h9.1; omega)) (rfl)) rfl ?_; clear hA a; intro a hA
      refine S.valg (dj := 35) hA (by kernel_rfl) rfl (R.loadI (hy.mem hM) sz3 rfl (by first | omega | exact hmod | (rw [hmod]; omega) | (have h9 := Decidable.not_not.1 ‹¬ ¬ permP x n›; have h8 := h9.1; omega))) rfl ?_; clear hA a; intro a hA
      refine S.valg (dj := 35) hA (by kernel_rfl) rfl (R.neq rfl rfl) rfl ?_; clear hA a; intro a hA
      refine S.valg (dj := 31) hA (by kernel_rfl) rfl (R.pickT rfl rfl) rfl ?_; clear hA a; intro a hA
      refine S.val hA (R.pickF rfl rfl) rfl ?_; clear hA a; intro a hA
      refine S.val hA (R.assign rfl) rfl ?_; clear hA a; intro a hA
      refine S.done ?_
      replace hA : St 81 [(1, _), (2, _), (25, _)] a := hA.sub ((.cons rfl (.cons rfl (.cons rfl .nil))))
      exact hJ _ _ ⟨hA.sub (.cons rfl (.cons rfl (.cons (by first | rfl | exact congrArg (fun b => some (Value.bool b)) (by first | exact decide_eq_decide.2 (by omega) | exact or_bool (by omega) | exact and_bool (by omega) | (simp; done) | (simp [hg16, hg17]; done) | (have h80 := hg16; (try simp at h80); have h81 := hg17; (try simp at h81); simp [h80, h81]; done) | exact (decide_eq_false (fun h9 => hg16 h9.1)).symm | exact (decide_eq_false (fun h9 => hg17 h9.1)).symm)) .nil))), hM⟩
     ·
      clear hA; intro hg17 hA
      refine S.no (dj := 35) hA (by kernel_rfl) rfl rfl rfl ?_; clear hA a; intro a hA
      refine S.no (dj := 35) hA (by kernel_rfl) rfl rfl rfl ?_; clear hA a; intro a hA
      refine S.no (dj := 35) hA (by kernel_rfl) rfl rfl rfl ?_; clear hA a; intro a hA
      refine S.no (dj := 35) hA (by kernel_rfl) rfl rfl rfl ?_; clear hA a; intro a hA
      refine S.valg (dj := 31) hA (by kernel_rfl) rfl (R.pickF rfl rfl) rfl ?_; clear hA a; intro a hA
      refine S.val hA (R.pickF rfl rfl) rfl ?_; clear hA a; intro a hA
      refine S.val hA (R.assign rfl) rfl ?_; clear hA a; intro a hA
      refine S.done ?_
      replace hA : St 81 [(1, _), (2, _), (25, _)] a := hA.sub ((.cons rfl (.cons rfl (.cons rfl .nil))))
      exact hJ _ _ ⟨hA.sub (.cons rfl (.cons rfl (.cons (by first | rfl | exact congrArg (fun b => some (Value.bool b)) (by first | exact decide_eq_decide.2 (by omega) | exact or_bool (by omega) | exact and_bool (by omega) | (simp; done) | (simp [hg16, hg17]; done) | (have h80 := hg16; (try simp at h80); have h81 := hg17; (try simp at h81); simp [h80, h81]; done) | exact (decide_eq_false (fun h9 => hg16 h9.1)).symm | exact (decide_eq_false (fun h9 => hg17 h9.1)).symm)) .nil))), hM⟩
end Go.Proofs.Ytnikajkklocncaa
namespace Go.Proofs.Ytnikajkklocncaa
theorem permP.perm {x y : List Int} {n : Nat} (h : permP x n) (h' : permP y n) : x.Perm y := by
  refine List.perm_iff_count.2 (fun a => ?_)
  by_cases ha : 0 ≤ a ∧ a < n
  · obtain ⟨k, rfl⟩ : ∃ k : Nat, a = k := ⟨a.toNat, by omega⟩
    rw [h.2 k (by omega), h'.2 k (by omega)]
  · rw [List.count_eq_zero.2 (fun q => ha (h.mem q)), List.count_eq_zero.2 (fun q => ha (h'.mem q))]
def rng (n : Nat) : List Int := (List.range n).map Int.ofNat
theorem rng_len (n : Nat) : (rng n).length = n := by simp [rng]
theorem rng_perm {n : Nat} (hn : n ≤ 128) : permP (rng n) n := by
  refine (perm_set hn).1 ⟨rng_len n, fun b _ => ?_⟩
  unfold memF lessF
  refine decide_eq_decide.2 ⟨fun h => ?_, fun h => ?_⟩
  · obtain ⟨c, hc, e⟩ := List.mem_map.1 h
    have h1 := List.mem_range.1 hc
    have h2 : (c : Int) = (b : Int) := e
    omega
  · exact List.mem_map.2 ⟨b, List.mem_range.2 h, rfl⟩
def cntI (x : List Int) (k i : Nat) : Int := ((x.take i).count (k : Int) : Nat)
theorem cntI_step {x : List Int} {k i : Nat} (h : i < x.length) : cntI x k (i + 1) = cntI x k i + if x.getD i 0 = (k : Int) then 1 else 0 := by
  have e : x.getD i 0 = x[i] := by simp [List.getD, h]
  unfold cntI
  rw [List.take_succ_eq_append_getElem h, List.count_append, e, List.count_singleton]
  by_cases q : x[i] = (k : Int)
  · rw [if_pos q, q]; simp
  · rw [if_neg q, show (x[i] == (k : Int)) = false by simpa using q]; simp
theorem cntI_bd (x : List Int) (k i : Nat) : 0 ≤ cntI x k i ∧ cntI x k i ≤ i := by
  unfold cntI
  have h := List.count_le_length (a := (k : Int)) (l := x.take i)
  rw [List.length_take] at h
  omega
theorem cntI_all {x : List Int} {k i : Nat} (h : i = x.length) : cntI x k i = (x.count (k : Int) : Nat) := by subst h; unfold cntI; rw [List.take_length]
theorem perm_step {x : List Int} {k : Nat} (h : ∀ j, j < k → x.count ((j : Nat) : Int) = 1) (g : cntI x k x.length = 1) : ∀ j, j < k + 1 → x.count ((j : Nat) : Int) = 1 := fun j hj => by
  rcases Nat.lt_succ_iff_lt_or_eq.1 hj with q | q
  · exact h j q
  · subst q; rw [cntI_all rfl] at g; omega
theorem perm_no {x : List Int} {k n : Nat} (hk : k < n) (g : ¬ cntI x k x.length = 1) : ¬ permP x n := fun h => g (by rw [cntI_all rfl, h.2 k hk]; rfl)
theorem perm_of {x y : List Int} {n : Nat} (h : permP x n) (p : y.Perm x) : permP y n := ⟨by rw [p.length_eq, h.1], fun k hk => by rw [p.count_eq, h.2 k hk]⟩
end Go.Proofs.Ytnikajkklocncaa
