/-
  kurganref05.Copy and Check; inst.Check: what is told of a problem.
-/
import Derived.Test.YtakfcekfmdjklaaDoorIns3
import Derived.Test.YtakfcekfmdjklaaDoorInsW
import Derived.Test.YtakfcekfmdjklaaDoorEngX
namespace Go.Proofs.YtakfcekfmdjklaaDoor
open Go.RowKit
theorem Mem.ownOrC {w0 w : World} {F : Nat → Prop} {L : List Ck} {e : TypeId} {X : List Int} {a : Option Addr} {c : Nat} (h : Mem w0 F (own e 1 (.slice a X.length c) X.length (X.map (Value.int .i64)) :: L) w) : Mem w0 F (orC e ⟨X, a, c⟩ :: L) w := h
theorem orV_snoc' (rs : List OwR) (o : OwR) : rs.map orV ++ [orV o] = (rs ++ [o]).map orV := by simp
theorem len_snoc' (rs : List OwR) (o : OwR) : rs.length + 1 = (rs ++ [o]).length := by simp
theorem itF_z {i : Ins} {k : Nat} (h : numE (i.wt.getD k 0) = 0) : itF i k = numE (i.vl.getD k 0) := if_neg (by rw [h]; simp)
theorem itF_e {i : Ins} {k : Nat} (h : ¬ numE (i.wt.getD k 0) = 0) : itF i k = numE (i.wt.getD k 0) := if_pos h
theorem cellF_e {i : Ins} {r c : Nat} (h : numE ((i.cost.getD r []).getD c 0) ≠ 0) : cellF i r c = numE ((i.cost.getD r []).getD c 0) := if_pos h
theorem cellF_f {i : Ins} {r c : Nat} (h : ¬ numE ((i.cost.getD r []).getD c 0) ≠ 0) (h2 : (i.kind = 3 ∧ (r : Int) = c) ∧ (i.cost.getD r []).getD c 0 ≠ 0) : cellF i r c = 8 := by
  unfold cellF; rw [if_neg h, if_pos ⟨⟨h2.1.1, by omega⟩, h2.2⟩]
theorem cellF_z {i : Ins} {r c : Nat} (h : ¬ numE ((i.cost.getD r []).getD c 0) ≠ 0) (h2 : ¬ ((i.kind = 3 ∧ (r : Int) = c) ∧ (i.cost.getD r []).getD c 0 ≠ 0)) : cellF i r c = 0 := by
  unfold cellF; rw [if_neg h, if_neg (fun g => h2 ⟨⟨g.1.1, by omega⟩, g.2⟩)]
theorem getD_nil {l : List Int} (h : l.length = 0) (k : Nat) : l.getD k 0 = 0 := by rw [List.length_eq_zero_iff.1 h]; rfl
set_option maxRecDepth 100000 in
set_option maxHeartbeats 400000 in
theorem num05 (n : Int) (w : World) :
    Calls Tryd.prog 58 #[.int .i64 n] w fun e w' => e = .returned (.int .i64 (numE n)) ∧ Below w.heap.size w w' := by
  have hbs := Below.refl (B := w.heap.size) w
  have hM := Mem.start w
  refine Calls.of_ends (vs := [.int .i64 n]) Tryd.func58 rfl Tryd.ntmps58 rfl ?_
  intro a hA
  replace hA : St 9 [(0, _)] a := hA
  refine Ends.seq ?_
  refine Ends.region ?_
  refine S.val hA (R.assign rfl) rfl ?_; clear hA a; intro a hA
  refine S.done ?_
  replace hA : St 9 [(0, _)] a := hA.sub ((.cons rfl .nil))
  refine Ends.seq ?_
  refine Ends.block ?_
  refine Ends.seq ?_
  refine Ends.region ?_
  refine S.val hA (R.move rfl) rfl ?_; clear hA a; intro a hA
  refine S.val hA (R.lss rfl rfl) rfl ?_; clear hA a; intro a hA
  refine S.val hA (R.assign rfl) rfl ?_; clear hA a; intro a hA
  refine S.done ?_
  replace hA : St 9 [(0, _), (3, _)] a := hA.sub ((.cons rfl (.cons rfl .nil)))
  refine Ends.ite hA rfl (fun hc1 => ?_) (fun hc1 => ?_)
  ·
    refine Ends.seq ?_
    refine Ends.region ?_
    refine S.val hA (R.assign rfl) rfl ?_; clear hA a; intro a hA
    refine S.done ?_
    replace hA : St 9 [(2, _)] a := hA.sub ((.cons rfl .nil))
    refine Ends.ret1 Tryd.func58 Tryd.results58 hA rfl ?_
    have he : numE n = 1 := by unfold numE; (repeat' split) <;> omega
    exact ⟨by rw [he], Mem.trans0 hbs hM.nilL⟩
  ·
    refine Ends.seq ?_
    refine Ends.region ?_
    refine S.val hA (R.move rfl) rfl ?_; clear hA a; intro a hA
    refine S.val hA (R.gtr rfl rfl) rfl ?_; clear hA a; intro a hA
    refine S.val hA (R.assign rfl) rfl ?_; clear hA a; intro a hA
    refine S.done ?_
    replace hA : St 9 [(6, _)] a := hA.sub ((.cons rfl .nil))
    refine Ends.ite hA rfl (fun hc2 => ?_) (fun hc2 => ?_)
    ·
      refine Ends.seq ?_
      refine Ends.region ?_
      refine S.val hA (R.assign rfl) rfl ?_; clear hA a; intro a hA
      refine S.done ?_
      replace hA : St 9 [(2, _)] a := hA.sub ((.cons rfl .nil))
      refine Ends.ret1 Tryd.func58 Tryd.results58 hA rfl ?_
      have he : numE n = 5 := by unfold numE; (repeat' split) <;> omega
      exact ⟨by rw [he], Mem.trans0 hbs hM.nilL⟩
    ·
      refine Ends.skip ?_
      refine Ends.inBlock ?_
      refine Ends.seq ?_
      refine Ends.region ?_
      refine S.val hA (R.assign rfl) rfl ?_; clear hA a; intro a hA
      refine S.done ?_
      replace hA : St 9 [(2, _)] a := hA.sub ((.cons rfl .nil))
      refine Ends.ret1 Tryd.func58 Tryd.results58 hA rfl ?_
      have he : numE n = 0 := by unfold numE; (repeat' split) <;> omega
      exact ⟨by rw [he], Mem.trans0 hbs hM.nilL⟩
set_option maxRecDepth 100000 in
set_option maxHeartbeats 400000 in
theorem rnum05 (n : Int) (w : World) :
    Calls Tryd.prog 41 #[.int .i64 n] w fun e w' => e = .returned (.int .i64 (numE n)) ∧ Below w.heap.size w w' := by
  have hbs := Below.refl (B := w.heap.size) w
  have hM := Mem.start w
  refine Calls.of_ends (vs := [.int .i64 n]) Tryd.func41 rfl Tryd.ntmps41 rfl ?_
  intro a hA
  replace hA : St 7 [(0, _)] a := hA
  refine Ends.seq ?_
  refine Ends.region ?_
  refine S.val hA (R.assign rfl) rfl ?_; clear hA a; intro a hA
  refine S.done ?_
  replace hA : St 7 [(0, _)] a := hA.sub ((.cons rfl .nil))
  refine Ends.seq ?_
  refine Ends.seq ?_
  refine Ends.region ?_
  refine S.val hA (R.move rfl) rfl ?_; clear hA a; intro a hA
  refine S.val hA (R.lss rfl rfl) rfl ?_; clear hA a; intro a hA
  refine S.done ?_
  replace hA : St 7 [(0, _), (4, _)] a := hA.sub ((.cons rfl (.cons rfl .nil)))
  refine Ends.ite hA rfl (fun hc1 => ?_) (fun hc1 => ?_)
  ·
    refine Ends.seq ?_
    refine Ends.region ?_
    refine S.val hA (R.assign rfl) rfl ?_; clear hA a; intro a hA
    refine S.done ?_
    replace hA : St 7 [(0, _), (2, _)] a := hA.sub ((.cons rfl (.cons rfl .nil)))
    refine Ends.ret1 Tryd.func41 Tryd.results41 hA rfl ?_
    have he : numE n = 1 := by unfold numE; (repeat' split) <;> omega
    exact ⟨by rw [he], Mem.trans0 hbs hM.nilL⟩
  ·
    refine Ends.skip ?_
    refine Ends.seq ?_
    refine Ends.seq ?_
    refine Ends.region ?_
    refine S.val hA (R.move rfl) rfl ?_; clear hA a; intro a hA
    refine S.val hA (R.gtr rfl rfl) rfl ?_; clear hA a; intro a hA
    refine S.done ?_
    replace hA : St 7 [(6, _)] a := hA.sub ((.cons rfl .nil))
    refine Ends.ite hA rfl (fun hc2 => ?_) (fun hc2 => ?_)
    ·
      refine Ends.seq ?_
      refine Ends.region ?_
      refine S.val hA (R.assign rfl) rfl ?_; clear hA a; intro a hA
      refine S.done ?_
      replace hA : St 7 [(2, _)] a := hA.sub ((.cons rfl .nil))
      refine Ends.ret1 Tryd.func41 Tryd.results41 hA rfl ?_
      have he : numE n = 5 := by unfold numE; (repeat' split) <;> omega
      exact ⟨by rw [he], Mem.trans0 hbs hM.nilL⟩
    ·
      refine Ends.skip ?_
      refine Ends.seq ?_
      refine Ends.region ?_
      refine S.val hA (R.assign rfl) rfl ?_; clear hA a; intro a hA
      refine S.done ?_
      replace hA : St 7 [(2, _)] a := hA.sub ((.cons rfl .nil))
      refine Ends.ret1 Tryd.func41 Tryd.results41 hA rfl ?_
      have he : numE n = 0 := by unfold numE; (repeat' split) <;> omega
      exact ⟨by rw [he], Mem.trans0 hbs hM.nilL⟩
set_option maxRecDepth 100000 in
set_option maxHeartbeats 400000 in
theorem size05 (i : Ins) (ax3 : Option Addr) (cx3 : Nat) (ax4 : Option Addr) (cx4 : Nat) (ax5 : Option Addr) (cx5 : Nat) (w : World) (hx3 : IntSl w (.slice ax3 i.wt.length cx3) i.wt) (hx4 : IntSl w (.slice ax4 i.vl.length cx4) i.vl) (hx5 : RowsV w (.slice ax5 i.cost.length cx5) i.cost) :
    Calls Tryd.prog 37 #[.agg #[.int .i64 i.kind, .int .i64 i.n, .int .i64 i.cap, .slice ax3 i.wt.length cx3, .slice ax4 i.vl.length cx4, .slice ax5 i.cost.length cx5]] w fun e w' => e = .returned (.int .i64 (sizeE i)) ∧ Below w.heap.size w w' := by
  have hbs := Below.refl (B := w.heap.size) w
  have hM := Mem.start w
  refine Calls.of_ends (vs := [.agg #[.int .i64 i.kind, .int .i64 i.n, .int .i64 i.cap, .slice ax3 i.wt.length cx3, .slice ax4 i.vl.length cx4, .slice ax5 i.cost.length cx5]]) Tryd.func37 rfl Tryd.ntmps37 rfl ?_
  intro a hA
  replace hA : St 20 [(0, _)] a := hA
  refine Ends.seq ?_
  refine Ends.region ?_
  refine S.box hA hM rfl rfl ?_; clear hA hM a; intro b1 w1 hb2 hM a hA
  replace hM : Mem _ _ [pt b1 #[.int .i64 i.kind, .int .i64 i.n, .int .i64 i.cap, .slice ax3 i.wt.length cx3, .slice ax4 i.vl.length cx4, .slice ax5 i.cost.length cx5] 25] _ := hM
  refine S.val hA (R.assign rfl) rfl ?_; clear hA a; intro a hA
  refine S.done ?_
  replace hA : St 20 [(1, _)] a := hA.sub ((.cons rfl .nil))
  refine Ends.seq ?_
  refine Ends.region ?_
  refine S.val hA (R.assign rfl) rfl ?_; clear hA a; intro a hA
  refine S.done ?_
  replace hA : St 20 [(1, _), (3, _)] a := hA.sub ((.cons rfl (.cons rfl .nil)))
  refine Ends.seq ?_
  refine Ends.seq ?_
  refine Ends.region ?_
  refine S.val hA (R.fieldAddr (q := 0) fi25_0 rfl rfl rfl) rfl ?_; clear hA a; intro a hA
  refine S.val hA (R.load sz3 rfl (hM.cell (k := 0) rfl rfl)) rfl ?_; clear hA a; intro a hA
  refine S.done ?_
  replace hA : St 20 [(1, _), (3, _), (5, _)] a := hA.sub ((.cons rfl (.cons rfl (.cons rfl .nil))))
  refine Ends.block ?_
  refine Ends.seq ?_
  refine Ends.region ?_
  refine S.val hA (R.eql rfl rfl) rfl ?_; clear hA a; intro a hA
  refine S.val hA (R.assign rfl) rfl ?_; clear hA a; intro a hA
  refine S.done ?_
  replace hA : St 20 [(1, _), (3, _), (5, _), (6, _)] a := hA.sub ((.cons rfl (.cons rfl (.cons rfl (.cons rfl .nil)))))
  refine Ends.ite hA rfl (fun hc3 => ?_) (fun hc3 => ?_)
  ·
    refine Ends.region ?_
    refine S.val hA (R.assign rfl) rfl ?_; clear hA a; intro a hA
    refine S.done ?_
    replace hA : St 20 [(1, _), (3, _)] a := hA.sub ((.cons rfl (.cons rfl .nil)))
    refine Ends.inBlock ?_
    refine Ends.seq ?_
    refine Ends.block ?_
    refine Ends.seq ?_
    refine Ends.region ?_
    refine S.val hA (R.fieldAddr (q := 1) fi25_1 rfl rfl rfl) rfl ?_; clear hA a; intro a hA
    refine S.val hA (R.load sz3 rfl (hM.cell (k := 0) rfl rfl)) rfl ?_; clear hA a; intro a hA
    refine S.val hA (R.lss rfl rfl) rfl ?_; clear hA a; intro a hA
    refine S.val hA (R.assign rfl) rfl ?_; clear hA a; intro a hA
    refine S.done ?_
    replace hA : St 20 [(1, _), (3, _), (11, _)] a := hA.sub ((.cons rfl (.cons rfl (.cons rfl .nil))))
    refine Ends.ite hA rfl (fun hc4 => ?_) (fun hc4 => ?_)
    ·
      refine Ends.seq ?_
      refine Ends.region ?_
      refine S.val hA (R.assign rfl) rfl ?_; clear hA a; intro a hA
      refine S.done ?_
      replace hA : St 20 [(2, _)] a := hA.sub ((.cons rfl .nil))
      refine Ends.ret1 Tryd.func37 Tryd.results37 hA rfl ?_
      have he : sizeE i = 1 := by unfold sizeE; (repeat' split) <;> omega
      exact ⟨by rw [he], Mem.trans0 hbs hM.nilL⟩
    ·
      refine Ends.seq ?_
      refine Ends.region ?_
      refine S.val hA (R.fieldAddr (q := 1) fi25_1 rfl rfl rfl) rfl ?_; clear hA a; intro a hA
      refine S.val hA (R.load sz3 rfl (hM.cell (k := 0) rfl rfl)) rfl ?_; clear hA a; intro a hA
      refine S.val hA (R.move rfl) rfl ?_; clear hA a; intro a hA
      refine S.val hA (R.gtr rfl rfl) rfl ?_; clear hA a; intro a hA
      refine S.val hA (R.assign rfl) rfl ?_; clear hA a; intro a hA
      refine S.done ?_
      replace hA : St 20 [(15, _)] a := hA.sub ((.cons rfl .nil))
      refine Ends.ite hA rfl (fun hc5 => ?_) (fun hc5 => ?_)
      ·
        refine Ends.seq ?_
        refine Ends.region ?_
        refine S.val hA (R.assign rfl) rfl ?_; clear hA a; intro a hA
        refine S.done ?_
        replace hA : St 20 [(2, _)] a := hA.sub ((.cons rfl .nil))
        refine Ends.ret1 Tryd.func37 Tryd.results37 hA rfl ?_
        have he : sizeE i = 5 := by unfold sizeE; (repeat' split) <;> omega
        exact ⟨by rw [he], Mem.trans0 hbs hM.nilL⟩
      ·
        refine Ends.skip ?_
        refine Ends.inBlock ?_
        refine Ends.seq ?_
        refine Ends.region ?_
        refine S.val hA (R.assign rfl) rfl ?_; clear hA a; intro a hA
        refine S.done ?_
        replace hA : St 20 [(2, _)] a := hA.sub ((.cons rfl .nil))
        refine Ends.ret1 Tryd.func37 Tryd.results37 hA rfl ?_
        have he : sizeE i = 0 := by unfold sizeE; (repeat' split) <;> omega
        exact ⟨by rw [he], Mem.trans0 hbs hM.nilL⟩
  ·
    refine Ends.seq ?_
    refine Ends.seq ?_
    refine Ends.region ?_
    refine S.val hA (R.eql rfl rfl) rfl ?_; clear hA a; intro a hA
    refine S.val hA (R.assign rfl) rfl ?_; clear hA a; intro a hA
    refine S.done ?_
    replace hA : St 20 [(1, _), (3, _), (5, _), (8, _)] a := hA.sub ((.cons rfl (.cons rfl (.cons rfl (.cons rfl .nil)))))
    refine Ends.ite hA rfl (fun hc6 => ?_) (fun hc6 => ?_)
    ·
      refine Ends.skip ?_
      refine Ends.ite hA rfl (fun hc7 => ?_) (fun hc7 => ?_)
      ·
        refine Ends.skip ?_
        refine Ends.inBlock ?_
        refine Ends.seq ?_
        refine Ends.block ?_
        refine Ends.seq ?_
        refine Ends.region ?_
        refine S.val hA (R.fieldAddr (q := 1) fi25_1 rfl rfl rfl) rfl ?_; clear hA a; intro a hA
        refine S.val hA (R.load sz3 rfl (hM.cell (k := 0) rfl rfl)) rfl ?_; clear hA a; intro a hA
        refine S.val hA (R.lss rfl rfl) rfl ?_; clear hA a; intro a hA
        refine S.val hA (R.assign rfl) rfl ?_; clear hA a; intro a hA
        refine S.done ?_
        replace hA : St 20 [(1, _), (3, _), (11, _)] a := hA.sub ((.cons rfl (.cons rfl (.cons rfl .nil))))
        refine Ends.ite hA rfl (fun hc8 => ?_) (fun hc8 => ?_)
        ·
          refine Ends.seq ?_
          refine Ends.region ?_
          refine S.val hA (R.assign rfl) rfl ?_; clear hA a; intro a hA
          refine S.done ?_
          replace hA : St 20 [(2, _)] a := hA.sub ((.cons rfl .nil))
          refine Ends.ret1 Tryd.func37 Tryd.results37 hA rfl ?_
          have he : sizeE i = 1 := by unfold sizeE; (repeat' split) <;> omega
          exact ⟨by rw [he], Mem.trans0 hbs hM.nilL⟩
        ·
          refine Ends.seq ?_
          refine Ends.region ?_
          refine S.val hA (R.fieldAddr (q := 1) fi25_1 rfl rfl rfl) rfl ?_; clear hA a; intro a hA
          refine S.val hA (R.load sz3 rfl (hM.cell (k := 0) rfl rfl)) rfl ?_; clear hA a; intro a hA
          refine S.val hA (R.move rfl) rfl ?_; clear hA a; intro a hA
          refine S.val hA (R.gtr rfl rfl) rfl ?_; clear hA a; intro a hA
          refine S.val hA (R.assign rfl) rfl ?_; clear hA a; intro a hA
          refine S.done ?_
          replace hA : St 20 [(15, _)] a := hA.sub ((.cons rfl .nil))
          refine Ends.ite hA rfl (fun hc9 => ?_) (fun hc9 => ?_)
          ·
            refine Ends.seq ?_
            refine Ends.region ?_
            refine S.val hA (R.assign rfl) rfl ?_; clear hA a; intro a hA
            refine S.done ?_
            replace hA : St 20 [(2, _)] a := hA.sub ((.cons rfl .nil))
            refine Ends.ret1 Tryd.func37 Tryd.results37 hA rfl ?_
            have he : sizeE i = 5 := by unfold sizeE; (repeat' split) <;> omega
            exact ⟨by rw [he], Mem.trans0 hbs hM.nilL⟩
          ·
            refine Ends.skip ?_
            refine Ends.inBlock ?_
            refine Ends.seq ?_
            refine Ends.region ?_
            refine S.val hA (R.assign rfl) rfl ?_; clear hA a; intro a hA
            refine S.done ?_
            replace hA : St 20 [(2, _)] a := hA.sub ((.cons rfl .nil))
            refine Ends.ret1 Tryd.func37 Tryd.results37 hA rfl ?_
            have he : sizeE i = 0 := by unfold sizeE; (repeat' split) <;> omega
            exact ⟨by rw [he], Mem.trans0 hbs hM.nilL⟩
      ·
        refine Ends.seq ?_
        refine Ends.region ?_
        refine S.val hA (R.assign rfl) rfl ?_; clear hA a; intro a hA
        refine S.done ?_
        replace hA : St 20 [(1, _), (2, _), (3, _)] a := hA.sub ((.cons rfl (.cons rfl (.cons rfl .nil))))
        refine Ends.ret1 Tryd.func37 Tryd.results37 hA rfl ?_
        have he : sizeE i = 14 := by unfold sizeE; (repeat' split) <;> omega
        exact ⟨by rw [he], Mem.trans0 hbs hM.nilL⟩
    ·
      refine Ends.region ?_
      refine S.val hA (R.eql rfl rfl) rfl ?_; clear hA a; intro a hA
      refine S.val hA (R.assign rfl) rfl ?_; clear hA a; intro a hA
      refine S.done ?_
      replace hA : St 20 [(1, _), (3, _), (8, _)] a := hA.sub ((.cons rfl (.cons rfl (.cons rfl .nil))))
      refine Ends.ite hA rfl (fun hc10 => ?_) (fun hc10 => ?_)
      ·
        refine Ends.skip ?_
        refine Ends.inBlock ?_
        refine Ends.seq ?_
        refine Ends.block ?_
        refine Ends.seq ?_
        refine Ends.region ?_
        refine S.val hA (R.fieldAddr (q := 1) fi25_1 rfl rfl rfl) rfl ?_; clear hA a; intro a hA
        refine S.val hA (R.load sz3 rfl (hM.cell (k := 0) rfl rfl)) rfl ?_; clear hA a; intro a hA
        refine S.val hA (R.lss rfl rfl) rfl ?_; clear hA a; intro a hA
        refine S.val hA (R.assign rfl) rfl ?_; clear hA a; intro a hA
        refine S.done ?_
        replace hA : St 20 [(1, _), (3, _), (11, _)] a := hA.sub ((.cons rfl (.cons rfl (.cons rfl .nil))))
        refine Ends.ite hA rfl (fun hc11 => ?_) (fun hc11 => ?_)
        ·
          refine Ends.seq ?_
          refine Ends.region ?_
          refine S.val hA (R.assign rfl) rfl ?_; clear hA a; intro a hA
          refine S.done ?_
          replace hA : St 20 [(2, _)] a := hA.sub ((.cons rfl .nil))
          refine Ends.ret1 Tryd.func37 Tryd.results37 hA rfl ?_
          have he : sizeE i = 1 := by unfold sizeE; (repeat' split) <;> omega
          exact ⟨by rw [he], Mem.trans0 hbs hM.nilL⟩
        ·
          refine Ends.seq ?_
          refine Ends.region ?_
          refine S.val hA (R.fieldAddr (q := 1) fi25_1 rfl rfl rfl) rfl ?_; clear hA a; intro a hA
          refine S.val hA (R.load sz3 rfl (hM.cell (k := 0) rfl rfl)) rfl ?_; clear hA a; intro a hA
          refine S.val hA (R.move rfl) rfl ?_; clear hA a; intro a hA
          refine S.val hA (R.gtr rfl rfl) rfl ?_; clear hA a; intro a hA
          refine S.val hA (R.assign rfl) rfl ?_; clear hA a; intro a hA
          refine S.done ?_
          replace hA : St 20 [(15, _)] a := hA.sub ((.cons rfl .nil))
          refine Ends.ite hA rfl (fun hc12 => ?_) (fun hc12 => ?_)
          ·
            refine Ends.seq ?_
            refine Ends.region ?_
            refine S.val hA (R.assign rfl) rfl ?_; clear hA a; intro a hA
            refine S.done ?_
            replace hA : St 20 [(2, _)] a := hA.sub ((.cons rfl .nil))
            refine Ends.ret1 Tryd.func37 Tryd.results37 hA rfl ?_
            have he : sizeE i = 5 := by unfold sizeE; (repeat' split) <;> omega
            exact ⟨by rw [he], Mem.trans0 hbs hM.nilL⟩
          ·
            refine Ends.skip ?_
            refine Ends.inBlock ?_
            refine Ends.seq ?_
            refine Ends.region ?_
            refine S.val hA (R.assign rfl) rfl ?_; clear hA a; intro a hA
            refine S.done ?_
            replace hA : St 20 [(2, _)] a := hA.sub ((.cons rfl .nil))
            refine Ends.ret1 Tryd.func37 Tryd.results37 hA rfl ?_
            have he : sizeE i = 0 := by unfold sizeE; (repeat' split) <;> omega
            exact ⟨by rw [he], Mem.trans0 hbs hM.nilL⟩
      ·
        refine Ends.seq ?_
        refine Ends.region ?_
        refine S.val hA (R.assign rfl) rfl ?_; clear hA a; intro a hA
        refine S.done ?_
        replace hA : St 20 [(1, _), (2, _), (3, _)] a := hA.sub ((.cons rfl (.cons rfl (.cons rfl .nil))))
        refine Ends.ret1 Tryd.func37 Tryd.results37 hA rfl ?_
        have he : sizeE i = 14 := by unfold sizeE; (repeat' split) <;> omega
        exact ⟨by rw [he], Mem.trans0 hbs hM.nilL⟩
set_option maxRecDepth 100000 in
set_option maxHeartbeats 400000 in
theorem shape1 (bx : Nat) (ar : Option Addr) (Rw : List Int) (cr : Nat) (i : Ins) (ax3 : Option Addr) (cx3 : Nat) (ax4 : Option Addr) (cx4 : Nat) (ax5 : Option Addr) (cx5 : Nat) (w : World) (hr : IntSl w (.slice ar Rw.length cr) Rw) (hqbx : w.heap[bx]? = some (.cells #[.int .i64 i.kind, .int .i64 i.n, .int .i64 i.cap, .slice ax3 i.wt.length cx3, .slice ax4 i.vl.length cx4, .slice ax5 i.cost.length cx5] 25 (0, 0))) (hx3 : IntSl w (.slice ax3 i.wt.length cx3) i.wt) (hx4 : IntSl w (.slice ax4 i.vl.length cx4) i.vl) (hx5 : RowsV w (.slice ax5 i.cost.length cx5) i.cost) :
    Calls Tryd.prog 57 #[.slice ar Rw.length cr, .pointer (some ⟨bx, 0, none⟩)] w fun e w' => e = .returned (.bool (decide ((Rw.length : Int) ≠ i.n))) ∧ Below w.heap.size w w' := by
  have hbs := Below.refl (B := w.heap.size) w
  have hM := Mem.start w
  refine Calls.of_ends (vs := [.slice ar Rw.length cr, .pointer (some ⟨bx, 0, none⟩)]) Tryd.func57 rfl Tryd.ntmps57 rfl ?_
  intro a hA
  replace hA : St 9 [(0, _), (1, _)] a := hA
  refine Ends.seq ?_
  refine Ends.region ?_
  refine S.val hA (R.assign rfl) rfl ?_; clear hA a; intro a hA
  refine S.done ?_
  replace hA : St 9 [(0, _), (1, _)] a := hA.sub ((.cons rfl (.cons rfl .nil)))
  refine Ends.seq ?_
  refine Ends.region ?_
  refine S.val hA (R.move rfl) rfl ?_; clear hA a; intro a hA
  refine S.val hA (R.lenS Tryd.underlying22 rfl rfl) rfl ?_; clear hA a; intro a hA
  refine S.val hA (R.fieldAddr (q := 1) fi25_1 rfl rfl rfl) rfl ?_; clear hA a; intro a hA
  refine S.val hA (R.load sz3 rfl (hM.cellB hqbx rfl)) rfl ?_; clear hA a; intro a hA
  refine S.val hA (R.neq rfl rfl) rfl ?_; clear hA a; intro a hA
  refine S.val hA (R.assign rfl) rfl ?_; clear hA a; intro a hA
  refine S.done ?_
  replace hA : St 9 [(3, _)] a := hA.sub ((.cons rfl .nil))
  refine Ends.ret1 Tryd.func57 Tryd.results57 hA rfl ?_
  exact ⟨rfl, Mem.trans0 hbs hM.nilL⟩
set_option maxRecDepth 100000 in
set_option maxHeartbeats 400000 in
theorem indexR (bx : Nat) (i : Ins) (ax3 : Option Addr) (cx3 : Nat) (ax4 : Option Addr) (cx4 : Nat) (ax5 : Option Addr) (cx5 : Nat) (w : World) (hqbx : w.heap[bx]? = some (.cells #[.int .i64 i.kind, .int .i64 i.n, .int .i64 i.cap, .slice ax3 i.wt.length cx3, .slice ax4 i.vl.length cx4, .slice ax5 i.cost.length cx5] 25 (0, 0))) (hx3 : IntSl w (.slice ax3 i.wt.length cx3) i.wt) (hx4 : IntSl w (.slice ax4 i.vl.length cx4) i.vl) (hx5 : RowsV w (.slice ax5 i.cost.length cx5) i.cost) :
    Calls Tryd.prog 74 #[.slice ax5 i.cost.length cx5, .func (.func 57) #[] #[.pointer (some ⟨bx, 0, none⟩)]] w fun e w' => ∃ r : Int, e = .returned (.int .i64 r) ∧ (0 ≤ r ↔ ¬ ∀ r, r < i.cost.length → ((i.cost.getD r []).length : Int) = i.n) ∧ Below w.heap.size w w' := by
  have hbs := Below.refl (B := w.heap.size) w
  have hl5 := hx5.lenB
  have hM := Mem.start w
  refine Calls.of_ends (vs := [.slice ax5 i.cost.length cx5, .func (.func 57) #[] #[.pointer (some ⟨bx, 0, none⟩)]]) Tryd.func74 rfl Tryd.ntmps74 rfl ?_
  intro a hA
  replace hA : St 19 [(0, _), (1, _)] a := hA
  refine Ends.seq ?_
  refine Ends.region ?_
  refine S.val hA (R.assign rfl) rfl ?_; clear hA a; intro a hA
  refine S.done ?_
  replace hA : St 19 [(0, _), (1, _)] a := hA.sub ((.cons rfl (.cons rfl .nil)))
  refine Ends.seq ?_
  refine Ends.seq ?_
  refine Ends.region ?_
  refine S.val hA (R.move rfl) rfl ?_; clear hA a; intro a hA
  refine S.val hA (R.lenS Tryd.underlying23 rfl rfl) rfl ?_; clear hA a; intro a hA
  refine S.val hA (R.move rfl) rfl ?_; clear hA a; intro a hA
  refine S.done ?_
  replace hA : St 19 [(0, _), (1, _), (7, _), (8, _)] a := hA.sub ((.cons rfl (.cons rfl (.cons rfl (.cons rfl .nil)))))
  refine Ends.block ?_
  refine Ends.loop (σ := Nat) (fun k (a : Act) (wv : World) => St 19 [(0, .slice ax5 i.cost.length cx5), (1, .func (.func 57) #[] #[.pointer (some ⟨bx, 0, none⟩)]), (7, .int .i64 ((i.cost.length : Int))), (8, .int .i64 ((k : Int)))] a ∧ Mem w nof [] wv ∧ (k ≤ i.cost.length) ∧ (∀ r, r < k → ((i.cost.getD r []).length : Int) = i.n)) (fun k => i.cost.length - k) 0 ⟨hA.sub ((.cons rfl (.cons rfl (.cons rfl (.cons rfl .nil))))), hM, (Nat.zero_le _), (fun j hj => absurd hj (Nat.not_lt_zero _))⟩ ?_
  clear hA hM a
  rintro k a w1 ⟨hA, hM, hk, hk2⟩ hNext
  refine Ends.seq ?_
  refine Ends.region ?_
  refine S.val hA (R.lss rfl rfl) rfl ?_; clear hA a; intro a hA
  refine S.done ?_
  replace hA : St 19 [(0, _), (1, _), (7, _), (8, _), (9, _)] a := hA.sub ((.cons rfl (.cons rfl (.cons rfl (.cons rfl (.cons rfl .nil))))))
  refine Ends.seq ?_
  refine Ends.ite hA rfl (fun hc1 => ?_) (fun hc1 => ?_)
  ·
    refine Ends.skip ?_
    refine Ends.seq ?_
    refine Ends.block ?_
    refine Ends.seq ?_
    refine Ends.region ?_
    refine S.val hA (R.move rfl) rfl ?_; clear hA a; intro a hA
    refine S.val hA (R.assign rfl) rfl ?_; clear hA a; intro a hA
    refine S.done ?_
    replace hA : St 19 [(0, _), (1, _), (5, _), (7, _), (8, _)] a := hA.sub ((.cons rfl (.cons rfl (.cons rfl (.cons rfl (.cons rfl .nil))))))
    refine Ends.seq ?_
    refine Ends.region ?_
    refine S.val hA (R.move rfl) rfl ?_; clear hA a; intro a hA
    refine S.val hA (R.move rfl) rfl ?_; clear hA a; intro a hA
    refine S.val hA (R.move rfl) rfl ?_; clear hA a; intro a hA
    refine S.val hA (R.idxR hx5 (j := k) sl23 rfl rfl (by omega) (rfl)) rfl ?_; clear hA a; intro a hA
    obtain ⟨ra2, rc3, hrow4, hld5⟩ := hx5.atP (i := k) (by omega)
    refine S.val hA (hld5 _ _ _ _ _ _ hM sz22 rfl) rfl ?_; clear hA a; intro a hA
    refine S.call hA (R.callV Tryd.func57 (by kernel_rfl) rfl rfl rfl) rfl (shape1 bx ra2 ((i.cost.getD k [])) rc3 i ax3 cx3 ax4 cx4 ax5 cx5 _ (hrow4.mem hM) (hM.keepB hqbx) (hx3.mem hM) (hx4.mem hM) (hx5.mem hM)) ?_; clear hA a
    rintro e w2 ⟨rfl, hb⟩
    replace hM := hM.callB hb; clear hb
    refine ⟨.bool (decide (((((i.cost.getD k [])).length : Nat) : Int) ≠ i.n)), rfl, fun a hA => ?_⟩
    refine S.done ?_
    replace hA : St 19 [(0, _), (1, _), (5, _), (7, _), (8, _), (16, _)] a := hA.sub ((.cons rfl (.cons rfl (.cons rfl (.cons rfl (.cons rfl (.cons rfl .nil)))))))
    refine Ends.ite hA rfl (fun hc6 => ?_) (fun hc6 => ?_)
    ·
      refine Ends.seq ?_
      refine Ends.region ?_
      refine S.val hA (R.move rfl) rfl ?_; clear hA a; intro a hA
      refine S.val hA (R.assign rfl) rfl ?_; clear hA a; intro a hA
      refine S.done ?_
      replace hA : St 19 [(0, _), (1, _), (4, _), (7, _), (8, _)] a := hA.sub ((.cons rfl (.cons rfl (.cons rfl (.cons rfl (.cons rfl .nil))))))
      refine Ends.ret1 Tryd.func74 Tryd.results74 hA rfl ?_
      exact ⟨(k : Int), rfl, ⟨fun _ h => hc6 (h k (by omega)), fun _ => by omega⟩, Mem.trans0 hbs hM.nilL⟩
    ·
      refine Ends.skip ?_
      refine Ends.inBlock ?_
      refine Ends.region ?_
      refine S.val hA (R.addI rfl rfl (r := ((k : Int)) + 1) rfl (by omega)) rfl ?_; clear hA a; intro a hA
      refine S.val hA (R.move rfl) rfl ?_; clear hA a; intro a hA
      refine S.done ?_
      replace hA : St 19 [(0, _), (1, _), (7, _), (8, _)] a := hA.sub ((.cons rfl (.cons rfl (.cons rfl (.cons rfl .nil)))))
      exact hNext ((k + 1)) _ _ ((by show i.cost.length - (k + 1) < i.cost.length - k; omega)) ⟨hA.sub ((.cons rfl (.cons rfl (.cons rfl (.cons rfl .nil))))), hM, (by omega), (fun j hj => (Nat.lt_or_ge j k).elim (fun g => hk2 j g) (fun g => by have e : j = k := (by omega); rw [e]; exact Decidable.not_not.1 hc6))⟩
  ·
    refine Ends.exit rfl ?_
    replace hA : St 19 [] a := hA.sub (.nil)
    refine Ends.seq ?_
    refine Ends.region ?_
    refine S.val hA (R.assign rfl) rfl ?_; clear hA a; intro a hA
    refine S.done ?_
    replace hA : St 19 [(4, _)] a := hA.sub ((.cons rfl .nil))
    refine Ends.ret1 Tryd.func74 Tryd.results74 hA rfl ?_
    have hkl : k = i.cost.length := by omega
    exact ⟨-1, rfl, ⟨fun h => by omega, fun h => absurd (fun r hr => hk2 r (by omega)) h⟩, Mem.trans0 hbs hM.nilL⟩
set_option maxRecDepth 100000 in
set_option maxHeartbeats 400000 in
theorem containsR (bx : Nat) (i : Ins) (ax3 : Option Addr) (cx3 : Nat) (ax4 : Option Addr) (cx4 : Nat) (ax5 : Option Addr) (cx5 : Nat) (w : World) (hqbx : w.heap[bx]? = some (.cells #[.int .i64 i.kind, .int .i64 i.n, .int .i64 i.cap, .slice ax3 i.wt.length cx3, .slice ax4 i.vl.length cx4, .slice ax5 i.cost.length cx5] 25 (0, 0))) (hx3 : IntSl w (.slice ax3 i.wt.length cx3) i.wt) (hx4 : IntSl w (.slice ax4 i.vl.length cx4) i.vl) (hx5 : RowsV w (.slice ax5 i.cost.length cx5) i.cost) :
    Calls Tryd.prog 56 #[.slice ax5 i.cost.length cx5, .func (.func 57) #[] #[.pointer (some ⟨bx, 0, none⟩)]] w fun e w' => ∃ b, e = .returned (.bool b) ∧ (b = true ↔ ¬ ∀ r, r < i.cost.length → ((i.cost.getD r []).length : Int) = i.n) ∧ Below w.heap.size w w' := by
  have hbs := Below.refl (B := w.heap.size) w
  have hM := Mem.start w
  refine Calls.of_ends (vs := [.slice ax5 i.cost.length cx5, .func (.func 57) #[] #[.pointer (some ⟨bx, 0, none⟩)]]) Tryd.func56 rfl Tryd.ntmps56 rfl ?_
  intro a hA
  replace hA : St 9 [(0, _), (1, _)] a := hA
  refine Ends.seq ?_
  refine Ends.region ?_
  refine S.val hA (R.assign rfl) rfl ?_; clear hA a; intro a hA
  refine S.done ?_
  replace hA : St 9 [(0, _), (1, _)] a := hA.sub ((.cons rfl (.cons rfl .nil)))
  refine Ends.seq ?_
  refine Ends.region ?_
  refine S.val hA (R.move rfl) rfl ?_; clear hA a; intro a hA
  refine S.val hA (R.move rfl) rfl ?_; clear hA a; intro a hA
  refine S.call hA (R.callF Tryd.func74 rfl rfl rfl) rfl (indexR bx i ax3 cx3 ax4 cx4 ax5 cx5 _ (hM.keepB hqbx) (hx3.mem hM) (hx4.mem hM) (hx5.mem hM)) ?_; clear hA a
  rintro e w1 ⟨ri1, rfl, hri2, hb⟩
  replace hM := hM.callB hb; clear hb
  refine ⟨.int .i64 ri1, rfl, fun a hA => ?_⟩
  refine S.val hA (R.geq rfl rfl) rfl ?_; clear hA a; intro a hA
  refine S.val hA (R.assign rfl) rfl ?_; clear hA a; intro a hA
  refine S.done ?_
  replace hA : St 9 [(4, _)] a := hA.sub ((.cons rfl .nil))
  refine Ends.ret1 Tryd.func56 Tryd.results56 hA rfl ?_
  exact ⟨_, rfl, by rw [decide_eq_true_iff]; exact hri2, Mem.trans0 hbs hM.nilL⟩
set_option maxRecDepth 100000 in
set_option maxHeartbeats 400000 in
theorem shape05 (i : Ins) (ax3 : Option Addr) (cx3 : Nat) (ax4 : Option Addr) (cx4 : Nat) (ax5 : Option Addr) (cx5 : Nat) (hsm : i.wt.length ≤ 1000000 ∧ i.vl.length ≤ 1000000) (w : World) (hx3 : IntSl w (.slice ax3 i.wt.length cx3) i.wt) (hx4 : IntSl w (.slice ax4 i.vl.length cx4) i.vl) (hx5 : RowsV w (.slice ax5 i.cost.length cx5) i.cost) :
    Calls Tryd.prog 38 #[.agg #[.int .i64 i.kind, .int .i64 i.n, .int .i64 i.cap, .slice ax3 i.wt.length cx3, .slice ax4 i.vl.length cx4, .slice ax5 i.cost.length cx5]] w fun e w' => ∃ b, e = .returned (.bool b) ∧ (b = true ↔ shapeOK i) ∧ Below w.heap.size w w' := by
  have hbs := Below.refl (B := w.heap.size) w
  have hl3 := hx3.lenB
  have hl4 := hx4.lenB
  have hl5 := hx5.lenB
  have hM := Mem.start w
  refine Calls.of_ends (vs := [.agg #[.int .i64 i.kind, .int .i64 i.n, .int .i64 i.cap, .slice ax3 i.wt.length cx3, .slice ax4 i.vl.length cx4, .slice ax5 i.cost.length cx5]]) Tryd.func38 rfl Tryd.ntmps38 rfl ?_
  intro a hA
  replace hA : St 52 [(0, _)] a := hA
  refine Ends.seq ?_
  refine Ends.region ?_
  refine S.box hA hM rfl rfl ?_; clear hA hM a; intro b1 w1 hb2 hM a hA
  replace hM : Mem _ _ [pt b1 #[.int .i64 i.kind, .int .i64 i.n, .int .i64 i.cap, .slice ax3 i.wt.length cx3, .slice ax4 i.vl.length cx4, .slice ax5 i.cost.length cx5] 25] _ := hM
  refine S.val hA (R.assign rfl) rfl ?_; clear hA a; intro a hA
  refine S.done ?_
  replace hA : St 52 [(1, _)] a := hA.sub ((.cons rfl .nil))
  refine Ends.seq ?_
  refine Ends.seq ?_
  refine Ends.region ?_
  refine S.val hA (R.fieldAddr (q := 0) fi25_0 rfl rfl rfl) rfl ?_; clear hA a; intro a hA
  refine S.val hA (R.load sz3 rfl (hM.cell (k := 0) rfl rfl)) rfl ?_; clear hA a; intro a hA
  refine S.val hA (R.eql rfl rfl) rfl ?_; clear hA a; intro a hA
  refine S.done ?_
  replace hA : St 52 [(1, _), (5, _)] a := hA.sub ((.cons rfl (.cons rfl .nil)))
  refine Ends.ite hA rfl (fun hc3 => ?_) (fun hc3 => ?_)
  ·
    refine Ends.seq ?_
    refine Ends.cut (fun (a : Act) (wv : World) => St 52 [(1, .pointer (some ⟨b1, 0, none⟩)), (2, .bool (decide (((((i.wt.length : Int)) = i.n ∧ ((i.vl.length : Int)) = i.n) ∧ ((i.cost.length : Int)) = 0))))] a ∧ Mem w nof [pt b1 #[.int .i64 i.kind, .int .i64 i.n, .int .i64 i.cap, .slice ax3 i.wt.length cx3, .slice ax4 i.vl.length cx4, .slice ax5 i.cost.length cx5] 25] wv) ?_ (fun k2 hJ => ?_)
    · clear hA hM a; rintro a w2 ⟨hA, hM⟩
      refine Ends.ret1 Tryd.func38 Tryd.results38 hA rfl ?_
      exact ⟨_, rfl, by rw [decide_eq_true_iff]; unfold shapeOK; omega, Mem.trans0 hbs hM.nilL⟩
    ·
      refine Ends.region ?_
      refine S.val hA (R.fieldAddr (q := 3) fi25_3 rfl rfl rfl) rfl ?_; clear hA a; intro a hA
      refine S.val hA (R.load sz22 rfl (hM.cell (k := 0) rfl rfl)) rfl ?_; clear hA a; intro a hA
      refine S.val hA (R.lenS Tryd.underlying22 rfl rfl) rfl ?_; clear hA a; intro a hA
      refine S.val hA (R.fieldAddr (q := 1) fi25_1 rfl rfl rfl) rfl ?_; clear hA a; intro a hA
      refine S.val hA (R.load sz3 rfl (hM.cell (k := 0) rfl rfl)) rfl ?_; clear hA a; intro a hA
      refine S.val hA (R.eql rfl rfl) rfl ?_; clear hA a; intro a hA
      refine S.val hA (R.move rfl) rfl ?_; clear hA a; intro a hA
      refine hA.split (d := 12) rfl ?_ ?_
      · clear hA; intro hg4 hA
        refine S.valg (dj := 12) hA (by kernel_rfl) rfl (R.fieldAddr (q := 4) fi25_4 rfl rfl rfl) rfl ?_; clear hA a; intro a hA
        refine S.valg (dj := 12) hA (by kernel_rfl) rfl (R.load sz22 rfl (hM.cell (k := 0) rfl rfl)) rfl ?_; clear hA a; intro a hA
        refine S.valg (dj := 12) hA (by kernel_rfl) rfl (R.lenS Tryd.underlying22 rfl rfl) rfl ?_; clear hA a; intro a hA
        refine S.valg (dj := 12) hA (by kernel_rfl) rfl (R.fieldAddr (q := 1) fi25_1 rfl rfl rfl) rfl ?_; clear hA a; intro a hA
        refine S.valg (dj := 12) hA (by kernel_rfl) rfl (R.load sz3 rfl (hM.cell (k := 0) rfl rfl)) rfl ?_; clear hA a; intro a hA
        refine S.valg (dj := 12) hA (by kernel_rfl) rfl (R.eql rfl rfl) rfl ?_; clear hA a; intro a hA
        refine S.val hA (R.pickT rfl rfl) rfl ?_; clear hA a; intro a hA
        refine S.val hA (R.move rfl) rfl ?_; clear hA a; intro a hA
        refine hA.split (d := 20) rfl ?_ ?_
        · clear hA; intro hg5 hA
          refine S.valg (dj := 20) hA (by kernel_rfl) rfl (R.fieldAddr (q := 5) fi25_5 rfl rfl rfl) rfl ?_; clear hA a; intro a hA
          refine S.valg (dj := 20) hA (by kernel_rfl) rfl (R.load sz23 rfl (hM.cell (k := 0) rfl rfl)) rfl ?_; clear hA a; intro a hA
          refine S.valg (dj := 20) hA (by kernel_rfl) rfl (R.lenS Tryd.underlying23 rfl rfl) rfl ?_; clear hA a; intro a hA
          refine S.valg (dj := 20) hA (by kernel_rfl) rfl (R.eql rfl rfl) rfl ?_; clear hA a; intro a hA
          refine S.val hA (R.pickT rfl rfl) rfl ?_; clear hA a; intro a hA
          refine S.val hA (R.assign rfl) rfl ?_; clear hA a; intro a hA
          refine S.done ?_
          replace hA : St 52 [(1, _), (2, _)] a := hA.sub ((.cons rfl (.cons rfl .nil)))
          exact hJ _ _ ⟨hA.sub (.cons rfl (.cons (by first | rfl | exact congrArg (fun b => some (Value.bool b)) (by first | exact decide_eq_decide.2 (by omega) | exact or_bool (by omega) | exact and_bool (by omega) | (simp; done) | (simp [hg4, hg5]; done) | (have h80 := hg4; (try simp at h80); have h81 := hg5; (try simp at h81); simp [h80, h81]; done) | exact (decide_eq_false (fun h9 => hg4 h9.1)).symm | exact (decide_eq_false (fun h9 => hg5 h9.1)).symm)) .nil)), hM⟩
        · clear hA; intro hg5 hA
          refine S.no (dj := 20) hA (by kernel_rfl) rfl rfl rfl ?_; clear hA a; intro a hA
          refine S.no (dj := 20) hA (by kernel_rfl) rfl rfl rfl ?_; clear hA a; intro a hA
          refine S.no (dj := 20) hA (by kernel_rfl) rfl rfl rfl ?_; clear hA a; intro a hA
          refine S.no (dj := 20) hA (by kernel_rfl) rfl rfl rfl ?_; clear hA a; intro a hA
          refine S.val hA (R.pickF rfl rfl) rfl ?_; clear hA a; intro a hA
          refine S.val hA (R.assign rfl) rfl ?_; clear hA a; intro a hA
          refine S.done ?_
          replace hA : St 52 [(1, _), (2, _)] a := hA.sub ((.cons rfl (.cons rfl .nil)))
          exact hJ _ _ ⟨hA.sub (.cons rfl (.cons (by first | rfl | exact congrArg (fun b => some (Value.bool b)) (by first | exact decide_eq_decide.2 (by omega) | exact or_bool (by omega) | exact and_bool (by omega) | (simp; done) | (simp [hg4, hg5]; done) | (have h80 := hg4; (try simp at h80); have h81 := hg5; (try simp at h81); simp [h80, h81]; done) | exact (decide_eq_false (fun h9 => hg4 h9.1)).symm | exact (decide_eq_false (fun h9 => hg5 h9.1)).symm)) .nil)), hM⟩
      · clear hA; intro hg4 hA
        refine S.no (dj := 12) hA (by kernel_rfl) rfl rfl rfl ?_; clear hA a; intro a hA
        refine S.no (dj := 12) hA (by kernel_rfl) rfl rfl rfl ?_; clear hA a; intro a hA
        refine S.no (dj := 12) hA (by kernel_rfl) rfl rfl rfl ?_; clear hA a; intro a hA
        refine S.no (dj := 12) hA (by kernel_rfl) rfl rfl rfl ?_; clear hA a; intro a hA
        refine S.no (dj := 12) hA (by kernel_rfl) rfl rfl rfl ?_; clear hA a; intro a hA
        refine S.no (dj := 12) hA (by kernel_rfl) rfl rfl rfl ?_; clear hA a; intro a hA
        refine S.val hA (R.pickF rfl rfl) rfl ?_; clear hA a; intro a hA
        refine S.val hA (R.move rfl) rfl ?_; clear hA a; intro a hA
        refine S.no (dj := 20) hA (by kernel_rfl) rfl rfl rfl ?_; clear hA a; intro a hA
        refine S.no (dj := 20) hA (by kernel_rfl) rfl rfl rfl ?_; clear hA a; intro a hA
        refine S.no (dj := 20) hA (by kernel_rfl) rfl rfl rfl ?_; clear hA a; intro a hA
        refine S.no (dj := 20) hA (by kernel_rfl) rfl rfl rfl ?_; clear hA a; intro a hA
        refine S.val hA (R.pickF rfl rfl) rfl ?_; clear hA a; intro a hA
        refine S.val hA (R.assign rfl) rfl ?_; clear hA a; intro a hA
        refine S.done ?_
        replace hA : St 52 [(1, _), (2, _)] a := hA.sub ((.cons rfl (.cons rfl .nil)))
        exact hJ _ _ ⟨hA.sub (.cons rfl (.cons (by first | rfl | exact congrArg (fun b => some (Value.bool b)) (by first | exact decide_eq_decide.2 (by omega) | exact or_bool (by omega) | exact and_bool (by omega) | (simp; done) | (simp [hg4]; done) | (have h80 := hg4; (try simp at h80); simp [h80]; done) | exact (decide_eq_false (fun h9 => hg4 h9.1)).symm)) .nil)), hM⟩
  ·
    refine Ends.skip ?_
    refine Ends.seq ?_
    refine Ends.seq ?_
    refine Ends.cut (fun (a : Act) (wv : World) => St 52 [(1, .pointer (some ⟨b1, 0, none⟩)), (46, .bool (decide (((((i.cost.length : Int)) ≠ i.n ∨ i.cap ≠ 0) ∨ 0 < (((i.wt.length : Int)) + ((i.vl.length : Int)))))))] a ∧ Mem w nof [pt b1 #[.int .i64 i.kind, .int .i64 i.n, .int .i64 i.cap, .slice ax3 i.wt.length cx3, .slice ax4 i.vl.length cx4, .slice ax5 i.cost.length cx5] 25] wv) ?_ (fun k2 hJ => ?_)
    · clear hA hM a; rintro a w3 ⟨hA, hM⟩
      refine Ends.ite hA rfl (fun hc6 => ?_) (fun hc6 => ?_)
      ·
        refine Ends.seq ?_
        refine Ends.region ?_
        refine S.val hA (R.assign rfl) rfl ?_; clear hA a; intro a hA
        refine S.done ?_
        replace hA : St 52 [(1, _), (2, _)] a := hA.sub ((.cons rfl (.cons rfl .nil)))
        refine Ends.ret1 Tryd.func38 Tryd.results38 hA rfl ?_
        refine ⟨false, rfl, ⟨fun h => (by cases h), fun h => ?_⟩, Mem.trans0 hbs hM.nilL⟩
        unfold shapeOK at h
        rcases h with h | ⟨q1, q2, q3, q4, q5, -⟩
        · omega
        · omega
      ·
        refine Ends.skip ?_
        refine Ends.seq ?_
        refine Ends.region ?_
        refine S.val hA (R.fieldAddr (q := 5) fi25_5 rfl rfl rfl) rfl ?_; clear hA a; intro a hA
        refine S.val hA (R.load sz23 rfl (hM.cell (k := 0) rfl rfl)) rfl ?_; clear hA a; intro a hA
        refine S.val hA (R.to (v := .func (.func 57) #[] #[.pointer (some ⟨b1, 0, none⟩)]) (R.makeFunc rfl) rfl) rfl ?_; clear hA a; intro a hA
        refine S.call hA (R.callF Tryd.func56 rfl rfl rfl) rfl (containsR b1 i ax3 cx3 ax4 cx4 ax5 cx5 _ (hM.block (k := 0) rfl) (hx3.mem hM) (hx4.mem hM) (hx5.mem hM)) ?_; clear hA a
        rintro e w4 ⟨bi7, rfl, hbi8, hb⟩
        replace hM := hM.callB hb; clear hb
        refine ⟨.bool bi7, rfl, fun a hA => ?_⟩
        refine S.val hA (R.not rfl) rfl ?_; clear hA a; intro a hA
        refine S.val hA (R.assign rfl) rfl ?_; clear hA a; intro a hA
        refine S.done ?_
        replace hA : St 52 [(2, _)] a := hA.sub ((.cons rfl .nil))
        refine Ends.ret1 Tryd.func38 Tryd.results38 hA rfl ?_
        refine ⟨_, rfl, ?_, Mem.trans0 hbs hM.nilL⟩
        have hbi := hbi8
        constructor
        · intro h
          have hf : bi7 = false := by simpa using h
          have hall := Decidable.not_not.1 (fun h9 => by rw [hbi.2 h9] at hf; cases hf)
          exact .inr ⟨by omega, by omega, by omega, by omega, by omega, hall⟩
        · intro h
          rcases h with h | h
          · omega
          · cases hc : bi7 with
            | false => rfl
            | true => exact absurd h.2.2.2.2.2 (hbi.1 hc)
    ·
      refine Ends.region ?_
      refine S.val hA (R.fieldAddr (q := 5) fi25_5 rfl rfl rfl) rfl ?_; clear hA a; intro a hA
      refine S.val hA (R.load sz23 rfl (hM.cell (k := 0) rfl rfl)) rfl ?_; clear hA a; intro a hA
      refine S.val hA (R.lenS Tryd.underlying23 rfl rfl) rfl ?_; clear hA a; intro a hA
      refine S.val hA (R.fieldAddr (q := 1) fi25_1 rfl rfl rfl) rfl ?_; clear hA a; intro a hA
      refine S.val hA (R.load sz3 rfl (hM.cell (k := 0) rfl rfl)) rfl ?_; clear hA a; intro a hA
      refine S.val hA (R.neq rfl rfl) rfl ?_; clear hA a; intro a hA
      refine S.val hA (R.move rfl) rfl ?_; clear hA a; intro a hA
      refine hA.split (d := 32) rfl ?_ ?_
      · clear hA; intro hg9 hA
        refine S.no (dj := 32) hA (by kernel_rfl) rfl rfl rfl ?_; clear hA a; intro a hA
        refine S.no (dj := 32) hA (by kernel_rfl) rfl rfl rfl ?_; clear hA a; intro a hA
        refine S.no (dj := 32) hA (by kernel_rfl) rfl rfl rfl ?_; clear hA a; intro a hA
        refine S.val hA (R.pickT rfl rfl) rfl ?_; clear hA a; intro a hA
        refine S.val hA (R.move rfl) rfl ?_; clear hA a; intro a hA
        refine S.no (dj := 37) hA (by kernel_rfl) rfl rfl rfl ?_; clear hA a; intro a hA
        refine S.no (dj := 37) hA (by kernel_rfl) rfl rfl rfl ?_; clear hA a; intro a hA
        refine S.no (dj := 37) hA (by kernel_rfl) rfl rfl rfl ?_; clear hA a; intro a hA
        refine S.no (dj := 37) hA (by kernel_rfl) rfl rfl rfl ?_; clear hA a; intro a hA
        refine S.no (dj := 37) hA (by kernel_rfl) rfl rfl rfl ?_; clear hA a; intro a hA
        refine S.no (dj := 37) hA (by kernel_rfl) rfl rfl rfl ?_; clear hA a; intro a hA
        refine S.no (dj := 37) hA (by kernel_rfl) rfl rfl rfl ?_; clear hA a; intro a hA
        refine S.no (dj := 37) hA (by kernel_rfl) rfl rfl rfl ?_; clear hA a; intro a hA
        refine S.val hA (R.pickT rfl rfl) rfl ?_; clear hA a; intro a hA
        refine S.done ?_
        replace hA : St 52 [(1, _), (46, _)] a := hA.sub ((.cons rfl (.cons rfl .nil)))
        exact hJ _ _ ⟨hA.sub (.cons rfl (.cons (by first | rfl | exact congrArg (fun b => some (Value.bool b)) (by first | exact decide_eq_decide.2 (by omega) | exact or_bool (by omega) | exact and_bool (by omega) | (simp; done) | (simp [hg9]; done) | (have h80 := hg9; (try simp at h80); simp [h80]; done) | exact (decide_eq_false (fun h9 => hg9 h9.1)).symm)) .nil)), hM⟩
      · clear hA; intro hg9 hA
        refine S.valg (dj := 32) hA (by kernel_rfl) rfl (R.fieldAddr (q := 2) fi25_2 rfl rfl rfl) rfl ?_; clear hA a; intro a hA
        refine S.valg (dj := 32) hA (by kernel_rfl) rfl (R.load sz3 rfl (hM.cell (k := 0) rfl rfl)) rfl ?_; clear hA a; intro a hA
        refine S.valg (dj := 32) hA (by kernel_rfl) rfl (R.neq rfl rfl) rfl ?_; clear hA a; intro a hA
        refine S.val hA (R.pickF rfl rfl) rfl ?_; clear hA a; intro a hA
        refine S.val hA (R.move rfl) rfl ?_; clear hA a; intro a hA
        refine hA.split (d := 37) rfl ?_ ?_
        · clear hA; intro hg10 hA
          refine S.no (dj := 37) hA (by kernel_rfl) rfl rfl rfl ?_; clear hA a; intro a hA
          refine S.no (dj := 37) hA (by kernel_rfl) rfl rfl rfl ?_; clear hA a; intro a hA
          refine S.no (dj := 37) hA (by kernel_rfl) rfl rfl rfl ?_; clear hA a; intro a hA
          refine S.no (dj := 37) hA (by kernel_rfl) rfl rfl rfl ?_; clear hA a; intro a hA
          refine S.no (dj := 37) hA (by kernel_rfl) rfl rfl rfl ?_; clear hA a; intro a hA
          refine S.no (dj := 37) hA (by kernel_rfl) rfl rfl rfl ?_; clear hA a; intro a hA
          refine S.no (dj := 37) hA (by kernel_rfl) rfl rfl rfl ?_; clear hA a; intro a hA
          refine S.no (dj := 37) hA (by kernel_rfl) rfl rfl rfl ?_; clear hA a; intro a hA
          refine S.val hA (R.pickT rfl rfl) rfl ?_; clear hA a; intro a hA
          refine S.done ?_
          replace hA : St 52 [(1, _), (46, _)] a := hA.sub ((.cons rfl (.cons rfl .nil)))
          exact hJ _ _ ⟨hA.sub (.cons rfl (.cons (by first | rfl | exact congrArg (fun b => some (Value.bool b)) (by first | exact decide_eq_decide.2 (by omega) | exact or_bool (by omega) | exact and_bool (by omega) | (simp; done) | (simp [hg9, hg10]; done) | (have h80 := hg9; (try simp at h80); have h81 := hg10; (try simp at h81); simp [h80, h81]; done) | exact (decide_eq_false (fun h9 => hg9 h9.1)).symm | exact (decide_eq_false (fun h9 => hg10 h9.1)).symm)) .nil)), hM⟩
        · clear hA; intro hg10 hA
          refine S.valg (dj := 37) hA (by kernel_rfl) rfl (R.fieldAddr (q := 3) fi25_3 rfl rfl rfl) rfl ?_; clear hA a; intro a hA
          refine S.valg (dj := 37) hA (by kernel_rfl) rfl (R.load sz22 rfl (hM.cell (k := 0) rfl rfl)) rfl ?_; clear hA a; intro a hA
          refine S.valg (dj := 37) hA (by kernel_rfl) rfl (R.lenS Tryd.underlying22 rfl rfl) rfl ?_; clear hA a; intro a hA
          refine S.valg (dj := 37) hA (by kernel_rfl) rfl (R.fieldAddr (q := 4) fi25_4 rfl rfl rfl) rfl ?_; clear hA a; intro a hA
          refine S.valg (dj := 37) hA (by kernel_rfl) rfl (R.load sz22 rfl (hM.cell (k := 0) rfl rfl)) rfl ?_; clear hA a; intro a hA
          refine S.valg (dj := 37) hA (by kernel_rfl) rfl (R.lenS Tryd.underlying22 rfl rfl) rfl ?_; clear hA a; intro a hA
          refine S.valg (dj := 37) hA (by kernel_rfl) rfl (R.addI rfl rfl (r := ((i.wt.length : Int)) + ((i.vl.length : Int))) rfl (by omega)) rfl ?_; clear hA a; intro a hA
          refine S.valg (dj := 37) hA (by kernel_rfl) rfl (R.gtr rfl rfl) rfl ?_; clear hA a; intro a hA
          refine S.val hA (R.pickF rfl rfl) rfl ?_; clear hA a; intro a hA
          refine S.done ?_
          replace hA : St 52 [(1, _), (46, _)] a := hA.sub ((.cons rfl (.cons rfl .nil)))
          exact hJ _ _ ⟨hA.sub (.cons rfl (.cons (by first | rfl | exact congrArg (fun b => some (Value.bool b)) (by first | exact decide_eq_decide.2 (by omega) | exact or_bool (by omega) | exact and_bool (by omega) | (simp; done) | (simp [hg9, hg10]; done) | (have h80 := hg9; (try simp at h80); have h81 := hg10; (try simp at h81); simp [h80, h81]; done) | exact (decide_eq_false (fun h9 => hg9 h9.1)).symm | exact (decide_eq_false (fun h9 => hg10 h9.1)).symm)) .nil)), hM⟩
set_option maxRecDepth 100000 in
set_option maxHeartbeats 400000 in
theorem items05 (i : Ins) (ax3 : Option Addr) (cx3 : Nat) (ax4 : Option Addr) (cx4 : Nat) (ax5 : Option Addr) (cx5 : Nat) (hln : (i.wt.length : Int) = i.n ∧ (i.vl.length : Int) = i.n) (w : World) (hx3 : IntSl w (.slice ax3 i.wt.length cx3) i.wt) (hx4 : IntSl w (.slice ax4 i.vl.length cx4) i.vl) (hx5 : RowsV w (.slice ax5 i.cost.length cx5) i.cost) :
    Calls Tryd.prog 39 #[.agg #[.int .i64 i.kind, .int .i64 i.n, .int .i64 i.cap, .slice ax3 i.wt.length cx3, .slice ax4 i.vl.length cx4, .slice ax5 i.cost.length cx5]] w fun e w' => e = .returned (.int .i64 (if numE i.cap ≠ 0 then numE i.cap else pfx (itF i) i.n.toNat)) ∧ Below w.heap.size w w' := by
  have hbs := Below.refl (B := w.heap.size) w
  have hl3 := hx3.lenB
  have hM := Mem.start w
  refine Calls.of_ends (vs := [.agg #[.int .i64 i.kind, .int .i64 i.n, .int .i64 i.cap, .slice ax3 i.wt.length cx3, .slice ax4 i.vl.length cx4, .slice ax5 i.cost.length cx5]]) Tryd.func39 rfl Tryd.ntmps39 rfl ?_
  intro a hA
  replace hA : St 33 [(0, _)] a := hA
  refine Ends.seq ?_
  refine Ends.region ?_
  refine S.box hA hM rfl rfl ?_; clear hA hM a; intro b1 w1 hb2 hM a hA
  replace hM : Mem _ _ [pt b1 #[.int .i64 i.kind, .int .i64 i.n, .int .i64 i.cap, .slice ax3 i.wt.length cx3, .slice ax4 i.vl.length cx4, .slice ax5 i.cost.length cx5] 25] _ := hM
  refine S.val hA (R.assign rfl) rfl ?_; clear hA a; intro a hA
  refine S.done ?_
  replace hA : St 33 [(1, _)] a := hA.sub ((.cons rfl .nil))
  refine Ends.seq ?_
  refine Ends.region ?_
  refine S.val hA (R.fieldAddr (q := 2) fi25_2 rfl rfl rfl) rfl ?_; clear hA a; intro a hA
  refine S.val hA (R.load sz3 rfl (hM.cell (k := 0) rfl rfl)) rfl ?_; clear hA a; intro a hA
  refine S.call hA (R.callF Tryd.func58 rfl rfl rfl) rfl (num05 i.cap _) ?_; clear hA a
  rintro e w2 ⟨rfl, hb⟩
  replace hM := hM.callB hb; clear hb
  refine ⟨.int .i64 (numE i.cap), rfl, fun a hA => ?_⟩
  refine S.val hA (R.assign rfl) rfl ?_; clear hA a; intro a hA
  refine S.done ?_
  replace hA : St 33 [(1, _), (3, _)] a := hA.sub ((.cons rfl (.cons rfl .nil)))
  refine Ends.seq ?_
  refine Ends.seq ?_
  refine Ends.region ?_
  refine S.val hA (R.assign rfl) rfl ?_; clear hA a; intro a hA
  refine S.done ?_
  replace hA : St 33 [(1, _), (3, _), (4, _)] a := hA.sub ((.cons rfl (.cons rfl (.cons rfl .nil))))
  refine Ends.block ?_
  refine Ends.loop (σ := Nat × Int) (fun (k, ev) (a : Act) (wv : World) => St 33 [(1, .pointer (some ⟨b1, 0, none⟩)), (3, .int .i64 ev), (4, .int .i64 ((k : Int)))] a ∧ Mem w nof [pt b1 #[.int .i64 i.kind, .int .i64 i.n, .int .i64 i.cap, .slice ax3 i.wt.length cx3, .slice ax4 i.vl.length cx4, .slice ax5 i.cost.length cx5] 25] wv ∧ (k ≤ i.n.toNat) ∧ (k = 0 → ev = numE i.cap) ∧ (ev = if numE i.cap ≠ 0 then numE i.cap else pfx (itF i) k)) (fun (k, ev) => i.n.toNat - k) ((0, numE i.cap)) ⟨hA.sub ((.cons rfl (.cons rfl (.cons rfl .nil)))), hM, (Nat.zero_le _), (fun _ => rfl), (by show numE i.cap = (if numE i.cap ≠ 0 then numE i.cap else 0); by_cases h9 : numE i.cap ≠ 0; (rw [if_pos h9]); (rw [if_neg h9]; exact Decidable.not_not.1 h9))⟩ ?_
  clear hA hM a
  rintro ⟨k, ev⟩ a w3 ⟨hA, hM, hk, hk0, hev⟩ hNext
  refine Ends.seq ?_
  refine Ends.seq ?_
  refine Ends.cut (fun (a : Act) (wv : World) => St 33 [(1, .pointer (some ⟨b1, 0, none⟩)), (3, .int .i64 ev), (4, .int .i64 ((k : Int))), (15, .bool (decide ((((k : Int)) < i.n ∧ ev = 0))))] a ∧ Mem w nof [pt b1 #[.int .i64 i.kind, .int .i64 i.n, .int .i64 i.cap, .slice ax3 i.wt.length cx3, .slice ax4 i.vl.length cx4, .slice ax5 i.cost.length cx5] 25] wv) ?_ (fun k2 hJ => ?_)
  · clear hA hM a; rintro a w4 ⟨hA, hM⟩
    refine Ends.ite hA rfl (fun hc3 => ?_) (fun hc3 => ?_)
    ·
      have hcz : numE i.cap = 0 := by
        rw [hev] at hc3
        by_cases h9 : numE i.cap = 0
        · exact h9
        · rw [if_pos h9] at hc3; exact absurd hc3.2 h9
      rw [if_neg (by rw [hcz]; simp)] at hev
      have hev0 : ev = 0 := hc3.2
      have hp0 : pfx (itF i) k = 0 := by rw [← hev]; exact hev0
      refine Ends.skip ?_
      refine Ends.seq ?_
      refine Ends.block ?_
      refine Ends.seq ?_
      refine Ends.region ?_
      refine S.val hA (R.fieldAddr (q := 3) fi25_3 rfl rfl rfl) rfl ?_; clear hA a; intro a hA
      refine S.val hA (R.load sz22 rfl (hM.cell (k := 0) rfl rfl)) rfl ?_; clear hA a; intro a hA
      refine S.val hA (R.move rfl) rfl ?_; clear hA a; intro a hA
      refine S.val hA (R.idxI hx3 (j := k) sl22 rfl rfl (by omega) (rfl)) rfl ?_; clear hA a; intro a hA
      refine S.val hA (R.loadI (hx3.mem hM) sz3 rfl (by omega)) rfl ?_; clear hA a; intro a hA
      refine S.call hA (R.callF Tryd.func58 rfl rfl rfl) rfl (num05 (i.wt.getD k 0) _) ?_; clear hA a
      rintro e w5 ⟨rfl, hb⟩
      replace hM := hM.callB hb; clear hb
      refine ⟨.int .i64 (numE (i.wt.getD k 0)), rfl, fun a hA => ?_⟩
      refine S.val hA (R.assign rfl) rfl ?_; clear hA a; intro a hA
      refine S.done ?_
      replace hA : St 33 [(1, _), (3, _), (4, _)] a := hA.sub ((.cons rfl (.cons rfl (.cons rfl .nil))))
      refine Ends.seq ?_
      refine Ends.region ?_
      refine S.val hA (R.move rfl) rfl ?_; clear hA a; intro a hA
      refine S.val hA (R.eql rfl rfl) rfl ?_; clear hA a; intro a hA
      refine S.done ?_
      replace hA : St 33 [(1, _), (3, _), (4, _), (25, _)] a := hA.sub ((.cons rfl (.cons rfl (.cons rfl (.cons rfl .nil)))))
      refine Ends.ite hA rfl (fun hc4 => ?_) (fun hc4 => ?_)
      ·
        refine Ends.region ?_
        refine S.val hA (R.fieldAddr (q := 4) fi25_4 rfl rfl rfl) rfl ?_; clear hA a; intro a hA
        refine S.val hA (R.load sz22 rfl (hM.cell (k := 0) rfl rfl)) rfl ?_; clear hA a; intro a hA
        refine S.val hA (R.move rfl) rfl ?_; clear hA a; intro a hA
        refine S.val hA (R.idxI hx4 (j := k) sl22 rfl rfl (by omega) (rfl)) rfl ?_; clear hA a; intro a hA
        refine S.val hA (R.loadI (hx4.mem hM) sz3 rfl (by omega)) rfl ?_; clear hA a; intro a hA
        refine S.call hA (R.callF Tryd.func58 rfl rfl rfl) rfl (num05 (i.vl.getD k 0) _) ?_; clear hA a
        rintro e w6 ⟨rfl, hb⟩
        replace hM := hM.callB hb; clear hb
        refine ⟨.int .i64 (numE (i.vl.getD k 0)), rfl, fun a hA => ?_⟩
        refine S.val hA (R.assign rfl) rfl ?_; clear hA a; intro a hA
        refine S.done ?_
        replace hA : St 33 [(1, _), (3, _), (4, _)] a := hA.sub ((.cons rfl (.cons rfl (.cons rfl .nil))))
        refine Ends.inBlock ?_
        refine Ends.region ?_
        refine S.val hA (R.move rfl) rfl ?_; clear hA a; intro a hA
        refine S.val hA (R.addI rfl rfl (r := ((k : Int)) + 1) rfl (by omega)) rfl ?_; clear hA a; intro a hA
        refine S.val hA (R.assign rfl) rfl ?_; clear hA a; intro a hA
        refine S.done ?_
        replace hA : St 33 [(1, _), (3, _), (4, _)] a := hA.sub ((.cons rfl (.cons rfl (.cons rfl .nil))))
        have hst := pfx_step (f := itF i) (k := k) (by omega)
        exact hNext ((k + 1, numE (i.vl.getD k 0))) _ _ ((by show i.n.toNat - (k + 1) < i.n.toNat - k; omega)) ⟨hA.sub ((.cons rfl (.cons rfl (.cons rfl .nil)))), hM, (by omega), (fun h9 => by omega), (by rw [if_neg (by rw [hcz]; simp), hst, itF_z hc4])⟩
      ·
        refine Ends.skip ?_
        refine Ends.inBlock ?_
        refine Ends.region ?_
        refine S.val hA (R.move rfl) rfl ?_; clear hA a; intro a hA
        refine S.val hA (R.addI rfl rfl (r := ((k : Int)) + 1) rfl (by omega)) rfl ?_; clear hA a; intro a hA
        refine S.val hA (R.assign rfl) rfl ?_; clear hA a; intro a hA
        refine S.done ?_
        replace hA : St 33 [(1, _), (3, _), (4, _)] a := hA.sub ((.cons rfl (.cons rfl (.cons rfl .nil))))
        have hst := pfx_step (f := itF i) (k := k) (by omega)
        exact hNext ((k + 1, numE (i.wt.getD k 0))) _ _ ((by show i.n.toNat - (k + 1) < i.n.toNat - k; omega)) ⟨hA.sub ((.cons rfl (.cons rfl (.cons rfl .nil)))), hM, (by omega), (fun h9 => by omega), (by rw [if_neg (by rw [hcz]; simp), hst, itF_e hc4])⟩
    ·
      refine Ends.exit rfl ?_
      replace hA : St 33 [(3, _)] a := hA.sub ((.cons rfl .nil))
      refine Ends.seq ?_
      refine Ends.region ?_
      refine S.val hA (R.move rfl) rfl ?_; clear hA a; intro a hA
      refine S.val hA (R.assign rfl) rfl ?_; clear hA a; intro a hA
      refine S.done ?_
      replace hA : St 33 [(2, _)] a := hA.sub ((.cons rfl .nil))
      refine Ends.ret1 Tryd.func39 Tryd.results39 hA rfl ?_
      have hfin : ev = if numE i.cap ≠ 0 then numE i.cap else pfx (itF i) i.n.toNat := by
        by_cases h9 : numE i.cap ≠ 0
        · rw [if_pos h9] at hev ⊢; exact hev
        · rw [if_neg h9] at hev ⊢
          by_cases h8 : ev = 0
          · rw [hev]; congr 1; omega
          · rw [hev]; exact (pfx_stay (by rw [← hev]; exact h8) hk).symm
      exact ⟨by rw [hfin], Mem.trans0 hbs hM.nilL⟩
  ·
    refine Ends.region ?_
    refine S.val hA (R.move rfl) rfl ?_; clear hA a; intro a hA
    refine S.val hA (R.fieldAddr (q := 1) fi25_1 rfl rfl rfl) rfl ?_; clear hA a; intro a hA
    refine S.val hA (R.load sz3 rfl (hM.cell (k := 0) rfl rfl)) rfl ?_; clear hA a; intro a hA
    refine S.val hA (R.lss rfl rfl) rfl ?_; clear hA a; intro a hA
    refine S.val hA (R.move rfl) rfl ?_; clear hA a; intro a hA
    refine hA.split (d := 12) rfl ?_ ?_
    · clear hA; intro hg5 hA
      refine S.valg (dj := 12) hA (by kernel_rfl) rfl (R.move rfl) rfl ?_; clear hA a; intro a hA
      refine S.valg (dj := 12) hA (by kernel_rfl) rfl (R.eql rfl rfl) rfl ?_; clear hA a; intro a hA
      refine S.val hA (R.pickT rfl rfl) rfl ?_; clear hA a; intro a hA
      refine S.done ?_
      replace hA : St 33 [(1, _), (3, _), (4, _), (15, _)] a := hA.sub ((.cons rfl (.cons rfl (.cons rfl (.cons rfl .nil)))))
      exact hJ _ _ ⟨hA.sub (.cons rfl (.cons rfl (.cons rfl (.cons (by first | rfl | exact congrArg (fun b => some (Value.bool b)) (by first | exact decide_eq_decide.2 (by omega) | exact or_bool (by omega) | exact and_bool (by omega) | (simp; done) | (simp [hg5]; done) | (have h80 := hg5; (try simp at h80); simp [h80]; done) | exact (decide_eq_false (fun h9 => hg5 h9.1)).symm)) .nil)))), hM⟩
    · clear hA; intro hg5 hA
      refine S.no (dj := 12) hA (by kernel_rfl) rfl rfl rfl ?_; clear hA a; intro a hA
      refine S.no (dj := 12) hA (by kernel_rfl) rfl rfl rfl ?_; clear hA a; intro a hA
      refine S.val hA (R.pickF rfl rfl) rfl ?_; clear hA a; intro a hA
      refine S.done ?_
      replace hA : St 33 [(1, _), (3, _), (4, _), (15, _)] a := hA.sub ((.cons rfl (.cons rfl (.cons rfl (.cons rfl .nil)))))
      exact hJ _ _ ⟨hA.sub (.cons rfl (.cons rfl (.cons rfl (.cons (by first | rfl | exact congrArg (fun b => some (Value.bool b)) (by first | exact decide_eq_decide.2 (by omega) | exact or_bool (by omega) | exact and_bool (by omega) | (simp; done) | (simp [hg5]; done) | (have h80 := hg5; (try simp at h80); simp [h80]; done) | exact (decide_eq_false (fun h9 => hg5 h9.1)).symm)) .nil)))), hM⟩
set_option maxRecDepth 100000 in
set_option maxHeartbeats 400000 in
theorem rows05 (i : Ins) (ax3 : Option Addr) (cx3 : Nat) (ax4 : Option Addr) (cx4 : Nat) (ax5 : Option Addr) (cx5 : Nat) (hsq : ∀ r, r < i.cost.length → ((i.cost.getD r []).length : Int) = i.n) (hcl : (i.cost.length : Int) = i.n) (w : World) (hx3 : IntSl w (.slice ax3 i.wt.length cx3) i.wt) (hx4 : IntSl w (.slice ax4 i.vl.length cx4) i.vl) (hx5 : RowsV w (.slice ax5 i.cost.length cx5) i.cost) :
    Calls Tryd.prog 40 #[.agg #[.int .i64 i.kind, .int .i64 i.n, .int .i64 i.cap, .slice ax3 i.wt.length cx3, .slice ax4 i.vl.length cx4, .slice ax5 i.cost.length cx5]] w fun e w' => e = .returned (.int .i64 (pfx (fun r => pfx (cellF i r) i.n.toNat) i.n.toNat)) ∧ Below w.heap.size w w' := by
  have hbs := Below.refl (B := w.heap.size) w
  have hl5 := hx5.lenB
  have hM := Mem.start w
  refine Calls.of_ends (vs := [.agg #[.int .i64 i.kind, .int .i64 i.n, .int .i64 i.cap, .slice ax3 i.wt.length cx3, .slice ax4 i.vl.length cx4, .slice ax5 i.cost.length cx5]]) Tryd.func40 rfl Tryd.ntmps40 rfl ?_
  intro a hA
  replace hA : St 42 [(0, _)] a := hA
  refine Ends.seq ?_
  refine Ends.region ?_
  refine S.box hA hM rfl rfl ?_; clear hA hM a; intro b1 w1 hb2 hM a hA
  replace hM : Mem _ _ [pt b1 #[.int .i64 i.kind, .int .i64 i.n, .int .i64 i.cap, .slice ax3 i.wt.length cx3, .slice ax4 i.vl.length cx4, .slice ax5 i.cost.length cx5] 25] _ := hM
  refine S.val hA (R.assign rfl) rfl ?_; clear hA a; intro a hA
  refine S.done ?_
  replace hA : St 42 [(1, _)] a := hA.sub ((.cons rfl .nil))
  refine Ends.seq ?_
  refine Ends.seq ?_
  refine Ends.region ?_
  refine S.val hA (R.fieldAddr (q := 5) fi25_5 rfl rfl rfl) rfl ?_; clear hA a; intro a hA
  refine S.val hA (R.load sz23 rfl (hM.cell (k := 0) rfl rfl)) rfl ?_; clear hA a; intro a hA
  refine S.val hA (R.lenS Tryd.underlying23 rfl rfl) rfl ?_; clear hA a; intro a hA
  refine S.val hA (R.move rfl) rfl ?_; clear hA a; intro a hA
  refine S.done ?_
  replace hA : St 42 [(1, _), (9, _), (10, _), (11, _)] a := hA.sub ((.cons rfl (.cons rfl (.cons rfl (.cons rfl .nil)))))
  refine Ends.block ?_
  refine Ends.loop (σ := Nat) (fun r (a : Act) (wv : World) => St 42 [(1, .pointer (some ⟨b1, 0, none⟩)), (9, .slice ax5 i.cost.length cx5), (10, .int .i64 ((i.cost.length : Int))), (11, .int .i64 ((r : Int)))] a ∧ Mem w nof [pt b1 #[.int .i64 i.kind, .int .i64 i.n, .int .i64 i.cap, .slice ax3 i.wt.length cx3, .slice ax4 i.vl.length cx4, .slice ax5 i.cost.length cx5] 25] wv ∧ (r ≤ i.n.toNat) ∧ (pfx (fun r => pfx (cellF i r) i.n.toNat) r = 0)) (fun r => i.n.toNat - r) 0 ⟨hA.sub ((.cons rfl (.cons rfl (.cons rfl (.cons rfl .nil))))), hM, (Nat.zero_le _), rfl⟩ ?_
  clear hA hM a
  rintro r a w2 ⟨hA, hM, hr, hr0⟩ hNext
  refine Ends.seq ?_
  refine Ends.region ?_
  refine S.val hA (R.lss rfl rfl) rfl ?_; clear hA a; intro a hA
  refine S.done ?_
  replace hA : St 42 [(1, _), (9, _), (10, _), (11, _), (12, _)] a := hA.sub ((.cons rfl (.cons rfl (.cons rfl (.cons rfl (.cons rfl .nil))))))
  refine Ends.seq ?_
  refine Ends.ite hA rfl (fun hc3 => ?_) (fun hc3 => ?_)
  ·
    have hrl := hsq r (by omega)
    refine Ends.skip ?_
    refine Ends.seq ?_
    refine Ends.block ?_
    refine Ends.seq ?_
    refine Ends.region ?_
    refine S.val hA (R.move rfl) rfl ?_; clear hA a; intro a hA
    refine S.val hA (R.idxR hx5 (j := r) sl23 rfl rfl (by omega) (rfl)) rfl ?_; clear hA a; intro a hA
    obtain ⟨ra4, rc5, hrow6, hld7⟩ := hx5.atP (i := r) (by omega)
    refine S.val hA (hld7 _ _ _ _ _ _ hM sz22 rfl) rfl ?_; clear hA a; intro a hA
    refine S.val hA (R.assign rfl) rfl ?_; clear hA a; intro a hA
    refine S.val hA (R.assign rfl) rfl ?_; clear hA a; intro a hA
    refine S.done ?_
    replace hA : St 42 [(1, _), (3, _), (4, _), (9, _), (10, _), (11, _)] a := hA.sub ((.cons rfl (.cons rfl (.cons rfl (.cons rfl (.cons rfl (.cons rfl .nil)))))))
    refine Ends.seq ?_
    refine Ends.region ?_
    refine S.val hA (R.move rfl) rfl ?_; clear hA a; intro a hA
    refine S.val hA (R.lenS Tryd.underlying22 rfl rfl) rfl ?_; clear hA a; intro a hA
    refine S.val hA (R.move rfl) rfl ?_; clear hA a; intro a hA
    refine S.done ?_
    replace hA : St 42 [(1, _), (3, _), (9, _), (10, _), (11, _), (16, _), (17, _), (18, _)] a := hA.sub ((.cons rfl (.cons rfl (.cons rfl (.cons rfl (.cons rfl (.cons rfl (.cons rfl (.cons rfl .nil)))))))))
    refine Ends.block ?_
    refine Ends.loop (σ := Nat) (fun c_ (a : Act) (wv : World) => St 42 [(1, .pointer (some ⟨b1, 0, none⟩)), (3, .int .i64 ((r : Int))), (9, .slice ax5 i.cost.length cx5), (10, .int .i64 ((i.cost.length : Int))), (11, .int .i64 ((r : Int))), (16, .slice ra4 (((i.cost.getD r [])).length) rc5), (17, .int .i64 ((((i.cost.getD r [])).length : Int))), (18, .int .i64 ((c_ : Int)))] a ∧ Mem w nof [pt b1 #[.int .i64 i.kind, .int .i64 i.n, .int .i64 i.cap, .slice ax3 i.wt.length cx3, .slice ax4 i.vl.length cx4, .slice ax5 i.cost.length cx5] 25] wv ∧ (c_ ≤ i.n.toNat) ∧ (pfx (cellF i r) c_ = 0)) (fun c_ => i.n.toNat - c_) 0 ⟨hA.sub ((.cons rfl (.cons rfl (.cons rfl (.cons rfl (.cons rfl (.cons rfl (.cons rfl (.cons rfl .nil))))))))), hM, (Nat.zero_le _), rfl⟩ ?_
    clear hA hM a
    rintro c_ a w3 ⟨hA, hM, hcn, hc0⟩ hNext1
    refine Ends.seq ?_
    refine Ends.region ?_
    refine S.val hA (R.lss rfl rfl) rfl ?_; clear hA a; intro a hA
    refine S.done ?_
    replace hA : St 42 [(1, _), (3, _), (9, _), (10, _), (11, _), (16, _), (17, _), (18, _), (19, _)] a := hA.sub ((.cons rfl (.cons rfl (.cons rfl (.cons rfl (.cons rfl (.cons rfl (.cons rfl (.cons rfl (.cons rfl .nil))))))))))
    refine Ends.seq ?_
    refine Ends.ite hA rfl (fun hc8 => ?_) (fun hc8 => ?_)
    ·
      refine Ends.skip ?_
      refine Ends.seq ?_
      refine Ends.block ?_
      refine Ends.seq ?_
      refine Ends.region ?_
      refine S.val hA (R.move rfl) rfl ?_; clear hA a; intro a hA
      refine S.val hA (R.idxI hrow6 (j := c_) sl22 rfl rfl (by omega) (rfl)) rfl ?_; clear hA a; intro a hA
      refine S.val hA (R.loadI (hrow6.mem hM) sz3 rfl (by omega)) rfl ?_; clear hA a; intro a hA
      refine S.val hA (R.assign rfl) rfl ?_; clear hA a; intro a hA
      refine S.val hA (R.assign rfl) rfl ?_; clear hA a; intro a hA
      refine S.done ?_
      replace hA : St 42 [(1, _), (3, _), (5, _), (6, _), (9, _), (10, _), (11, _), (16, _), (17, _), (18, _)] a := hA.sub ((.cons rfl (.cons rfl (.cons rfl (.cons rfl (.cons rfl (.cons rfl (.cons rfl (.cons rfl (.cons rfl (.cons rfl .nil)))))))))))
      refine Ends.seq ?_
      refine Ends.seq ?_
      refine Ends.region ?_
      refine S.val hA (R.move rfl) rfl ?_; clear hA a; intro a hA
      refine S.call hA (R.callF Tryd.func58 rfl rfl rfl) rfl (num05 (((i.cost.getD r [])).getD c_ 0) _) ?_; clear hA a
      rintro e w4 ⟨rfl, hb⟩
      replace hM := hM.callB hb; clear hb
      refine ⟨.int .i64 (numE (((i.cost.getD r [])).getD c_ 0)), rfl, fun a hA => ?_⟩
      refine S.val hA (R.assign rfl) rfl ?_; clear hA a; intro a hA
      refine S.done ?_
      replace hA : St 42 [(1, _), (3, _), (5, _), (6, _), (7, _), (9, _), (10, _), (11, _), (16, _), (17, _), (18, _)] a := hA.sub ((.cons rfl (.cons rfl (.cons rfl (.cons rfl (.cons rfl (.cons rfl (.cons rfl (.cons rfl (.cons rfl (.cons rfl (.cons rfl .nil))))))))))))
      refine Ends.seq ?_
      refine Ends.region ?_
      refine S.val hA (R.move rfl) rfl ?_; clear hA a; intro a hA
      refine S.val hA (R.neq rfl rfl) rfl ?_; clear hA a; intro a hA
      refine S.done ?_
      replace hA : St 42 [(1, _), (3, _), (5, _), (6, _), (7, _), (9, _), (10, _), (11, _), (16, _), (17, _), (18, _), (26, _)] a := hA.sub ((.cons rfl (.cons rfl (.cons rfl (.cons rfl (.cons rfl (.cons rfl (.cons rfl (.cons rfl (.cons rfl (.cons rfl (.cons rfl (.cons rfl .nil)))))))))))))
      refine Ends.ite hA rfl (fun hc9 => ?_) (fun hc9 => ?_)
      ·
        refine Ends.seq ?_
        refine Ends.region ?_
        refine S.val hA (R.move rfl) rfl ?_; clear hA a; intro a hA
        refine S.val hA (R.assign rfl) rfl ?_; clear hA a; intro a hA
        refine S.done ?_
        replace hA : St 42 [(1, _), (2, _), (3, _), (5, _), (6, _), (9, _), (10, _), (11, _), (16, _), (17, _), (18, _)] a := hA.sub ((.cons rfl (.cons rfl (.cons rfl (.cons rfl (.cons rfl (.cons rfl (.cons rfl (.cons rfl (.cons rfl (.cons rfl (.cons rfl .nil))))))))))))
        refine Ends.ret1 Tryd.func40 Tryd.results40 hA rfl ?_
        have hce := cellF_e hc9
        have hne : cellF i r c_ ≠ 0 := by rw [hce]; exact hc9
        have hrw := pfx_err hc0 hne (show c_ < i.n.toNat by omega)
        have hfin := pfx_err (f := fun r => pfx (cellF i r) i.n.toNat) hr0 (by show pfx (cellF i r) i.n.toNat ≠ 0; rw [hrw]; exact hne) (show r < i.n.toNat by omega)
        exact ⟨by rw [hfin]; show _ = Ending.returned (.int .i64 (pfx (cellF i r) i.n.toNat)); rw [hrw, hce], Mem.trans0 hbs hM.nilL⟩
      ·
        refine Ends.skip ?_
        refine Ends.seq ?_
        refine Ends.cut (fun (a : Act) (wv : World) => St 42 [(1, .pointer (some ⟨b1, 0, none⟩)), (3, .int .i64 ((r : Int))), (9, .slice ax5 i.cost.length cx5), (10, .int .i64 ((i.cost.length : Int))), (11, .int .i64 ((r : Int))), (16, .slice ra4 (((i.cost.getD r [])).length) rc5), (17, .int .i64 ((((i.cost.getD r [])).length : Int))), (18, .int .i64 ((c_ : Int))), (39, .bool (decide (((i.kind = 3 ∧ ((r : Int)) = ((c_ : Int))) ∧ (((i.cost.getD r [])).getD c_ 0) ≠ 0))))] a ∧ Mem w nof [pt b1 #[.int .i64 i.kind, .int .i64 i.n, .int .i64 i.cap, .slice ax3 i.wt.length cx3, .slice ax4 i.vl.length cx4, .slice ax5 i.cost.length cx5] 25] wv) ?_ (fun k2 hJ => ?_)
        · clear hA hM a; rintro a w5 ⟨hA, hM⟩
          refine Ends.ite hA rfl (fun hc10 => ?_) (fun hc10 => ?_)
          ·
            refine Ends.seq ?_
            refine Ends.region ?_
            refine S.val hA (R.assign rfl) rfl ?_; clear hA a; intro a hA
            refine S.done ?_
            replace hA : St 42 [(1, _), (2, _), (3, _), (9, _), (10, _), (11, _), (16, _), (17, _), (18, _)] a := hA.sub ((.cons rfl (.cons rfl (.cons rfl (.cons rfl (.cons rfl (.cons rfl (.cons rfl (.cons rfl (.cons rfl .nil))))))))))
            refine Ends.ret1 Tryd.func40 Tryd.results40 hA rfl ?_
            have hce := cellF_f hc9 hc10
            have hne : cellF i r c_ ≠ 0 := by rw [hce]; decide
            have hrw := pfx_err hc0 hne (show c_ < i.n.toNat by omega)
            have hfin := pfx_err (f := fun r => pfx (cellF i r) i.n.toNat) hr0 (by show pfx (cellF i r) i.n.toNat ≠ 0; rw [hrw]; exact hne) (show r < i.n.toNat by omega)
            exact ⟨by rw [hfin]; show _ = Ending.returned (.int .i64 (pfx (cellF i r) i.n.toNat)); rw [hrw, hce], Mem.trans0 hbs hM.nilL⟩
          ·
            refine Ends.skip ?_
            refine Ends.inBlock ?_
            refine Ends.region ?_
            refine S.val hA (R.addI rfl rfl (r := ((c_ : Int)) + 1) rfl (by omega)) rfl ?_; clear hA a; intro a hA
            refine S.val hA (R.move rfl) rfl ?_; clear hA a; intro a hA
            refine S.done ?_
            replace hA : St 42 [(1, _), (3, _), (9, _), (10, _), (11, _), (16, _), (17, _), (18, _)] a := hA.sub ((.cons rfl (.cons rfl (.cons rfl (.cons rfl (.cons rfl (.cons rfl (.cons rfl (.cons rfl .nil)))))))))
            exact hNext1 ((c_ + 1)) _ _ ((by show i.n.toNat - (c_ + 1) < i.n.toNat - c_; omega)) ⟨hA.sub ((.cons rfl (.cons rfl (.cons rfl (.cons rfl (.cons rfl (.cons rfl (.cons rfl (.cons rfl .nil))))))))), hM, (by omega), (by rw [pfx_step hc0]; exact cellF_z hc9 hc10)⟩
        ·
          refine Ends.region ?_
          refine S.val hA (R.fieldAddr (q := 0) fi25_0 rfl rfl rfl) rfl ?_; clear hA a; intro a hA
          refine S.val hA (R.load sz3 rfl (hM.cell (k := 0) rfl rfl)) rfl ?_; clear hA a; intro a hA
          refine S.val hA (R.eql rfl rfl) rfl ?_; clear hA a; intro a hA
          refine S.val hA (R.move rfl) rfl ?_; clear hA a; intro a hA
          refine hA.split (d := 31) rfl ?_ ?_
          · clear hA; intro hg11 hA
            refine S.valg (dj := 31) hA (by kernel_rfl) rfl (R.move rfl) rfl ?_; clear hA a; intro a hA
            refine S.valg (dj := 31) hA (by kernel_rfl) rfl (R.move rfl) rfl ?_; clear hA a; intro a hA
            refine S.valg (dj := 31) hA (by kernel_rfl) rfl (R.eql rfl rfl) rfl ?_; clear hA a; intro a hA
            refine S.val hA (R.pickT rfl rfl) rfl ?_; clear hA a; intro a hA
            refine S.val hA (R.move rfl) rfl ?_; clear hA a; intro a hA
            refine hA.split (d := 36) rfl ?_ ?_
            · clear hA; intro hg12 hA
              refine S.valg (dj := 36) hA (by kernel_rfl) rfl (R.move rfl) rfl ?_; clear hA a; intro a hA
              refine S.valg (dj := 36) hA (by kernel_rfl) rfl (R.neq rfl rfl) rfl ?_; clear hA a; intro a hA
              refine S.val hA (R.pickT rfl rfl) rfl ?_; clear hA a; intro a hA
              refine S.done ?_
              replace hA : St 42 [(1, _), (3, _), (9, _), (10, _), (11, _), (16, _), (17, _), (18, _), (39, _)] a := hA.sub ((.cons rfl (.cons rfl (.cons rfl (.cons rfl (.cons rfl (.cons rfl (.cons rfl (.cons rfl (.cons rfl .nil))))))))))
              exact hJ _ _ ⟨hA.sub (.cons rfl (.cons rfl (.cons rfl (.cons rfl (.cons rfl (.cons rfl (.cons rfl (.cons rfl (.cons (by first | rfl | exact congrArg (fun b => some (Value.bool b)) (by first | exact decide_eq_decide.2 (by omega) | exact or_bool (by omega) | exact and_bool (by omega) | (simp; done) | (simp [hg11, hg12]; done) | (have h80 := hg11; (try simp at h80); have h81 := hg12; (try simp at h81); simp [h80, h81]; done) | exact (decide_eq_false (fun h9 => hg11 h9.1)).symm | exact (decide_eq_false (fun h9 => hg12 h9.1)).symm)) .nil))))))))), hM⟩
            · clear hA; intro hg12 hA
              refine S.no (dj := 36) hA (by kernel_rfl) rfl rfl rfl ?_; clear hA a; intro a hA
              refine S.no (dj := 36) hA (by kernel_rfl) rfl rfl rfl ?_; clear hA a; intro a hA
              refine S.val hA (R.pickF rfl rfl) rfl ?_; clear hA a; intro a hA
              refine S.done ?_
              replace hA : St 42 [(1, _), (3, _), (9, _), (10, _), (11, _), (16, _), (17, _), (18, _), (39, _)] a := hA.sub ((.cons rfl (.cons rfl (.cons rfl (.cons rfl (.cons rfl (.cons rfl (.cons rfl (.cons rfl (.cons rfl .nil))))))))))
              exact hJ _ _ ⟨hA.sub (.cons rfl (.cons rfl (.cons rfl (.cons rfl (.cons rfl (.cons rfl (.cons rfl (.cons rfl (.cons (by first | rfl | exact congrArg (fun b => some (Value.bool b)) (by first | exact decide_eq_decide.2 (by omega) | exact or_bool (by omega) | exact and_bool (by omega) | (simp; done) | (simp [hg11, hg12]; done) | (have h80 := hg11; (try simp at h80); have h81 := hg12; (try simp at h81); simp [h80, h81]; done) | exact (decide_eq_false (fun h9 => hg11 h9.1)).symm | exact (decide_eq_false (fun h9 => hg12 h9.1)).symm)) .nil))))))))), hM⟩
          · clear hA; intro hg11 hA
            refine S.no (dj := 31) hA (by kernel_rfl) rfl rfl rfl ?_; clear hA a; intro a hA
            refine S.no (dj := 31) hA (by kernel_rfl) rfl rfl rfl ?_; clear hA a; intro a hA
            refine S.no (dj := 31) hA (by kernel_rfl) rfl rfl rfl ?_; clear hA a; intro a hA
            refine S.val hA (R.pickF rfl rfl) rfl ?_; clear hA a; intro a hA
            refine S.val hA (R.move rfl) rfl ?_; clear hA a; intro a hA
            refine S.no (dj := 36) hA (by kernel_rfl) rfl rfl rfl ?_; clear hA a; intro a hA
            refine S.no (dj := 36) hA (by kernel_rfl) rfl rfl rfl ?_; clear hA a; intro a hA
            refine S.val hA (R.pickF rfl rfl) rfl ?_; clear hA a; intro a hA
            refine S.done ?_
            replace hA : St 42 [(1, _), (3, _), (9, _), (10, _), (11, _), (16, _), (17, _), (18, _), (39, _)] a := hA.sub ((.cons rfl (.cons rfl (.cons rfl (.cons rfl (.cons rfl (.cons rfl (.cons rfl (.cons rfl (.cons rfl .nil))))))))))
            exact hJ _ _ ⟨hA.sub (.cons rfl (.cons rfl (.cons rfl (.cons rfl (.cons rfl (.cons rfl (.cons rfl (.cons rfl (.cons (by first | rfl | exact congrArg (fun b => some (Value.bool b)) (by first | exact decide_eq_decide.2 (by omega) | exact or_bool (by omega) | exact and_bool (by omega) | (simp; done) | (simp [hg11]; done) | (have h80 := hg11; (try simp at h80); simp [h80]; done) | exact (decide_eq_false (fun h9 => hg11 h9.1)).symm)) .nil))))))))), hM⟩
    ·
      have hrz : pfx (cellF i r) i.n.toNat = 0 := by rw [show i.n.toNat = c_ by omega]; exact hc0
      refine Ends.exit rfl ?_
      replace hA : St 42 [(1, _), (9, _), (10, _), (11, _)] a := hA.sub ((.cons rfl (.cons rfl (.cons rfl (.cons rfl .nil)))))
      refine Ends.inBlock ?_
      refine Ends.region ?_
      refine S.val hA (R.addI rfl rfl (r := ((r : Int)) + 1) rfl (by omega)) rfl ?_; clear hA a; intro a hA
      refine S.val hA (R.move rfl) rfl ?_; clear hA a; intro a hA
      refine S.done ?_
      replace hA : St 42 [(1, _), (9, _), (10, _), (11, _)] a := hA.sub ((.cons rfl (.cons rfl (.cons rfl (.cons rfl .nil)))))
      exact hNext ((r + 1)) _ _ ((by show i.n.toNat - (r + 1) < i.n.toNat - r; omega)) ⟨hA.sub ((.cons rfl (.cons rfl (.cons rfl (.cons rfl .nil))))), hM, (by omega), (by rw [pfx_step hr0]; exact hrz)⟩
  ·
    refine Ends.exit rfl ?_
    replace hA : St 42 [] a := hA.sub (.nil)
    refine Ends.seq ?_
    refine Ends.region ?_
    refine S.val hA (R.assign rfl) rfl ?_; clear hA a; intro a hA
    refine S.done ?_
    replace hA : St 42 [(2, _)] a := hA.sub ((.cons rfl .nil))
    refine Ends.ret1 Tryd.func40 Tryd.results40 hA rfl ?_
    have hfin := hr0
    rw [show r = i.n.toNat by omega] at hfin
    exact ⟨by rw [hfin], Mem.trans0 hbs hM.nilL⟩
instance (i : Ins) : Decidable (shapeOK i) := by unfold shapeOK; infer_instance
def chk (i : Ins) : Int := if sizeE i ≠ 0 then sizeE i else if shapeOK i then numsE i else 8
theorem chk_size {i : Ins} (h : sizeE i ≠ 0) : chk i = sizeE i := if_pos h
theorem chk_shape {i : Ins} (h : sizeE i = 0) (h2 : ¬ shapeOK i) : chk i = 8 := by unfold chk; rw [if_neg (by rw [h]; simp), if_neg h2]
theorem chk_items {i : Ins} (h : sizeE i = 0) (h2 : shapeOK i) (hk : i.kind = 1) : chk i = if numE i.cap ≠ 0 then numE i.cap else pfx (itF i) i.n.toNat := by unfold chk numsE; rw [if_neg (by rw [h]; simp), if_pos h2, if_pos hk]
theorem chk_rows {i : Ins} (h : sizeE i = 0) (h2 : shapeOK i) (hk : ¬ i.kind = 1) : chk i = pfx (fun r => pfx (cellF i r) i.n.toNat) i.n.toNat := by unfold chk numsE; rw [if_neg (by rw [h]; simp), if_pos h2, if_neg hk]
theorem shape_items {i : Ins} (h2 : shapeOK i) (hk : i.kind = 1) : (i.wt.length : Int) = i.n ∧ (i.vl.length : Int) = i.n ∧ i.cost.length = 0 := by
  rcases h2 with h | h
  · exact h.2
  · exact absurd hk h.1
theorem shape_rows {i : Ins} (h2 : shapeOK i) (hk : ¬ i.kind = 1) : (i.cost.length : Int) = i.n ∧ i.cap = 0 ∧ i.wt.length = 0 ∧ i.vl.length = 0 ∧ ∀ r, r < i.cost.length → ((i.cost.getD r []).length : Int) = i.n := by
  rcases h2 with h | h
  · exact absurd h.1 hk
  · exact h.2
set_option maxRecDepth 100000 in
set_option maxHeartbeats 400000 in
theorem check05 (i : Ins) (ax3 : Option Addr) (cx3 : Nat) (ax4 : Option Addr) (cx4 : Nat) (ax5 : Option Addr) (cx5 : Nat) (hsm : i.wt.length ≤ 1000000 ∧ i.vl.length ≤ 1000000) (w : World) (hx3 : IntSl w (.slice ax3 i.wt.length cx3) i.wt) (hx4 : IntSl w (.slice ax4 i.vl.length cx4) i.vl) (hx5 : RowsV w (.slice ax5 i.cost.length cx5) i.cost) :
    Calls Tryd.prog 18 #[.agg #[.int .i64 i.kind, .int .i64 i.n, .int .i64 i.cap, .slice ax3 i.wt.length cx3, .slice ax4 i.vl.length cx4, .slice ax5 i.cost.length cx5]] w fun e w' => e = .returned (.int .i64 (chk i)) ∧ Below w.heap.size w w' := by
  have hbs := Below.refl (B := w.heap.size) w
  have hM := Mem.start w
  refine Calls.of_ends (vs := [.agg #[.int .i64 i.kind, .int .i64 i.n, .int .i64 i.cap, .slice ax3 i.wt.length cx3, .slice ax4 i.vl.length cx4, .slice ax5 i.cost.length cx5]]) Tryd.func18 rfl Tryd.ntmps18 rfl ?_
  intro a hA
  replace hA : St 21 [(0, _)] a := hA
  refine Ends.seq ?_
  refine Ends.region ?_
  refine S.box hA hM rfl rfl ?_; clear hA hM a; intro b1 w1 hb2 hM a hA
  replace hM : Mem _ _ [pt b1 #[.int .i64 i.kind, .int .i64 i.n, .int .i64 i.cap, .slice ax3 i.wt.length cx3, .slice ax4 i.vl.length cx4, .slice ax5 i.cost.length cx5] 25] _ := hM
  refine S.val hA (R.assign rfl) rfl ?_; clear hA a; intro a hA
  refine S.done ?_
  replace hA : St 21 [(1, _)] a := hA.sub ((.cons rfl .nil))
  refine Ends.seq ?_
  refine Ends.seq ?_
  refine Ends.region ?_
  refine S.val hA (R.loadA sz25 rfl (hM.range (k := 0) rfl) rfl) rfl ?_; clear hA a; intro a hA
  refine S.call hA (R.callF Tryd.func37 rfl rfl rfl) rfl (size05 i ax3 cx3 ax4 cx4 ax5 cx5 _ (hx3.mem hM) (hx4.mem hM) (hx5.mem hM)) ?_; clear hA a
  rintro e w2 ⟨rfl, hb⟩
  replace hM := hM.callB hb; clear hb
  refine ⟨.int .i64 (sizeE i), rfl, fun a hA => ?_⟩
  refine S.val hA (R.assign rfl) rfl ?_; clear hA a; intro a hA
  refine S.done ?_
  replace hA : St 21 [(1, _), (3, _)] a := hA.sub ((.cons rfl (.cons rfl .nil)))
  refine Ends.seq ?_
  refine Ends.region ?_
  refine S.val hA (R.move rfl) rfl ?_; clear hA a; intro a hA
  refine S.val hA (R.neq rfl rfl) rfl ?_; clear hA a; intro a hA
  refine S.done ?_
  replace hA : St 21 [(1, _), (3, _), (7, _)] a := hA.sub ((.cons rfl (.cons rfl (.cons rfl .nil))))
  refine Ends.ite hA rfl (fun hc3 => ?_) (fun hc3 => ?_)
  ·
    refine Ends.seq ?_
    refine Ends.region ?_
    refine S.val hA (R.move rfl) rfl ?_; clear hA a; intro a hA
    refine S.val hA (R.assign rfl) rfl ?_; clear hA a; intro a hA
    refine S.done ?_
    replace hA : St 21 [(1, _), (2, _)] a := hA.sub ((.cons rfl (.cons rfl .nil)))
    refine Ends.ret1 Tryd.func18 Tryd.results18 hA rfl ?_
    exact ⟨by rw [chk_size hc3], Mem.trans0 hbs hM.nilL⟩
  ·
    have hs0 : sizeE i = 0 := Decidable.not_not.1 hc3
    refine Ends.skip ?_
    refine Ends.seq ?_
    refine Ends.block ?_
    refine Ends.seq ?_
    refine Ends.region ?_
    refine S.val hA (R.loadA sz25 rfl (hM.range (k := 0) rfl) rfl) rfl ?_; clear hA a; intro a hA
    refine S.call hA (R.callF Tryd.func38 rfl rfl rfl) rfl (shape05 i ax3 cx3 ax4 cx4 ax5 cx5 hsm _ (hx3.mem hM) (hx4.mem hM) (hx5.mem hM)) ?_; clear hA a
    rintro e w3 ⟨bs4, rfl, hbs_5, hb⟩
    replace hM := hM.callB hb; clear hb
    refine ⟨.bool bs4, rfl, fun a hA => ?_⟩
    refine S.val hA (R.not rfl) rfl ?_; clear hA a; intro a hA
    refine S.val hA (R.assign rfl) rfl ?_; clear hA a; intro a hA
    refine S.done ?_
    replace hA : St 21 [(1, _), (9, _)] a := hA.sub ((.cons rfl (.cons rfl .nil)))
    refine Ends.iteB hA rfl (fun hc6 => ?_) (fun hc6 => ?_)
    ·
      have hns : ¬ shapeOK i := fun h9 => by have h8 := hbs_5.2 h9; rw [h8] at hc6; cases hc6
      refine Ends.seq ?_
      refine Ends.region ?_
      refine S.val hA (R.assign rfl) rfl ?_; clear hA a; intro a hA
      refine S.done ?_
      replace hA : St 21 [(1, _), (2, _)] a := hA.sub ((.cons rfl (.cons rfl .nil)))
      refine Ends.ret1 Tryd.func18 Tryd.results18 hA rfl ?_
      exact ⟨by rw [chk_shape hs0 hns], Mem.trans0 hbs hM.nilL⟩
    ·
      have hss : shapeOK i := hbs_5.1 (by simpa using hc6)
      refine Ends.seq ?_
      refine Ends.region ?_
      refine S.val hA (R.fieldAddr (q := 0) fi25_0 rfl rfl rfl) rfl ?_; clear hA a; intro a hA
      refine S.val hA (R.load sz3 rfl (hM.cell (k := 0) rfl rfl)) rfl ?_; clear hA a; intro a hA
      refine S.val hA (R.eql rfl rfl) rfl ?_; clear hA a; intro a hA
      refine S.val hA (R.assign rfl) rfl ?_; clear hA a; intro a hA
      refine S.done ?_
      replace hA : St 21 [(1, _), (13, _)] a := hA.sub ((.cons rfl (.cons rfl .nil)))
      refine Ends.ite hA rfl (fun hc7 => ?_) (fun hc7 => ?_)
      ·
        have hsp := shape_items hss hc7
        have hkd := hc7
        refine Ends.seq ?_
        refine Ends.region ?_
        refine S.val hA (R.loadA sz25 rfl (hM.range (k := 0) rfl) rfl) rfl ?_; clear hA a; intro a hA
        refine S.call hA (R.callF Tryd.func39 rfl rfl rfl) rfl (items05 i ax3 cx3 ax4 cx4 ax5 cx5 ⟨hsp.1, hsp.2.1⟩ _ (hx3.mem hM) (hx4.mem hM) (hx5.mem hM)) ?_; clear hA a
        rintro e w4 ⟨rfl, hb⟩
        replace hM := hM.callB hb; clear hb
        refine ⟨.int .i64 (if numE i.cap ≠ 0 then numE i.cap else pfx (itF i) i.n.toNat), rfl, fun a hA => ?_⟩
        refine S.val hA (R.assign rfl) rfl ?_; clear hA a; intro a hA
        refine S.done ?_
        replace hA : St 21 [(1, _), (2, _)] a := hA.sub ((.cons rfl (.cons rfl .nil)))
        refine Ends.ret1 Tryd.func18 Tryd.results18 hA rfl ?_
        exact ⟨by rw [chk_items hs0 hss hkd], Mem.trans0 hbs hM.nilL⟩
      ·
        have hsp := shape_rows hss hc7
        have hkd := hc7
        refine Ends.skip ?_
        refine Ends.inBlock ?_
        refine Ends.seq ?_
        refine Ends.region ?_
        refine S.val hA (R.loadA sz25 rfl (hM.range (k := 0) rfl) rfl) rfl ?_; clear hA a; intro a hA
        refine S.call hA (R.callF Tryd.func40 rfl rfl rfl) rfl (rows05 i ax3 cx3 ax4 cx4 ax5 cx5 hsp.2.2.2.2 hsp.1 _ (hx3.mem hM) (hx4.mem hM) (hx5.mem hM)) ?_; clear hA a
        rintro e w5 ⟨rfl, hb⟩
        replace hM := hM.callB hb; clear hb
        refine ⟨.int .i64 (pfx (fun r => pfx (cellF i r) i.n.toNat) i.n.toNat), rfl, fun a hA => ?_⟩
        refine S.val hA (R.assign rfl) rfl ?_; clear hA a; intro a hA
        refine S.done ?_
        replace hA : St 21 [(2, _)] a := hA.sub ((.cons rfl .nil))
        refine Ends.ret1 Tryd.func18 Tryd.results18 hA rfl ?_
        exact ⟨by rw [chk_rows hs0 hss hkd], Mem.trans0 hbs hM.nilL⟩
set_option maxRecDepth 100000 in
set_option maxHeartbeats 400000 in
theorem rcheck05 (i : Ins) (ax3 : Option Addr) (cx3 : Nat) (ax4 : Option Addr) (cx4 : Nat) (ax5 : Option Addr) (cx5 : Nat) (w : World) (hx3 : IntSl w (.slice ax3 i.wt.length cx3) i.wt) (hx4 : IntSl w (.slice ax4 i.vl.length cx4) i.vl) (hx5 : RowsV w (.slice ax5 i.cost.length cx5) i.cost) :
    Calls Tryd.prog 19 #[.agg #[.int .i64 i.kind, .int .i64 i.n, .int .i64 i.cap, .slice ax3 i.wt.length cx3, .slice ax4 i.vl.length cx4, .slice ax5 i.cost.length cx5]] w fun e w' => e = .returned (.int .i64 (chk i)) ∧ Below w.heap.size w w' := by
  have hbs := Below.refl (B := w.heap.size) w
  have hl3 := hx3.lenB
  have hl4 := hx4.lenB
  have hl5 := hx5.lenB
  have hM := Mem.start w
  refine Calls.of_ends (vs := [.agg #[.int .i64 i.kind, .int .i64 i.n, .int .i64 i.cap, .slice ax3 i.wt.length cx3, .slice ax4 i.vl.length cx4, .slice ax5 i.cost.length cx5]]) Tryd.func19 rfl Tryd.ntmps19 rfl ?_
  intro a hA
  replace hA : St 174 [(0, _)] a := hA
  refine Ends.seq ?_
  refine Ends.region ?_
  refine S.box hA hM rfl rfl ?_; clear hA hM a; intro b1 w1 hb2 hM a hA
  replace hM : Mem _ _ [pt b1 #[.int .i64 i.kind, .int .i64 i.n, .int .i64 i.cap, .slice ax3 i.wt.length cx3, .slice ax4 i.vl.length cx4, .slice ax5 i.cost.length cx5] 25] _ := hM
  refine S.val hA (R.assign rfl) rfl ?_; clear hA a; intro a hA
  refine S.done ?_
  replace hA : St 174 [(1, _)] a := hA.sub ((.cons rfl .nil))
  refine Ends.seq ?_
  refine Ends.seq ?_
  refine Ends.cut (fun (a : Act) (wv : World) => St 174 [(1, .pointer (some ⟨b1, 0, none⟩)), (18, .bool (decide ((i.kind < 1 ∨ 3 < i.kind))))] a ∧ Mem w nof [pt b1 #[.int .i64 i.kind, .int .i64 i.n, .int .i64 i.cap, .slice ax3 i.wt.length cx3, .slice ax4 i.vl.length cx4, .slice ax5 i.cost.length cx5] 25] wv) ?_ (fun k2 hJ => ?_)
  · clear hA hM a; rintro a w2 ⟨hA, hM⟩
    refine Ends.ite hA rfl (fun hc3 => ?_) (fun hc3 => ?_)
    ·
      refine Ends.seq ?_
      refine Ends.region ?_
      refine S.val hA (R.assign rfl) rfl ?_; clear hA a; intro a hA
      refine S.done ?_
      replace hA : St 174 [(1, _), (2, _)] a := hA.sub ((.cons rfl (.cons rfl .nil)))
      refine Ends.ret1 Tryd.func19 Tryd.results19 hA rfl ?_
      have he : sizeE i = 14 := by unfold sizeE; (repeat' split) <;> omega
      exact ⟨by rw [chk_size (by rw [he]; decide), he], Mem.trans0 hbs hM.nilL⟩
    ·
      refine Ends.skip ?_
      refine Ends.seq ?_
      refine Ends.seq ?_
      refine Ends.region ?_
      refine S.val hA (R.fieldAddr (q := 1) fi25_1 rfl rfl rfl) rfl ?_; clear hA a; intro a hA
      refine S.val hA (R.load sz3 rfl (hM.cell (k := 0) rfl rfl)) rfl ?_; clear hA a; intro a hA
      refine S.val hA (R.lss rfl rfl) rfl ?_; clear hA a; intro a hA
      refine S.done ?_
      replace hA : St 174 [(1, _), (21, _)] a := hA.sub ((.cons rfl (.cons rfl .nil)))
      refine Ends.ite hA rfl (fun hc4 => ?_) (fun hc4 => ?_)
      ·
        refine Ends.seq ?_
        refine Ends.region ?_
        refine S.val hA (R.assign rfl) rfl ?_; clear hA a; intro a hA
        refine S.done ?_
        replace hA : St 174 [(1, _), (2, _)] a := hA.sub ((.cons rfl (.cons rfl .nil)))
        refine Ends.ret1 Tryd.func19 Tryd.results19 hA rfl ?_
        have he : sizeE i = 1 := by unfold sizeE; (repeat' split) <;> omega
        exact ⟨by rw [chk_size (by rw [he]; decide), he], Mem.trans0 hbs hM.nilL⟩
      ·
        refine Ends.skip ?_
        refine Ends.seq ?_
        refine Ends.seq ?_
        refine Ends.cut (fun (a : Act) (wv : World) => St 174 [(1, .pointer (some ⟨b1, 0, none⟩)), (39, .bool (decide (((i.kind = 1 ∧ 64 < i.n) ∨ (1 < i.kind ∧ 24 < i.n)))))] a ∧ Mem w nof [pt b1 #[.int .i64 i.kind, .int .i64 i.n, .int .i64 i.cap, .slice ax3 i.wt.length cx3, .slice ax4 i.vl.length cx4, .slice ax5 i.cost.length cx5] 25] wv) ?_ (fun k2 hJ => ?_)
        · clear hA hM a; rintro a w3 ⟨hA, hM⟩
          refine Ends.ite hA rfl (fun hc5 => ?_) (fun hc5 => ?_)
          ·
            refine Ends.seq ?_
            refine Ends.region ?_
            refine S.val hA (R.assign rfl) rfl ?_; clear hA a; intro a hA
            refine S.done ?_
            replace hA : St 174 [(1, _), (2, _)] a := hA.sub ((.cons rfl (.cons rfl .nil)))
            refine Ends.ret1 Tryd.func19 Tryd.results19 hA rfl ?_
            have he : sizeE i = 5 := by unfold sizeE; (repeat' split) <;> omega
            exact ⟨by rw [chk_size (by rw [he]; decide), he], Mem.trans0 hbs hM.nilL⟩
          ·
            have hs0 : sizeE i = 0 := by unfold sizeE; (repeat' split) <;> omega
            refine Ends.skip ?_
            refine Ends.seq ?_
            refine Ends.seq ?_
            refine Ends.region ?_
            refine S.val hA (R.fieldAddr (q := 0) fi25_0 rfl rfl rfl) rfl ?_; clear hA a; intro a hA
            refine S.val hA (R.load sz3 rfl (hM.cell (k := 0) rfl rfl)) rfl ?_; clear hA a; intro a hA
            refine S.val hA (R.eql rfl rfl) rfl ?_; clear hA a; intro a hA
            refine S.done ?_
            replace hA : St 174 [(1, _), (42, _)] a := hA.sub ((.cons rfl (.cons rfl .nil)))
            refine Ends.ite hA rfl (fun hc6 => ?_) (fun hc6 => ?_)
            ·
              refine Ends.seq ?_
              refine Ends.seq ?_
              refine Ends.cut (fun (a : Act) (wv : World) => St 174 [(1, .pointer (some ⟨b1, 0, none⟩)), (62, .bool (decide (((((i.wt.length : Int)) ≠ i.n ∨ ((i.vl.length : Int)) ≠ i.n) ∨ ((i.cost.length : Int)) ≠ 0))))] a ∧ Mem w nof [pt b1 #[.int .i64 i.kind, .int .i64 i.n, .int .i64 i.cap, .slice ax3 i.wt.length cx3, .slice ax4 i.vl.length cx4, .slice ax5 i.cost.length cx5] 25] wv) ?_ (fun k2 hJ => ?_)
              · clear hA hM a; rintro a w4 ⟨hA, hM⟩
                refine Ends.ite hA rfl (fun hc7 => ?_) (fun hc7 => ?_)
                ·
                  refine Ends.seq ?_
                  refine Ends.region ?_
                  refine S.val hA (R.assign rfl) rfl ?_; clear hA a; intro a hA
                  refine S.done ?_
                  replace hA : St 174 [(1, _), (2, _)] a := hA.sub ((.cons rfl (.cons rfl .nil)))
                  refine Ends.ret1 Tryd.func19 Tryd.results19 hA rfl ?_
                  have hns : ¬ shapeOK i := by
                    unfold shapeOK
                    rintro (g | ⟨q1, q2, q3, q4, q5, -⟩)
                    · omega
                    · omega
                  exact ⟨by rw [chk_shape hs0 hns], Mem.trans0 hbs hM.nilL⟩
                ·
                  have hss : shapeOK i := .inl ⟨by omega, by omega, by omega, by omega⟩
                  have hsp := shape_items hss (by omega)
                  refine Ends.skip ?_
                  refine Ends.seq ?_
                  refine Ends.seq ?_
                  refine Ends.region ?_
                  refine S.val hA (R.fieldAddr (q := 2) fi25_2 rfl rfl rfl) rfl ?_; clear hA a; intro a hA
                  refine S.val hA (R.load sz3 rfl (hM.cell (k := 0) rfl rfl)) rfl ?_; clear hA a; intro a hA
                  refine S.call hA (R.callF Tryd.func41 rfl rfl rfl) rfl (rnum05 i.cap _) ?_; clear hA a
                  rintro e w5 ⟨rfl, hb⟩
                  replace hM := hM.callB hb; clear hb
                  refine ⟨.int .i64 (numE i.cap), rfl, fun a hA => ?_⟩
                  refine S.val hA (R.assign rfl) rfl ?_; clear hA a; intro a hA
                  refine S.done ?_
                  replace hA : St 174 [(1, _), (3, _)] a := hA.sub ((.cons rfl (.cons rfl .nil)))
                  refine Ends.seq ?_
                  refine Ends.region ?_
                  refine S.val hA (R.move rfl) rfl ?_; clear hA a; intro a hA
                  refine S.val hA (R.neq rfl rfl) rfl ?_; clear hA a; intro a hA
                  refine S.done ?_
                  replace hA : St 174 [(1, _), (3, _), (67, _)] a := hA.sub ((.cons rfl (.cons rfl (.cons rfl .nil))))
                  refine Ends.ite hA rfl (fun hc8 => ?_) (fun hc8 => ?_)
                  ·
                    refine Ends.seq ?_
                    refine Ends.region ?_
                    refine S.val hA (R.move rfl) rfl ?_; clear hA a; intro a hA
                    refine S.val hA (R.assign rfl) rfl ?_; clear hA a; intro a hA
                    refine S.done ?_
                    replace hA : St 174 [(1, _), (2, _)] a := hA.sub ((.cons rfl (.cons rfl .nil)))
                    refine Ends.ret1 Tryd.func19 Tryd.results19 hA rfl ?_
                    exact ⟨by rw [chk_items hs0 hss (by omega), if_pos hc8], Mem.trans0 hbs hM.nilL⟩
                  ·
                    refine Ends.skip ?_
                    refine Ends.seq ?_
                    refine Ends.seq ?_
                    refine Ends.region ?_
                    refine S.val hA (R.assign rfl) rfl ?_; clear hA a; intro a hA
                    refine S.done ?_
                    replace hA : St 174 [(1, _), (4, _)] a := hA.sub ((.cons rfl (.cons rfl .nil)))
                    refine Ends.block ?_
                    refine Ends.loop (σ := Nat) (fun k (a : Act) (wv : World) => St 174 [(1, .pointer (some ⟨b1, 0, none⟩)), (4, .int .i64 ((k : Int)))] a ∧ Mem w nof [pt b1 #[.int .i64 i.kind, .int .i64 i.n, .int .i64 i.cap, .slice ax3 i.wt.length cx3, .slice ax4 i.vl.length cx4, .slice ax5 i.cost.length cx5] 25] wv ∧ (k ≤ i.n.toNat) ∧ (pfx (itF i) k = 0)) (fun k => i.n.toNat - k) 0 ⟨hA.sub ((.cons rfl (.cons rfl .nil))), hM, (Nat.zero_le _), rfl⟩ ?_
                    clear hA hM a
                    rintro k a w6 ⟨hA, hM, hk, hp0⟩ hNext
                    refine Ends.seq ?_
                    refine Ends.seq ?_
                    refine Ends.region ?_
                    refine S.val hA (R.move rfl) rfl ?_; clear hA a; intro a hA
                    refine S.val hA (R.fieldAddr (q := 1) fi25_1 rfl rfl rfl) rfl ?_; clear hA a; intro a hA
                    refine S.val hA (R.load sz3 rfl (hM.cell (k := 0) rfl rfl)) rfl ?_; clear hA a; intro a hA
                    refine S.val hA (R.lss rfl rfl) rfl ?_; clear hA a; intro a hA
                    refine S.done ?_
                    replace hA : St 174 [(1, _), (4, _), (72, _)] a := hA.sub ((.cons rfl (.cons rfl (.cons rfl .nil))))
                    refine Ends.ite hA rfl (fun hc9 => ?_) (fun hc9 => ?_)
                    ·
                      refine Ends.skip ?_
                      refine Ends.seq ?_
                      refine Ends.block ?_
                      refine Ends.seq ?_
                      refine Ends.seq ?_
                      refine Ends.region ?_
                      refine S.val hA (R.fieldAddr (q := 3) fi25_3 rfl rfl rfl) rfl ?_; clear hA a; intro a hA
                      refine S.val hA (R.load sz22 rfl (hM.cell (k := 0) rfl rfl)) rfl ?_; clear hA a; intro a hA
                      refine S.val hA (R.move rfl) rfl ?_; clear hA a; intro a hA
                      refine S.val hA (R.idxI hx3 (j := k) sl22 rfl rfl (by omega) (rfl)) rfl ?_; clear hA a; intro a hA
                      refine S.val hA (R.loadI (hx3.mem hM) sz3 rfl (by omega)) rfl ?_; clear hA a; intro a hA
                      refine S.call hA (R.callF Tryd.func41 rfl rfl rfl) rfl (rnum05 (i.wt.getD k 0) _) ?_; clear hA a
                      rintro e w7 ⟨rfl, hb⟩
                      replace hM := hM.callB hb; clear hb
                      refine ⟨.int .i64 (numE (i.wt.getD k 0)), rfl, fun a hA => ?_⟩
                      refine S.val hA (R.assign rfl) rfl ?_; clear hA a; intro a hA
                      refine S.done ?_
                      replace hA : St 174 [(1, _), (4, _), (5, _)] a := hA.sub ((.cons rfl (.cons rfl (.cons rfl .nil))))
                      refine Ends.seq ?_
                      refine Ends.region ?_
                      refine S.val hA (R.move rfl) rfl ?_; clear hA a; intro a hA
                      refine S.val hA (R.neq rfl rfl) rfl ?_; clear hA a; intro a hA
                      refine S.done ?_
                      replace hA : St 174 [(1, _), (4, _), (5, _), (82, _)] a := hA.sub ((.cons rfl (.cons rfl (.cons rfl (.cons rfl .nil)))))
                      refine Ends.ite hA rfl (fun hc10 => ?_) (fun hc10 => ?_)
                      ·
                        refine Ends.seq ?_
                        refine Ends.region ?_
                        refine S.val hA (R.move rfl) rfl ?_; clear hA a; intro a hA
                        refine S.val hA (R.assign rfl) rfl ?_; clear hA a; intro a hA
                        refine S.done ?_
                        replace hA : St 174 [(1, _), (2, _), (4, _)] a := hA.sub ((.cons rfl (.cons rfl (.cons rfl .nil))))
                        refine Ends.ret1 Tryd.func19 Tryd.results19 hA rfl ?_
                        have hpe := pfx_err hp0 (by rw [itF_e hc10]; exact hc10) (show k < i.n.toNat by omega)
                        rw [itF_e hc10] at hpe
                        exact ⟨by rw [chk_items hs0 hss (by omega), if_neg hc8, hpe], Mem.trans0 hbs hM.nilL⟩
                      ·
                        refine Ends.skip ?_
                        refine Ends.seq ?_
                        refine Ends.region ?_
                        refine S.val hA (R.fieldAddr (q := 4) fi25_4 rfl rfl rfl) rfl ?_; clear hA a; intro a hA
                        refine S.val hA (R.load sz22 rfl (hM.cell (k := 0) rfl rfl)) rfl ?_; clear hA a; intro a hA
                        refine S.val hA (R.move rfl) rfl ?_; clear hA a; intro a hA
                        refine S.val hA (R.idxI hx4 (j := k) sl22 rfl rfl (by omega) (rfl)) rfl ?_; clear hA a; intro a hA
                        refine S.val hA (R.loadI (hx4.mem hM) sz3 rfl (by omega)) rfl ?_; clear hA a; intro a hA
                        refine S.call hA (R.callF Tryd.func41 rfl rfl rfl) rfl (rnum05 (i.vl.getD k 0) _) ?_; clear hA a
                        rintro e w8 ⟨rfl, hb⟩
                        replace hM := hM.callB hb; clear hb
                        refine ⟨.int .i64 (numE (i.vl.getD k 0)), rfl, fun a hA => ?_⟩
                        refine S.val hA (R.assign rfl) rfl ?_; clear hA a; intro a hA
                        refine S.done ?_
                        replace hA : St 174 [(1, _), (4, _), (6, _)] a := hA.sub ((.cons rfl (.cons rfl (.cons rfl .nil))))
                        refine Ends.seq ?_
                        refine Ends.region ?_
                        refine S.val hA (R.move rfl) rfl ?_; clear hA a; intro a hA
                        refine S.val hA (R.neq rfl rfl) rfl ?_; clear hA a; intro a hA
                        refine S.done ?_
                        replace hA : St 174 [(1, _), (4, _), (6, _), (91, _)] a := hA.sub ((.cons rfl (.cons rfl (.cons rfl (.cons rfl .nil)))))
                        refine Ends.ite hA rfl (fun hc11 => ?_) (fun hc11 => ?_)
                        ·
                          refine Ends.seq ?_
                          refine Ends.region ?_
                          refine S.val hA (R.move rfl) rfl ?_; clear hA a; intro a hA
                          refine S.val hA (R.assign rfl) rfl ?_; clear hA a; intro a hA
                          refine S.done ?_
                          replace hA : St 174 [(1, _), (2, _), (4, _)] a := hA.sub ((.cons rfl (.cons rfl (.cons rfl .nil))))
                          refine Ends.ret1 Tryd.func19 Tryd.results19 hA rfl ?_
                          have hiz := itF_z (Decidable.not_not.1 hc10)
                          have hpe := pfx_err hp0 (by rw [hiz]; exact hc11) (show k < i.n.toNat by omega)
                          rw [hiz] at hpe
                          exact ⟨by rw [chk_items hs0 hss (by omega), if_neg hc8, hpe], Mem.trans0 hbs hM.nilL⟩
                        ·
                          refine Ends.skip ?_
                          refine Ends.inBlock ?_
                          refine Ends.region ?_
                          refine S.val hA (R.move rfl) rfl ?_; clear hA a; intro a hA
                          refine S.val hA (R.addI rfl rfl (r := ((k : Int)) + 1) rfl (by omega)) rfl ?_; clear hA a; intro a hA
                          refine S.val hA (R.assign rfl) rfl ?_; clear hA a; intro a hA
                          refine S.done ?_
                          replace hA : St 174 [(1, _), (4, _)] a := hA.sub ((.cons rfl (.cons rfl .nil)))
                          exact hNext ((k + 1)) _ _ ((by show i.n.toNat - (k + 1) < i.n.toNat - k; omega)) ⟨hA.sub ((.cons rfl (.cons rfl .nil))), hM, (by omega), (by rw [pfx_step hp0, itF_z (Decidable.not_not.1 hc10)]; exact Decidable.not_not.1 hc11)⟩
                    ·
                      refine Ends.exit rfl ?_
                      replace hA : St 174 [(1, _)] a := hA.sub ((.cons rfl .nil))
                      refine Ends.seq ?_
                      refine Ends.region ?_
                      refine S.val hA (R.assign rfl) rfl ?_; clear hA a; intro a hA
                      refine S.done ?_
                      replace hA : St 174 [(1, _), (2, _)] a := hA.sub ((.cons rfl (.cons rfl .nil)))
                      refine Ends.ret1 Tryd.func19 Tryd.results19 hA rfl ?_
                      rw [show k = i.n.toNat by omega] at hp0
                      exact ⟨by rw [chk_items hs0 hss (by omega), if_neg hc8, hp0], Mem.trans0 hbs hM.nilL⟩
              ·
                refine Ends.region ?_
                refine S.val hA (R.fieldAddr (q := 3) fi25_3 rfl rfl rfl) rfl ?_; clear hA a; intro a hA
                refine S.val hA (R.load sz22 rfl (hM.cell (k := 0) rfl rfl)) rfl ?_; clear hA a; intro a hA
                refine S.val hA (R.lenS Tryd.underlying22 rfl rfl) rfl ?_; clear hA a; intro a hA
                refine S.val hA (R.fieldAddr (q := 1) fi25_1 rfl rfl rfl) rfl ?_; clear hA a; intro a hA
                refine S.val hA (R.load sz3 rfl (hM.cell (k := 0) rfl rfl)) rfl ?_; clear hA a; intro a hA
                refine S.val hA (R.neq rfl rfl) rfl ?_; clear hA a; intro a hA
                refine S.val hA (R.move rfl) rfl ?_; clear hA a; intro a hA
                refine hA.split (d := 49) rfl ?_ ?_
                · clear hA; intro hg12 hA
                  refine S.no (dj := 49) hA (by kernel_rfl) rfl rfl rfl ?_; clear hA a; intro a hA
                  refine S.no (dj := 49) hA (by kernel_rfl) rfl rfl rfl ?_; clear hA a; intro a hA
                  refine S.no (dj := 49) hA (by kernel_rfl) rfl rfl rfl ?_; clear hA a; intro a hA
                  refine S.no (dj := 49) hA (by kernel_rfl) rfl rfl rfl ?_; clear hA a; intro a hA
                  refine S.no (dj := 49) hA (by kernel_rfl) rfl rfl rfl ?_; clear hA a; intro a hA
                  refine S.no (dj := 49) hA (by kernel_rfl) rfl rfl rfl ?_; clear hA a; intro a hA
                  refine S.val hA (R.pickT rfl rfl) rfl ?_; clear hA a; intro a hA
                  refine S.val hA (R.move rfl) rfl ?_; clear hA a; intro a hA
                  refine S.no (dj := 57) hA (by kernel_rfl) rfl rfl rfl ?_; clear hA a; intro a hA
                  refine S.no (dj := 57) hA (by kernel_rfl) rfl rfl rfl ?_; clear hA a; intro a hA
                  refine S.no (dj := 57) hA (by kernel_rfl) rfl rfl rfl ?_; clear hA a; intro a hA
                  refine S.no (dj := 57) hA (by kernel_rfl) rfl rfl rfl ?_; clear hA a; intro a hA
                  refine S.val hA (R.pickT rfl rfl) rfl ?_; clear hA a; intro a hA
                  refine S.done ?_
                  replace hA : St 174 [(1, _), (62, _)] a := hA.sub ((.cons rfl (.cons rfl .nil)))
                  exact hJ _ _ ⟨hA.sub (.cons rfl (.cons (by first | rfl | exact congrArg (fun b => some (Value.bool b)) (by first | exact decide_eq_decide.2 (by omega) | exact or_bool (by omega) | exact and_bool (by omega) | (simp; done) | (simp [hg12]; done) | (have h80 := hg12; (try simp at h80); simp [h80]; done) | exact (decide_eq_false (fun h9 => hg12 h9.1)).symm)) .nil)), hM⟩
                · clear hA; intro hg12 hA
                  refine S.valg (dj := 49) hA (by kernel_rfl) rfl (R.fieldAddr (q := 4) fi25_4 rfl rfl rfl) rfl ?_; clear hA a; intro a hA
                  refine S.valg (dj := 49) hA (by kernel_rfl) rfl (R.load sz22 rfl (hM.cell (k := 0) rfl rfl)) rfl ?_; clear hA a; intro a hA
                  refine S.valg (dj := 49) hA (by kernel_rfl) rfl (R.lenS Tryd.underlying22 rfl rfl) rfl ?_; clear hA a; intro a hA
                  refine S.valg (dj := 49) hA (by kernel_rfl) rfl (R.fieldAddr (q := 1) fi25_1 rfl rfl rfl) rfl ?_; clear hA a; intro a hA
                  refine S.valg (dj := 49) hA (by kernel_rfl) rfl (R.load sz3 rfl (hM.cell (k := 0) rfl rfl)) rfl ?_; clear hA a; intro a hA
                  refine S.valg (dj := 49) hA (by kernel_rfl) rfl (R.neq rfl rfl) rfl ?_; clear hA a; intro a hA
                  refine S.val hA (R.pickF rfl rfl) rfl ?_; clear hA a; intro a hA
                  refine S.val hA (R.move rfl) rfl ?_; clear hA a; intro a hA
                  refine hA.split (d := 57) rfl ?_ ?_
                  · clear hA; intro hg13 hA
                    refine S.no (dj := 57) hA (by kernel_rfl) rfl rfl rfl ?_; clear hA a; intro a hA
                    refine S.no (dj := 57) hA (by kernel_rfl) rfl rfl rfl ?_; clear hA a; intro a hA
                    refine S.no (dj := 57) hA (by kernel_rfl) rfl rfl rfl ?_; clear hA a; intro a hA
                    refine S.no (dj := 57) hA (by kernel_rfl) rfl rfl rfl ?_; clear hA a; intro a hA
                    refine S.val hA (R.pickT rfl rfl) rfl ?_; clear hA a; intro a hA
                    refine S.done ?_
                    replace hA : St 174 [(1, _), (62, _)] a := hA.sub ((.cons rfl (.cons rfl .nil)))
                    exact hJ _ _ ⟨hA.sub (.cons rfl (.cons (by first | rfl | exact congrArg (fun b => some (Value.bool b)) (by first | exact decide_eq_decide.2 (by omega) | exact or_bool (by omega) | exact and_bool (by omega) | (simp; done) | (simp [hg12, hg13]; done) | (have h80 := hg12; (try simp at h80); have h81 := hg13; (try simp at h81); simp [h80, h81]; done) | exact (decide_eq_false (fun h9 => hg12 h9.1)).symm | exact (decide_eq_false (fun h9 => hg13 h9.1)).symm)) .nil)), hM⟩
                  · clear hA; intro hg13 hA
                    refine S.valg (dj := 57) hA (by kernel_rfl) rfl (R.fieldAddr (q := 5) fi25_5 rfl rfl rfl) rfl ?_; clear hA a; intro a hA
                    refine S.valg (dj := 57) hA (by kernel_rfl) rfl (R.load sz23 rfl (hM.cell (k := 0) rfl rfl)) rfl ?_; clear hA a; intro a hA
                    refine S.valg (dj := 57) hA (by kernel_rfl) rfl (R.lenS Tryd.underlying23 rfl rfl) rfl ?_; clear hA a; intro a hA
                    refine S.valg (dj := 57) hA (by kernel_rfl) rfl (R.neq rfl rfl) rfl ?_; clear hA a; intro a hA
                    refine S.val hA (R.pickF rfl rfl) rfl ?_; clear hA a; intro a hA
                    refine S.done ?_
                    replace hA : St 174 [(1, _), (62, _)] a := hA.sub ((.cons rfl (.cons rfl .nil)))
                    exact hJ _ _ ⟨hA.sub (.cons rfl (.cons (by first | rfl | exact congrArg (fun b => some (Value.bool b)) (by first | exact decide_eq_decide.2 (by omega) | exact or_bool (by omega) | exact and_bool (by omega) | (simp; done) | (simp [hg12, hg13]; done) | (have h80 := hg12; (try simp at h80); have h81 := hg13; (try simp at h81); simp [h80, h81]; done) | exact (decide_eq_false (fun h9 => hg12 h9.1)).symm | exact (decide_eq_false (fun h9 => hg13 h9.1)).symm)) .nil)), hM⟩
            ·
              refine Ends.skip ?_
              refine Ends.seq ?_
              refine Ends.seq ?_
              refine Ends.cut (fun (a : Act) (wv : World) => St 174 [(1, .pointer (some ⟨b1, 0, none⟩)), (115, .bool (decide ((((((i.cost.length : Int)) ≠ i.n ∨ i.cap ≠ 0) ∨ ((i.wt.length : Int)) ≠ 0) ∨ ((i.vl.length : Int)) ≠ 0))))] a ∧ Mem w nof [pt b1 #[.int .i64 i.kind, .int .i64 i.n, .int .i64 i.cap, .slice ax3 i.wt.length cx3, .slice ax4 i.vl.length cx4, .slice ax5 i.cost.length cx5] 25] wv) ?_ (fun k2 hJ => ?_)
              · clear hA hM a; rintro a w9 ⟨hA, hM⟩
                refine Ends.ite hA rfl (fun hc14 => ?_) (fun hc14 => ?_)
                ·
                  refine Ends.seq ?_
                  refine Ends.region ?_
                  refine S.val hA (R.assign rfl) rfl ?_; clear hA a; intro a hA
                  refine S.done ?_
                  replace hA : St 174 [(1, _), (2, _)] a := hA.sub ((.cons rfl (.cons rfl .nil)))
                  refine Ends.ret1 Tryd.func19 Tryd.results19 hA rfl ?_
                  have hs0 : sizeE i = 0 := hs0
                  have hns : ¬ shapeOK i := by
                    unfold shapeOK
                    rintro (g | ⟨q1, q2, q3, q4, q5, -⟩)
                    · omega
                    · omega
                  exact ⟨by rw [chk_shape hs0 hns], Mem.trans0 hbs hM.nilL⟩
                ·
                  refine Ends.skip ?_
                  refine Ends.seq ?_
                  refine Ends.seq ?_
                  refine Ends.region ?_
                  refine S.val hA (R.assign rfl) rfl ?_; clear hA a; intro a hA
                  refine S.done ?_
                  replace hA : St 174 [(1, _), (7, _)] a := hA.sub ((.cons rfl (.cons rfl .nil)))
                  refine Ends.block ?_
                  refine Ends.loop (σ := Nat) (fun r (a : Act) (wv : World) => St 174 [(1, .pointer (some ⟨b1, 0, none⟩)), (7, .int .i64 ((r : Int)))] a ∧ Mem w nof [pt b1 #[.int .i64 i.kind, .int .i64 i.n, .int .i64 i.cap, .slice ax3 i.wt.length cx3, .slice ax4 i.vl.length cx4, .slice ax5 i.cost.length cx5] 25] wv ∧ (r ≤ i.n.toNat) ∧ (∀ j, j < r → ((i.cost.getD j []).length : Int) = i.n)) (fun r => i.n.toNat - r) 0 ⟨hA.sub ((.cons rfl (.cons rfl .nil))), hM, (Nat.zero_le _), (fun j hj => absurd hj (Nat.not_lt_zero _))⟩ ?_
                  clear hA hM a
                  rintro r a w10 ⟨hA, hM, hr1, hr2⟩ hNext1
                  refine Ends.seq ?_
                  refine Ends.seq ?_
                  refine Ends.region ?_
                  refine S.val hA (R.move rfl) rfl ?_; clear hA a; intro a hA
                  refine S.val hA (R.fieldAddr (q := 1) fi25_1 rfl rfl rfl) rfl ?_; clear hA a; intro a hA
                  refine S.val hA (R.load sz3 rfl (hM.cell (k := 0) rfl rfl)) rfl ?_; clear hA a; intro a hA
                  refine S.val hA (R.lss rfl rfl) rfl ?_; clear hA a; intro a hA
                  refine S.done ?_
                  replace hA : St 174 [(1, _), (7, _), (119, _)] a := hA.sub ((.cons rfl (.cons rfl (.cons rfl .nil))))
                  refine Ends.ite hA rfl (fun hc15 => ?_) (fun hc15 => ?_)
                  ·
                    refine Ends.skip ?_
                    refine Ends.seq ?_
                    refine Ends.block ?_
                    refine Ends.seq ?_
                    refine Ends.drawn (Mem w nof [pt b1 #[.int .i64 i.kind, .int .i64 i.n, .int .i64 i.cap, .slice ax3 i.wt.length cx3, .slice ax4 i.vl.length cx4, .slice ax5 i.cost.length cx5] 25]) (.cons (0, true) (.cons (1, true) (.cons (2, true) (.cons (3, true) (.cons (4, true) (.cons (5, true) (.cons (6, true) (.cons (7, true) (.cons (8, true) .nil))))))))) 9 mixed (by kernel_rfl) (by kernel_rfl) (by kernel_rfl) hM.drew ?_
                    replace hM := hM.drew
                    refine D.valF hA rfl (fun _ => R.fieldAddr (q := 5) fi25_5 rfl rfl rfl) rfl ?_; clear hA a; intro a hA
                    refine D.val hA rfl (by kernel_rfl) (fun _ hM => R.load sz23 rfl (hM.cell (k := 0) rfl rfl)) rfl ?_; clear hA a; intro a hA
                    refine D.valF hA rfl (fun _ => R.move rfl) rfl ?_; clear hA a; intro a hA
                    refine D.valF hA rfl (fun _ => R.idxR hx5 (j := r) sl23 rfl rfl (by omega) (rfl)) rfl ?_; clear hA a; intro a hA
                    obtain ⟨ra16, rc17, hrow18, hld19⟩ := hx5.atP (i := r) (by omega)
                    refine D.val hA rfl (by kernel_rfl) (fun _ hM => hld19 _ _ _ _ _ _ hM sz22 rfl) rfl ?_; clear hA a; intro a hA
                    refine D.valF hA rfl (fun _ => R.lenS Tryd.underlying22 rfl rfl) rfl ?_; clear hA a; intro a hA
                    refine D.valF hA rfl (fun _ => R.fieldAddr (q := 1) fi25_1 rfl rfl rfl) rfl ?_; clear hA a; intro a hA
                    refine D.val hA rfl (by kernel_rfl) (fun _ hM => R.load sz3 rfl (hM.cell (k := 0) rfl rfl)) rfl ?_; clear hA a; intro a hA
                    refine D.valF hA rfl (fun _ => R.neq rfl rfl) rfl ?_; clear hA a; intro a hA
                    refine D.done ?_
                    replace hA : St 174 [(1, _), (7, _), (130, _)] a := hA.sub ((.cons rfl (.cons rfl (.cons rfl .nil))))
                    refine Ends.ite hA rfl (fun hc20 => ?_) (fun hc20 => ?_)
                    ·
                      refine Ends.seq ?_
                      refine Ends.region ?_
                      refine S.val hA (R.assign rfl) rfl ?_; clear hA a; intro a hA
                      refine S.done ?_
                      replace hA : St 174 [(1, _), (2, _), (7, _)] a := hA.sub ((.cons rfl (.cons rfl (.cons rfl .nil))))
                      refine Ends.ret1 Tryd.func19 Tryd.results19 hA rfl ?_
                      have hns : ¬ shapeOK i := by
                        unfold shapeOK
                        rintro (g | ⟨q1, q2, q3, q4, q5, q6⟩)
                        · omega
                        · exact hc20 (q6 r (by omega))
                      exact ⟨by rw [chk_shape hs0 hns], Mem.trans0 hbs hM.nilL⟩
                    ·
                      refine Ends.skip ?_
                      refine Ends.inBlock ?_
                      refine Ends.region ?_
                      refine S.val hA (R.move rfl) rfl ?_; clear hA a; intro a hA
                      refine S.val hA (R.addI rfl rfl (r := ((r : Int)) + 1) rfl (by omega)) rfl ?_; clear hA a; intro a hA
                      refine S.val hA (R.assign rfl) rfl ?_; clear hA a; intro a hA
                      refine S.done ?_
                      replace hA : St 174 [(1, _), (7, _)] a := hA.sub ((.cons rfl (.cons rfl .nil)))
                      exact hNext1 ((r + 1)) _ _ ((by show i.n.toNat - (r + 1) < i.n.toNat - r; omega)) ⟨hA.sub ((.cons rfl (.cons rfl .nil))), hM, (by omega), (fun j hj => (Nat.lt_or_ge j r).elim (fun g => hr2 j g) (fun g => by have e : j = r := (by omega); rw [e]; exact Decidable.not_not.1 hc20))⟩
                  ·
                    have hss : shapeOK i := .inr ⟨by omega, by omega, by omega, by omega, by omega, fun j hj => hr2 j (by omega)⟩
                    have hsq := (shape_rows hss (by omega)).2.2.2.2
                    refine Ends.exit rfl ?_
                    replace hA : St 174 [(1, _)] a := hA.sub ((.cons rfl .nil))
                    refine Ends.seq ?_
                    refine Ends.seq ?_
                    refine Ends.region ?_
                    refine S.val hA (R.assign rfl) rfl ?_; clear hA a; intro a hA
                    refine S.done ?_
                    replace hA : St 174 [(1, _), (8, _)] a := hA.sub ((.cons rfl (.cons rfl .nil)))
                    refine Ends.block ?_
                    refine Ends.loop (σ := Nat) (fun r (a : Act) (wv : World) => St 174 [(1, .pointer (some ⟨b1, 0, none⟩)), (8, .int .i64 ((r : Int)))] a ∧ Mem w nof [pt b1 #[.int .i64 i.kind, .int .i64 i.n, .int .i64 i.cap, .slice ax3 i.wt.length cx3, .slice ax4 i.vl.length cx4, .slice ax5 i.cost.length cx5] 25] wv ∧ (r ≤ i.n.toNat) ∧ (pfx (fun r => pfx (cellF i r) i.n.toNat) r = 0)) (fun r => i.n.toNat - r) 0 ⟨hA.sub ((.cons rfl (.cons rfl .nil))), hM, (Nat.zero_le _), rfl⟩ ?_
                    clear hA hM a
                    rintro r a w11 ⟨hA, hM, hr, hr0⟩ hNext2
                    refine Ends.seq ?_
                    refine Ends.seq ?_
                    refine Ends.region ?_
                    refine S.val hA (R.move rfl) rfl ?_; clear hA a; intro a hA
                    refine S.val hA (R.fieldAddr (q := 1) fi25_1 rfl rfl rfl) rfl ?_; clear hA a; intro a hA
                    refine S.val hA (R.load sz3 rfl (hM.cell (k := 0) rfl rfl)) rfl ?_; clear hA a; intro a hA
                    refine S.val hA (R.lss rfl rfl) rfl ?_; clear hA a; intro a hA
                    refine S.done ?_
                    replace hA : St 174 [(1, _), (8, _), (134, _)] a := hA.sub ((.cons rfl (.cons rfl (.cons rfl .nil))))
                    refine Ends.ite hA rfl (fun hc21 => ?_) (fun hc21 => ?_)
                    ·
                      have hrl := hsq r (by omega)
                      refine Ends.skip ?_
                      refine Ends.seq ?_
                      refine Ends.block ?_
                      refine Ends.seq ?_
                      refine Ends.region ?_
                      refine S.val hA (R.assign rfl) rfl ?_; clear hA a; intro a hA
                      refine S.done ?_
                      replace hA : St 174 [(1, _), (8, _), (9, _)] a := hA.sub ((.cons rfl (.cons rfl (.cons rfl .nil))))
                      refine Ends.block ?_
                      refine Ends.loop (σ := Nat) (fun c_ (a : Act) (wv : World) => St 174 [(1, .pointer (some ⟨b1, 0, none⟩)), (8, .int .i64 ((r : Int))), (9, .int .i64 ((c_ : Int)))] a ∧ Mem w nof [pt b1 #[.int .i64 i.kind, .int .i64 i.n, .int .i64 i.cap, .slice ax3 i.wt.length cx3, .slice ax4 i.vl.length cx4, .slice ax5 i.cost.length cx5] 25] wv ∧ (c_ ≤ i.n.toNat) ∧ (pfx (cellF i r) c_ = 0)) (fun c_ => i.n.toNat - c_) 0 ⟨hA.sub ((.cons rfl (.cons rfl (.cons rfl .nil)))), hM, (Nat.zero_le _), rfl⟩ ?_
                      clear hA hM a
                      rintro c_ a w12 ⟨hA, hM, hcn, hc0⟩ hNext3
                      refine Ends.seq ?_
                      refine Ends.seq ?_
                      refine Ends.region ?_
                      refine S.val hA (R.move rfl) rfl ?_; clear hA a; intro a hA
                      refine S.val hA (R.fieldAddr (q := 1) fi25_1 rfl rfl rfl) rfl ?_; clear hA a; intro a hA
                      refine S.val hA (R.load sz3 rfl (hM.cell (k := 0) rfl rfl)) rfl ?_; clear hA a; intro a hA
                      refine S.val hA (R.lss rfl rfl) rfl ?_; clear hA a; intro a hA
                      refine S.done ?_
                      replace hA : St 174 [(1, _), (8, _), (9, _), (140, _)] a := hA.sub ((.cons rfl (.cons rfl (.cons rfl (.cons rfl .nil)))))
                      refine Ends.ite hA rfl (fun hc22 => ?_) (fun hc22 => ?_)
                      ·
                        refine Ends.skip ?_
                        refine Ends.seq ?_
                        refine Ends.block ?_
                        refine Ends.seq ?_
                        refine Ends.seq ?_
                        refine Ends.region ?_
                        refine S.val hA (R.fieldAddr (q := 5) fi25_5 rfl rfl rfl) rfl ?_; clear hA a; intro a hA
                        refine S.val hA (R.load sz23 rfl (hM.cell (k := 0) rfl rfl)) rfl ?_; clear hA a; intro a hA
                        refine S.val hA (R.move rfl) rfl ?_; clear hA a; intro a hA
                        refine S.val hA (R.idxR hx5 (j := r) sl23 rfl rfl (by omega) (rfl)) rfl ?_; clear hA a; intro a hA
                        obtain ⟨ra23, rc24, hrow25, hld26⟩ := hx5.atP (i := r) (by omega)
                        refine S.val hA (hld26 _ _ _ _ _ _ hM sz22 rfl) rfl ?_; clear hA a; intro a hA
                        refine S.val hA (R.move rfl) rfl ?_; clear hA a; intro a hA
                        refine S.val hA (R.idxI hrow25 (j := c_) sl22 rfl rfl (by omega) (rfl)) rfl ?_; clear hA a; intro a hA
                        refine S.val hA (R.loadI (hrow25.mem hM) sz3 rfl (by omega)) rfl ?_; clear hA a; intro a hA
                        refine S.call hA (R.callF Tryd.func41 rfl rfl rfl) rfl (rnum05 (((i.cost.getD r [])).getD c_ 0) _) ?_; clear hA a
                        rintro e w13 ⟨rfl, hb⟩
                        replace hM := hM.callB hb; clear hb
                        refine ⟨.int .i64 (numE (((i.cost.getD r [])).getD c_ 0)), rfl, fun a hA => ?_⟩
                        refine S.val hA (R.assign rfl) rfl ?_; clear hA a; intro a hA
                        refine S.done ?_
                        replace hA : St 174 [(1, _), (8, _), (9, _), (10, _)] a := hA.sub ((.cons rfl (.cons rfl (.cons rfl (.cons rfl .nil)))))
                        refine Ends.seq ?_
                        refine Ends.region ?_
                        refine S.val hA (R.move rfl) rfl ?_; clear hA a; intro a hA
                        refine S.val hA (R.neq rfl rfl) rfl ?_; clear hA a; intro a hA
                        refine S.done ?_
                        replace hA : St 174 [(1, _), (8, _), (9, _), (10, _), (153, _)] a := hA.sub ((.cons rfl (.cons rfl (.cons rfl (.cons rfl (.cons rfl .nil))))))
                        refine Ends.ite hA rfl (fun hc27 => ?_) (fun hc27 => ?_)
                        ·
                          refine Ends.seq ?_
                          refine Ends.region ?_
                          refine S.val hA (R.move rfl) rfl ?_; clear hA a; intro a hA
                          refine S.val hA (R.assign rfl) rfl ?_; clear hA a; intro a hA
                          refine S.done ?_
                          replace hA : St 174 [(1, _), (2, _), (8, _), (9, _)] a := hA.sub ((.cons rfl (.cons rfl (.cons rfl (.cons rfl .nil)))))
                          refine Ends.ret1 Tryd.func19 Tryd.results19 hA rfl ?_
                          have hce := cellF_e hc27
                          have hne : cellF i r c_ ≠ 0 := by rw [hce]; exact hc27
                          have hrw := pfx_err hc0 hne (show c_ < i.n.toNat by omega)
                          have hfin := pfx_err (f := fun r => pfx (cellF i r) i.n.toNat) hr0 (by show pfx (cellF i r) i.n.toNat ≠ 0; rw [hrw]; exact hne) (show r < i.n.toNat by omega)
                          have hck := chk_rows hs0 hss (by omega)
                          rw [hfin] at hck
                          replace hck : chk i = pfx (cellF i r) i.n.toNat := hck
                          rw [hrw, hce] at hck
                          exact ⟨by rw [hck], Mem.trans0 hbs hM.nilL⟩
                        ·
                          refine Ends.skip ?_
                          refine Ends.seq ?_
                          refine Ends.cut (fun (a : Act) (wv : World) => St 174 [(1, .pointer (some ⟨b1, 0, none⟩)), (8, .int .i64 ((r : Int))), (9, .int .i64 ((c_ : Int))), (173, .bool (decide (((i.kind = 3 ∧ ((r : Int)) = ((c_ : Int))) ∧ (((i.cost.getD r [])).getD c_ 0) ≠ 0))))] a ∧ Mem w nof [pt b1 #[.int .i64 i.kind, .int .i64 i.n, .int .i64 i.cap, .slice ax3 i.wt.length cx3, .slice ax4 i.vl.length cx4, .slice ax5 i.cost.length cx5] 25] wv) ?_ (fun k2 hJ => ?_)
                          · clear hA hM a; rintro a w14 ⟨hA, hM⟩
                            refine Ends.ite hA rfl (fun hc28 => ?_) (fun hc28 => ?_)
                            ·
                              refine Ends.seq ?_
                              refine Ends.region ?_
                              refine S.val hA (R.assign rfl) rfl ?_; clear hA a; intro a hA
                              refine S.done ?_
                              replace hA : St 174 [(1, _), (2, _), (8, _), (9, _)] a := hA.sub ((.cons rfl (.cons rfl (.cons rfl (.cons rfl .nil)))))
                              refine Ends.ret1 Tryd.func19 Tryd.results19 hA rfl ?_
                              have hce := cellF_f hc27 hc28
                              have hne : cellF i r c_ ≠ 0 := by rw [hce]; decide
                              have hrw := pfx_err hc0 hne (show c_ < i.n.toNat by omega)
                              have hfin := pfx_err (f := fun r => pfx (cellF i r) i.n.toNat) hr0 (by show pfx (cellF i r) i.n.toNat ≠ 0; rw [hrw]; exact hne) (show r < i.n.toNat by omega)
                              have hck := chk_rows hs0 hss (by omega)
                              rw [hfin] at hck
                              replace hck : chk i = pfx (cellF i r) i.n.toNat := hck
                              rw [hrw, hce] at hck
                              exact ⟨by rw [hck], Mem.trans0 hbs hM.nilL⟩
                            ·
                              refine Ends.skip ?_
                              refine Ends.inBlock ?_
                              refine Ends.region ?_
                              refine S.val hA (R.move rfl) rfl ?_; clear hA a; intro a hA
                              refine S.val hA (R.addI rfl rfl (r := ((c_ : Int)) + 1) rfl (by omega)) rfl ?_; clear hA a; intro a hA
                              refine S.val hA (R.assign rfl) rfl ?_; clear hA a; intro a hA
                              refine S.done ?_
                              replace hA : St 174 [(1, _), (8, _), (9, _)] a := hA.sub ((.cons rfl (.cons rfl (.cons rfl .nil))))
                              exact hNext3 ((c_ + 1)) _ _ ((by show i.n.toNat - (c_ + 1) < i.n.toNat - c_; omega)) ⟨hA.sub ((.cons rfl (.cons rfl (.cons rfl .nil)))), hM, (by omega), (by rw [pfx_step hc0]; exact cellF_z hc27 hc28)⟩
                          ·
                            refine Ends.region ?_
                            refine S.val hA (R.fieldAddr (q := 0) fi25_0 rfl rfl rfl) rfl ?_; clear hA a; intro a hA
                            refine S.val hA (R.load sz3 rfl (hM.cell (k := 0) rfl rfl)) rfl ?_; clear hA a; intro a hA
                            refine S.val hA (R.eql rfl rfl) rfl ?_; clear hA a; intro a hA
                            refine S.val hA (R.move rfl) rfl ?_; clear hA a; intro a hA
                            refine hA.split (d := 158) rfl ?_ ?_
                            · clear hA; intro hg29 hA
                              refine S.valg (dj := 158) hA (by kernel_rfl) rfl (R.move rfl) rfl ?_; clear hA a; intro a hA
                              refine S.valg (dj := 158) hA (by kernel_rfl) rfl (R.move rfl) rfl ?_; clear hA a; intro a hA
                              refine S.valg (dj := 158) hA (by kernel_rfl) rfl (R.eql rfl rfl) rfl ?_; clear hA a; intro a hA
                              refine S.val hA (R.pickT rfl rfl) rfl ?_; clear hA a; intro a hA
                              refine S.val hA (R.move rfl) rfl ?_; clear hA a; intro a hA
                              refine hA.split (d := 163) rfl ?_ ?_
                              · clear hA; intro hg30 hA
                                refine S.valg (dj := 163) hA (by kernel_rfl) rfl (R.fieldAddr (q := 5) fi25_5 rfl rfl rfl) rfl ?_; clear hA a; intro a hA
                                refine S.valg (dj := 163) hA (by kernel_rfl) rfl (R.load sz23 rfl (hM.cell (k := 0) rfl rfl)) rfl ?_; clear hA a; intro a hA
                                refine S.valg (dj := 163) hA (by kernel_rfl) rfl (R.move rfl) rfl ?_; clear hA a; intro a hA
                                refine S.valg (dj := 163) hA (by kernel_rfl) rfl (R.idxR hx5 (j := r) sl23 rfl rfl (by omega) (rfl)) rfl ?_; clear hA a; intro a hA
                                obtain ⟨ra31, rc32, hrow33, hld34⟩ := hx5.atP (i := r) (by omega)
                                refine S.valg (dj := 163) hA (by kernel_rfl) rfl (hld34 _ _ _ _ _ _ hM sz22 rfl) rfl ?_; clear hA a; intro a hA
                                refine S.valg (dj := 163) hA (by kernel_rfl) rfl (R.move rfl) rfl ?_; clear hA a; intro a hA
                                refine S.valg (dj := 163) hA (by kernel_rfl) rfl (R.idxI hrow33 (j := c_) sl22 rfl rfl (by omega) (rfl)) rfl ?_; clear hA a; intro a hA
                                refine S.valg (dj := 163) hA (by kernel_rfl) rfl (R.loadI (hrow33.mem hM) sz3 rfl (by omega)) rfl ?_; clear hA a; intro a hA
                                refine S.valg (dj := 163) hA (by kernel_rfl) rfl (R.neq rfl rfl) rfl ?_; clear hA a; intro a hA
                                refine S.val hA (R.pickT rfl rfl) rfl ?_; clear hA a; intro a hA
                                refine S.done ?_
                                replace hA : St 174 [(1, _), (8, _), (9, _), (173, _)] a := hA.sub ((.cons rfl (.cons rfl (.cons rfl (.cons rfl .nil)))))
                                exact hJ _ _ ⟨hA.sub (.cons rfl (.cons rfl (.cons rfl (.cons (by first | rfl | exact congrArg (fun b => some (Value.bool b)) (by first | exact decide_eq_decide.2 (by omega) | exact or_bool (by omega) | exact and_bool (by omega) | (simp; done) | (simp [hg29, hg30]; done) | (have h80 := hg29; (try simp at h80); have h81 := hg30; (try simp at h81); simp [h80, h81]; done) | exact (decide_eq_false (fun h9 => hg29 h9.1)).symm | exact (decide_eq_false (fun h9 => hg30 h9.1)).symm)) .nil)))), hM⟩
                              · clear hA; intro hg30 hA
                                refine S.no (dj := 163) hA (by kernel_rfl) rfl rfl rfl ?_; clear hA a; intro a hA
                                refine S.no (dj := 163) hA (by kernel_rfl) rfl rfl rfl ?_; clear hA a; intro a hA
                                refine S.no (dj := 163) hA (by kernel_rfl) rfl rfl rfl ?_; clear hA a; intro a hA
                                refine S.no (dj := 163) hA (by kernel_rfl) rfl rfl rfl ?_; clear hA a; intro a hA
                                refine S.no (dj := 163) hA (by kernel_rfl) rfl rfl rfl ?_; clear hA a; intro a hA
                                refine S.no (dj := 163) hA (by kernel_rfl) rfl rfl rfl ?_; clear hA a; intro a hA
                                refine S.no (dj := 163) hA (by kernel_rfl) rfl rfl rfl ?_; clear hA a; intro a hA
                                refine S.no (dj := 163) hA (by kernel_rfl) rfl rfl rfl ?_; clear hA a; intro a hA
                                refine S.no (dj := 163) hA (by kernel_rfl) rfl rfl rfl ?_; clear hA a; intro a hA
                                refine S.val hA (R.pickF rfl rfl) rfl ?_; clear hA a; intro a hA
                                refine S.done ?_
                                replace hA : St 174 [(1, _), (8, _), (9, _), (173, _)] a := hA.sub ((.cons rfl (.cons rfl (.cons rfl (.cons rfl .nil)))))
                                exact hJ _ _ ⟨hA.sub (.cons rfl (.cons rfl (.cons rfl (.cons (by first | rfl | exact congrArg (fun b => some (Value.bool b)) (by first | exact decide_eq_decide.2 (by omega) | exact or_bool (by omega) | exact and_bool (by omega) | (simp; done) | (simp [hg29, hg30]; done) | (have h80 := hg29; (try simp at h80); have h81 := hg30; (try simp at h81); simp [h80, h81]; done) | exact (decide_eq_false (fun h9 => hg29 h9.1)).symm | exact (decide_eq_false (fun h9 => hg30 h9.1)).symm)) .nil)))), hM⟩
                            · clear hA; intro hg29 hA
                              refine S.no (dj := 158) hA (by kernel_rfl) rfl rfl rfl ?_; clear hA a; intro a hA
                              refine S.no (dj := 158) hA (by kernel_rfl) rfl rfl rfl ?_; clear hA a; intro a hA
                              refine S.no (dj := 158) hA (by kernel_rfl) rfl rfl rfl ?_; clear hA a; intro a hA
                              refine S.val hA (R.pickF rfl rfl) rfl ?_; clear hA a; intro a hA
                              refine S.val hA (R.move rfl) rfl ?_; clear hA a; intro a hA
                              refine S.no (dj := 163) hA (by kernel_rfl) rfl rfl rfl ?_; clear hA a; intro a hA
                              refine S.no (dj := 163) hA (by kernel_rfl) rfl rfl rfl ?_; clear hA a; intro a hA
                              refine S.no (dj := 163) hA (by kernel_rfl) rfl rfl rfl ?_; clear hA a; intro a hA
                              refine S.no (dj := 163) hA (by kernel_rfl) rfl rfl rfl ?_; clear hA a; intro a hA
                              refine S.no (dj := 163) hA (by kernel_rfl) rfl rfl rfl ?_; clear hA a; intro a hA
                              refine S.no (dj := 163) hA (by kernel_rfl) rfl rfl rfl ?_; clear hA a; intro a hA
                              refine S.no (dj := 163) hA (by kernel_rfl) rfl rfl rfl ?_; clear hA a; intro a hA
                              refine S.no (dj := 163) hA (by kernel_rfl) rfl rfl rfl ?_; clear hA a; intro a hA
                              refine S.no (dj := 163) hA (by kernel_rfl) rfl rfl rfl ?_; clear hA a; intro a hA
                              refine S.val hA (R.pickF rfl rfl) rfl ?_; clear hA a; intro a hA
                              refine S.done ?_
                              replace hA : St 174 [(1, _), (8, _), (9, _), (173, _)] a := hA.sub ((.cons rfl (.cons rfl (.cons rfl (.cons rfl .nil)))))
                              exact hJ _ _ ⟨hA.sub (.cons rfl (.cons rfl (.cons rfl (.cons (by first | rfl | exact congrArg (fun b => some (Value.bool b)) (by first | exact decide_eq_decide.2 (by omega) | exact or_bool (by omega) | exact and_bool (by omega) | (simp; done) | (simp [hg29]; done) | (have h80 := hg29; (try simp at h80); simp [h80]; done) | exact (decide_eq_false (fun h9 => hg29 h9.1)).symm)) .nil)))), hM⟩
                      ·
                        have hrz : pfx (cellF i r) i.n.toNat = 0 := by rw [show i.n.toNat = c_ by omega]; exact hc0
                        refine Ends.exit rfl ?_
                        replace hA : St 174 [(1, _), (8, _)] a := hA.sub ((.cons rfl (.cons rfl .nil)))
                        refine Ends.inBlock ?_
                        refine Ends.region ?_
                        refine S.val hA (R.move rfl) rfl ?_; clear hA a; intro a hA
                        refine S.val hA (R.addI rfl rfl (r := ((r : Int)) + 1) rfl (by omega)) rfl ?_; clear hA a; intro a hA
                        refine S.val hA (R.assign rfl) rfl ?_; clear hA a; intro a hA
                        refine S.done ?_
                        replace hA : St 174 [(1, _), (8, _)] a := hA.sub ((.cons rfl (.cons rfl .nil)))
                        exact hNext2 ((r + 1)) _ _ ((by show i.n.toNat - (r + 1) < i.n.toNat - r; omega)) ⟨hA.sub ((.cons rfl (.cons rfl .nil))), hM, (by omega), (by rw [pfx_step hr0]; exact hrz)⟩
                    ·
                      refine Ends.exit rfl ?_
                      replace hA : St 174 [] a := hA.sub (.nil)
                      refine Ends.seq ?_
                      refine Ends.region ?_
                      refine S.val hA (R.assign rfl) rfl ?_; clear hA a; intro a hA
                      refine S.done ?_
                      replace hA : St 174 [(2, _)] a := hA.sub ((.cons rfl .nil))
                      refine Ends.ret1 Tryd.func19 Tryd.results19 hA rfl ?_
                      have hfin := hr0
                      rw [show r = i.n.toNat by omega] at hfin
                      have hck := chk_rows hs0 hss (by omega)
                      rw [hfin] at hck
                      exact ⟨by rw [hck], Mem.trans0 hbs hM.nilL⟩
              ·
                refine Ends.region ?_
                refine S.val hA (R.fieldAddr (q := 5) fi25_5 rfl rfl rfl) rfl ?_; clear hA a; intro a hA
                refine S.val hA (R.load sz23 rfl (hM.cell (k := 0) rfl rfl)) rfl ?_; clear hA a; intro a hA
                refine S.val hA (R.lenS Tryd.underlying23 rfl rfl) rfl ?_; clear hA a; intro a hA
                refine S.val hA (R.fieldAddr (q := 1) fi25_1 rfl rfl rfl) rfl ?_; clear hA a; intro a hA
                refine S.val hA (R.load sz3 rfl (hM.cell (k := 0) rfl rfl)) rfl ?_; clear hA a; intro a hA
                refine S.val hA (R.neq rfl rfl) rfl ?_; clear hA a; intro a hA
                refine S.val hA (R.move rfl) rfl ?_; clear hA a; intro a hA
                refine hA.split (d := 99) rfl ?_ ?_
                · clear hA; intro hg35 hA
                  refine S.no (dj := 99) hA (by kernel_rfl) rfl rfl rfl ?_; clear hA a; intro a hA
                  refine S.no (dj := 99) hA (by kernel_rfl) rfl rfl rfl ?_; clear hA a; intro a hA
                  refine S.no (dj := 99) hA (by kernel_rfl) rfl rfl rfl ?_; clear hA a; intro a hA
                  refine S.val hA (R.pickT rfl rfl) rfl ?_; clear hA a; intro a hA
                  refine S.val hA (R.move rfl) rfl ?_; clear hA a; intro a hA
                  refine S.no (dj := 104) hA (by kernel_rfl) rfl rfl rfl ?_; clear hA a; intro a hA
                  refine S.no (dj := 104) hA (by kernel_rfl) rfl rfl rfl ?_; clear hA a; intro a hA
                  refine S.no (dj := 104) hA (by kernel_rfl) rfl rfl rfl ?_; clear hA a; intro a hA
                  refine S.no (dj := 104) hA (by kernel_rfl) rfl rfl rfl ?_; clear hA a; intro a hA
                  refine S.val hA (R.pickT rfl rfl) rfl ?_; clear hA a; intro a hA
                  refine S.val hA (R.move rfl) rfl ?_; clear hA a; intro a hA
                  refine S.no (dj := 110) hA (by kernel_rfl) rfl rfl rfl ?_; clear hA a; intro a hA
                  refine S.no (dj := 110) hA (by kernel_rfl) rfl rfl rfl ?_; clear hA a; intro a hA
                  refine S.no (dj := 110) hA (by kernel_rfl) rfl rfl rfl ?_; clear hA a; intro a hA
                  refine S.no (dj := 110) hA (by kernel_rfl) rfl rfl rfl ?_; clear hA a; intro a hA
                  refine S.val hA (R.pickT rfl rfl) rfl ?_; clear hA a; intro a hA
                  refine S.done ?_
                  replace hA : St 174 [(1, _), (115, _)] a := hA.sub ((.cons rfl (.cons rfl .nil)))
                  exact hJ _ _ ⟨hA.sub (.cons rfl (.cons (by first | rfl | exact congrArg (fun b => some (Value.bool b)) (by first | exact decide_eq_decide.2 (by omega) | exact or_bool (by omega) | exact and_bool (by omega) | (simp; done) | (simp [hg35]; done) | (have h80 := hg35; (try simp at h80); simp [h80]; done) | exact (decide_eq_false (fun h9 => hg35 h9.1)).symm)) .nil)), hM⟩
                · clear hA; intro hg35 hA
                  refine S.valg (dj := 99) hA (by kernel_rfl) rfl (R.fieldAddr (q := 2) fi25_2 rfl rfl rfl) rfl ?_; clear hA a; intro a hA
                  refine S.valg (dj := 99) hA (by kernel_rfl) rfl (R.load sz3 rfl (hM.cell (k := 0) rfl rfl)) rfl ?_; clear hA a; intro a hA
                  refine S.valg (dj := 99) hA (by kernel_rfl) rfl (R.neq rfl rfl) rfl ?_; clear hA a; intro a hA
                  refine S.val hA (R.pickF rfl rfl) rfl ?_; clear hA a; intro a hA
                  refine S.val hA (R.move rfl) rfl ?_; clear hA a; intro a hA
                  refine hA.split (d := 104) rfl ?_ ?_
                  · clear hA; intro hg36 hA
                    refine S.no (dj := 104) hA (by kernel_rfl) rfl rfl rfl ?_; clear hA a; intro a hA
                    refine S.no (dj := 104) hA (by kernel_rfl) rfl rfl rfl ?_; clear hA a; intro a hA
                    refine S.no (dj := 104) hA (by kernel_rfl) rfl rfl rfl ?_; clear hA a; intro a hA
                    refine S.no (dj := 104) hA (by kernel_rfl) rfl rfl rfl ?_; clear hA a; intro a hA
                    refine S.val hA (R.pickT rfl rfl) rfl ?_; clear hA a; intro a hA
                    refine S.val hA (R.move rfl) rfl ?_; clear hA a; intro a hA
                    refine S.no (dj := 110) hA (by kernel_rfl) rfl rfl rfl ?_; clear hA a; intro a hA
                    refine S.no (dj := 110) hA (by kernel_rfl) rfl rfl rfl ?_; clear hA a; intro a hA
                    refine S.no (dj := 110) hA (by kernel_rfl) rfl rfl rfl ?_; clear hA a; intro a hA
                    refine S.no (dj := 110) hA (by kernel_rfl) rfl rfl rfl ?_; clear hA a; intro a hA
                    refine S.val hA (R.pickT rfl rfl) rfl ?_; clear hA a; intro a hA
                    refine S.done ?_
                    replace hA : St 174 [(1, _), (115, _)] a := hA.sub ((.cons rfl (.cons rfl .nil)))
                    exact hJ _ _ ⟨hA.sub (.cons rfl (.cons (by first | rfl | exact congrArg (fun b => some (Value.bool b)) (by first | exact decide_eq_decide.2 (by omega) | exact or_bool (by omega) | exact and_bool (by omega) | (simp; done) | (simp [hg35, hg36]; done) | (have h80 := hg35; (try simp at h80); have h81 := hg36; (try simp at h81); simp [h80, h81]; done) | exact (decide_eq_false (fun h9 => hg35 h9.1)).symm | exact (decide_eq_false (fun h9 => hg36 h9.1)).symm)) .nil)), hM⟩
                  · clear hA; intro hg36 hA
                    refine S.valg (dj := 104) hA (by kernel_rfl) rfl (R.fieldAddr (q := 3) fi25_3 rfl rfl rfl) rfl ?_; clear hA a; intro a hA
                    refine S.valg (dj := 104) hA (by kernel_rfl) rfl (R.load sz22 rfl (hM.cell (k := 0) rfl rfl)) rfl ?_; clear hA a; intro a hA
                    refine S.valg (dj := 104) hA (by kernel_rfl) rfl (R.lenS Tryd.underlying22 rfl rfl) rfl ?_; clear hA a; intro a hA
                    refine S.valg (dj := 104) hA (by kernel_rfl) rfl (R.neq rfl rfl) rfl ?_; clear hA a; intro a hA
                    refine S.val hA (R.pickF rfl rfl) rfl ?_; clear hA a; intro a hA
                    refine S.val hA (R.move rfl) rfl ?_; clear hA a; intro a hA
                    refine hA.split (d := 110) rfl ?_ ?_
                    · clear hA; intro hg37 hA
                      refine S.no (dj := 110) hA (by kernel_rfl) rfl rfl rfl ?_; clear hA a; intro a hA
                      refine S.no (dj := 110) hA (by kernel_rfl) rfl rfl rfl ?_; clear hA a; intro a hA
                      refine S.no (dj := 110) hA (by kernel_rfl) rfl rfl rfl ?_; clear hA a; intro a hA
                      refine S.no (dj := 110) hA (by kernel_rfl) rfl rfl rfl ?_; clear hA a; intro a hA
                      refine S.val hA (R.pickT rfl rfl) rfl ?_; clear hA a; intro a hA
                      refine S.done ?_
                      replace hA : St 174 [(1, _), (115, _)] a := hA.sub ((.cons rfl (.cons rfl .nil)))
                      exact hJ _ _ ⟨hA.sub (.cons rfl (.cons (by first | rfl | exact congrArg (fun b => some (Value.bool b)) (by first | exact decide_eq_decide.2 (by omega) | exact or_bool (by omega) | exact and_bool (by omega) | (simp; done) | (simp [hg35, hg36, hg37]; done) | (have h80 := hg35; (try simp at h80); have h81 := hg36; (try simp at h81); have h82 := hg37; (try simp at h82); simp [h80, h81, h82]; done) | exact (decide_eq_false (fun h9 => hg35 h9.1)).symm | exact (decide_eq_false (fun h9 => hg36 h9.1)).symm | exact (decide_eq_false (fun h9 => hg37 h9.1)).symm)) .nil)), hM⟩
                    · clear hA; intro hg37 hA
                      refine S.valg (dj := 110) hA (by kernel_rfl) rfl (R.fieldAddr (q := 4) fi25_4 rfl rfl rfl) rfl ?_; clear hA a; intro a hA
                      refine S.valg (dj := 110) hA (by kernel_rfl) rfl (R.load sz22 rfl (hM.cell (k := 0) rfl rfl)) rfl ?_; clear hA a; intro a hA
                      refine S.valg (dj := 110) hA (by kernel_rfl) rfl (R.lenS Tryd.underlying22 rfl rfl) rfl ?_; clear hA a; intro a hA
                      refine S.valg (dj := 110) hA (by kernel_rfl) rfl (R.neq rfl rfl) rfl ?_; clear hA a; intro a hA
                      refine S.val hA (R.pickF rfl rfl) rfl ?_; clear hA a; intro a hA
                      refine S.done ?_
                      replace hA : St 174 [(1, _), (115, _)] a := hA.sub ((.cons rfl (.cons rfl .nil)))
                      exact hJ _ _ ⟨hA.sub (.cons rfl (.cons (by first | rfl | exact congrArg (fun b => some (Value.bool b)) (by first | exact decide_eq_decide.2 (by omega) | exact or_bool (by omega) | exact and_bool (by omega) | (simp; done) | (simp [hg35, hg36, hg37]; done) | (have h80 := hg35; (try simp at h80); have h81 := hg36; (try simp at h81); have h82 := hg37; (try simp at h82); simp [h80, h81, h82]; done) | exact (decide_eq_false (fun h9 => hg35 h9.1)).symm | exact (decide_eq_false (fun h9 => hg36 h9.1)).symm | exact (decide_eq_false (fun h9 => hg37 h9.1)).symm)) .nil)), hM⟩
        ·
          refine Ends.region ?_
          refine S.val hA (R.fieldAddr (q := 0) fi25_0 rfl rfl rfl) rfl ?_; clear hA a; intro a hA
          refine S.val hA (R.load sz3 rfl (hM.cell (k := 0) rfl rfl)) rfl ?_; clear hA a; intro a hA
          refine S.val hA (R.eql rfl rfl) rfl ?_; clear hA a; intro a hA
          refine S.val hA (R.move rfl) rfl ?_; clear hA a; intro a hA
          refine hA.split (d := 25) rfl ?_ ?_
          · clear hA; intro hg38 hA
            refine S.valg (dj := 25) hA (by kernel_rfl) rfl (R.fieldAddr (q := 1) fi25_1 rfl rfl rfl) rfl ?_; clear hA a; intro a hA
            refine S.valg (dj := 25) hA (by kernel_rfl) rfl (R.load sz3 rfl (hM.cell (k := 0) rfl rfl)) rfl ?_; clear hA a; intro a hA
            refine S.valg (dj := 25) hA (by kernel_rfl) rfl (R.gtr rfl rfl) rfl ?_; clear hA a; intro a hA
            refine S.val hA (R.pickT rfl rfl) rfl ?_; clear hA a; intro a hA
            refine S.val hA (R.move rfl) rfl ?_; clear hA a; intro a hA
            refine hA.split (d := 30) rfl ?_ ?_
            · clear hA; intro hg39 hA
              refine S.no (dj := 30) hA (by kernel_rfl) rfl rfl rfl ?_; clear hA a; intro a hA
              refine S.no (dj := 30) hA (by kernel_rfl) rfl rfl rfl ?_; clear hA a; intro a hA
              refine S.no (dj := 30) hA (by kernel_rfl) rfl rfl rfl ?_; clear hA a; intro a hA
              refine S.no (dj := 30) hA (by kernel_rfl) rfl rfl rfl ?_; clear hA a; intro a hA
              refine S.noU (dj := 34) hA (by kernel_rfl) rfl rfl ?_; clear hA a; intro a hA
              refine S.noU (dj := 34) hA (by kernel_rfl) rfl rfl ?_; clear hA a; intro a hA
              refine S.noU (dj := 34) hA (by kernel_rfl) rfl rfl ?_; clear hA a; intro a hA
              refine S.no (dj := 30) hA (by kernel_rfl) rfl rfl rfl ?_; clear hA a; intro a hA
              refine S.val hA (R.pickT rfl rfl) rfl ?_; clear hA a; intro a hA
              refine S.done ?_
              replace hA : St 174 [(1, _), (39, _)] a := hA.sub ((.cons rfl (.cons rfl .nil)))
              exact hJ _ _ ⟨hA.sub (.cons rfl (.cons (by first | rfl | exact congrArg (fun b => some (Value.bool b)) (by first | exact decide_eq_decide.2 (by omega) | exact or_bool (by omega) | exact and_bool (by omega) | (simp; done) | (simp [hg38, hg39]; done) | (have h80 := hg38; (try simp at h80); have h81 := hg39; (try simp at h81); simp [h80, h81]; done) | exact (decide_eq_false (fun h9 => hg38 h9.1)).symm | exact (decide_eq_false (fun h9 => hg39 h9.1)).symm)) .nil)), hM⟩
            · clear hA; intro hg39 hA
              refine S.valg (dj := 30) hA (by kernel_rfl) rfl (R.fieldAddr (q := 0) fi25_0 rfl rfl rfl) rfl ?_; clear hA a; intro a hA
              refine S.valg (dj := 30) hA (by kernel_rfl) rfl (R.load sz3 rfl (hM.cell (k := 0) rfl rfl)) rfl ?_; clear hA a; intro a hA
              refine S.valg (dj := 30) hA (by kernel_rfl) rfl (R.gtr rfl rfl) rfl ?_; clear hA a; intro a hA
              refine S.valg (dj := 30) hA (by kernel_rfl) rfl (R.move rfl) rfl ?_; clear hA a; intro a hA
              refine hA.split (d := 34) rfl ?_ ?_
              · clear hA; intro hg40 hA
                refine S.valg (dj := 34) hA (by kernel_rfl) rfl (R.fieldAddr (q := 1) fi25_1 rfl rfl rfl) rfl ?_; clear hA a; intro a hA
                refine S.valg (dj := 34) hA (by kernel_rfl) rfl (R.load sz3 rfl (hM.cell (k := 0) rfl rfl)) rfl ?_; clear hA a; intro a hA
                refine S.valg (dj := 34) hA (by kernel_rfl) rfl (R.gtr rfl rfl) rfl ?_; clear hA a; intro a hA
                refine S.valg (dj := 30) hA (by kernel_rfl) rfl (R.pickT rfl rfl) rfl ?_; clear hA a; intro a hA
                refine S.val hA (R.pickF rfl rfl) rfl ?_; clear hA a; intro a hA
                refine S.done ?_
                replace hA : St 174 [(1, _), (39, _)] a := hA.sub ((.cons rfl (.cons rfl .nil)))
                exact hJ _ _ ⟨hA.sub (.cons rfl (.cons (by first | rfl | exact congrArg (fun b => some (Value.bool b)) (by first | exact decide_eq_decide.2 (by omega) | exact or_bool (by omega) | exact and_bool (by omega) | (simp; done) | (simp [hg38, hg39, hg40]; done) | (have h80 := hg38; (try simp at h80); have h81 := hg39; (try simp at h81); have h82 := hg40; (try simp at h82); simp [h80, h81, h82]; done) | exact (decide_eq_false (fun h9 => hg38 h9.1)).symm | exact (decide_eq_false (fun h9 => hg39 h9.1)).symm | exact (decide_eq_false (fun h9 => hg40 h9.1)).symm)) .nil)), hM⟩
              · clear hA; intro hg40 hA
                refine S.no (dj := 34) hA (by kernel_rfl) rfl rfl rfl ?_; clear hA a; intro a hA
                refine S.no (dj := 34) hA (by kernel_rfl) rfl rfl rfl ?_; clear hA a; intro a hA
                refine S.no (dj := 34) hA (by kernel_rfl) rfl rfl rfl ?_; clear hA a; intro a hA
                refine S.valg (dj := 30) hA (by kernel_rfl) rfl (R.pickF rfl rfl) rfl ?_; clear hA a; intro a hA
                refine S.val hA (R.pickF rfl rfl) rfl ?_; clear hA a; intro a hA
                refine S.done ?_
                replace hA : St 174 [(1, _), (39, _)] a := hA.sub ((.cons rfl (.cons rfl .nil)))
                exact hJ _ _ ⟨hA.sub (.cons rfl (.cons (by first | rfl | exact congrArg (fun b => some (Value.bool b)) (by first | exact decide_eq_decide.2 (by omega) | exact or_bool (by omega) | exact and_bool (by omega) | (simp; done) | (simp [hg38, hg39, hg40]; done) | (have h80 := hg38; (try simp at h80); have h81 := hg39; (try simp at h81); have h82 := hg40; (try simp at h82); simp [h80, h81, h82]; done) | exact (decide_eq_false (fun h9 => hg38 h9.1)).symm | exact (decide_eq_false (fun h9 => hg39 h9.1)).symm | exact (decide_eq_false (fun h9 => hg40 h9.1)).symm)) .nil)), hM⟩
          · clear hA; intro hg38 hA
            refine S.no (dj := 25) hA (by kernel_rfl) rfl rfl rfl ?_; clear hA a; intro a hA
            refine S.no (dj := 25) hA (by kernel_rfl) rfl rfl rfl ?_; clear hA a; intro a hA
            refine S.no (dj := 25) hA (by kernel_rfl) rfl rfl rfl ?_; clear hA a; intro a hA
            refine S.val hA (R.pickF rfl rfl) rfl ?_; clear hA a; intro a hA
            refine S.val hA (R.move rfl) rfl ?_; clear hA a; intro a hA
            refine S.valg (dj := 30) hA (by kernel_rfl) rfl (R.fieldAddr (q := 0) fi25_0 rfl rfl rfl) rfl ?_; clear hA a; intro a hA
            refine S.valg (dj := 30) hA (by kernel_rfl) rfl (R.load sz3 rfl (hM.cell (k := 0) rfl rfl)) rfl ?_; clear hA a; intro a hA
            refine S.valg (dj := 30) hA (by kernel_rfl) rfl (R.gtr rfl rfl) rfl ?_; clear hA a; intro a hA
            refine S.valg (dj := 30) hA (by kernel_rfl) rfl (R.move rfl) rfl ?_; clear hA a; intro a hA
            refine hA.split (d := 34) rfl ?_ ?_
            · clear hA; intro hg41 hA
              refine S.valg (dj := 34) hA (by kernel_rfl) rfl (R.fieldAddr (q := 1) fi25_1 rfl rfl rfl) rfl ?_; clear hA a; intro a hA
              refine S.valg (dj := 34) hA (by kernel_rfl) rfl (R.load sz3 rfl (hM.cell (k := 0) rfl rfl)) rfl ?_; clear hA a; intro a hA
              refine S.valg (dj := 34) hA (by kernel_rfl) rfl (R.gtr rfl rfl) rfl ?_; clear hA a; intro a hA
              refine S.valg (dj := 30) hA (by kernel_rfl) rfl (R.pickT rfl rfl) rfl ?_; clear hA a; intro a hA
              refine S.val hA (R.pickF rfl rfl) rfl ?_; clear hA a; intro a hA
              refine S.done ?_
              replace hA : St 174 [(1, _), (39, _)] a := hA.sub ((.cons rfl (.cons rfl .nil)))
              exact hJ _ _ ⟨hA.sub (.cons rfl (.cons (by first | rfl | exact congrArg (fun b => some (Value.bool b)) (by first | exact decide_eq_decide.2 (by omega) | exact or_bool (by omega) | exact and_bool (by omega) | (simp; done) | (simp [hg38, hg41]; done) | (have h80 := hg38; (try simp at h80); have h81 := hg41; (try simp at h81); simp [h80, h81]; done) | exact (decide_eq_false (fun h9 => hg38 h9.1)).symm | exact (decide_eq_false (fun h9 => hg41 h9.1)).symm)) .nil)), hM⟩
            · clear hA; intro hg41 hA
              refine S.no (dj := 34) hA (by kernel_rfl) rfl rfl rfl ?_; clear hA a; intro a hA
              refine S.no (dj := 34) hA (by kernel_rfl) rfl rfl rfl ?_; clear hA a; intro a hA
              refine S.no (dj := 34) hA (by kernel_rfl) rfl rfl rfl ?_; clear hA a; intro a hA
              refine S.valg (dj := 30) hA (by kernel_rfl) rfl (R.pickF rfl rfl) rfl ?_; clear hA a; intro a hA
              refine S.val hA (R.pickF rfl rfl) rfl ?_; clear hA a; intro a hA
              refine S.done ?_
              replace hA : St 174 [(1, _), (39, _)] a := hA.sub ((.cons rfl (.cons rfl .nil)))
              exact hJ _ _ ⟨hA.sub (.cons rfl (.cons (by first | rfl | exact congrArg (fun b => some (Value.bool b)) (by first | exact decide_eq_decide.2 (by omega) | exact or_bool (by omega) | exact and_bool (by omega) | (simp; done) | (simp [hg38, hg41]; done) | (have h80 := hg38; (try simp at h80); have h81 := hg41; (try simp at h81); simp [h80, h81]; done) | exact (decide_eq_false (fun h9 => hg38 h9.1)).symm | exact (decide_eq_false (fun h9 => hg41 h9.1)).symm)) .nil)), hM⟩
  ·
    refine Ends.region ?_
    refine S.val hA (R.fieldAddr (q := 0) fi25_0 rfl rfl rfl) rfl ?_; clear hA a; intro a hA
    refine S.val hA (R.load sz3 rfl (hM.cell (k := 0) rfl rfl)) rfl ?_; clear hA a; intro a hA
    refine S.val hA (R.lss rfl rfl) rfl ?_; clear hA a; intro a hA
    refine S.val hA (R.move rfl) rfl ?_; clear hA a; intro a hA
    refine hA.split (d := 14) rfl ?_ ?_
    · clear hA; intro hg42 hA
      refine S.no (dj := 14) hA (by kernel_rfl) rfl rfl rfl ?_; clear hA a; intro a hA
      refine S.no (dj := 14) hA (by kernel_rfl) rfl rfl rfl ?_; clear hA a; intro a hA
      refine S.no (dj := 14) hA (by kernel_rfl) rfl rfl rfl ?_; clear hA a; intro a hA
      refine S.val hA (R.pickT rfl rfl) rfl ?_; clear hA a; intro a hA
      refine S.done ?_
      replace hA : St 174 [(1, _), (18, _)] a := hA.sub ((.cons rfl (.cons rfl .nil)))
      exact hJ _ _ ⟨hA.sub (.cons rfl (.cons (by first | rfl | exact congrArg (fun b => some (Value.bool b)) (by first | exact decide_eq_decide.2 (by omega) | exact or_bool (by omega) | exact and_bool (by omega) | (simp; done) | (simp [hg42]; done) | (have h80 := hg42; (try simp at h80); simp [h80]; done) | exact (decide_eq_false (fun h9 => hg42 h9.1)).symm)) .nil)), hM⟩
    · clear hA; intro hg42 hA
      refine S.valg (dj := 14) hA (by kernel_rfl) rfl (R.fieldAddr (q := 0) fi25_0 rfl rfl rfl) rfl ?_; clear hA a; intro a hA
      refine S.valg (dj := 14) hA (by kernel_rfl) rfl (R.load sz3 rfl (hM.cell (k := 0) rfl rfl)) rfl ?_; clear hA a; intro a hA
      refine S.valg (dj := 14) hA (by kernel_rfl) rfl (R.gtr rfl rfl) rfl ?_; clear hA a; intro a hA
      refine S.val hA (R.pickF rfl rfl) rfl ?_; clear hA a; intro a hA
      refine S.done ?_
      replace hA : St 174 [(1, _), (18, _)] a := hA.sub ((.cons rfl (.cons rfl .nil)))
      exact hJ _ _ ⟨hA.sub (.cons rfl (.cons (by first | rfl | exact congrArg (fun b => some (Value.bool b)) (by first | exact decide_eq_decide.2 (by omega) | exact or_bool (by omega) | exact and_bool (by omega) | (simp; done) | (simp [hg42]; done) | (have h80 := hg42; (try simp at h80); simp [h80]; done) | exact (decide_eq_false (fun h9 => hg42 h9.1)).symm)) .nil)), hM⟩
end Go.Proofs.YtakfcekfmdjklaaDoor
