/-
  KurganDrawn, part 4 of 5: what the code computes, and plain laws; no condition beside those that each theorem tells.
-/
import Derived.Test.YtakfcekfmdjklaaDoorKurganDrawnC
namespace Go.Proofs.YtakfcekfmdjklaaDoor
open Go.RowKit
theorem itF_z {i : Ins} {k : Nat} (h : numE (i.wt.getD k 0) = 0) : itF i k = numE (i.vl.getD k 0) := if_neg (by rw [h]; simp)
theorem itF_e {i : Ins} {k : Nat} (h : ¬ numE (i.wt.getD k 0) = 0) : itF i k = numE (i.wt.getD k 0) := if_pos h
theorem cellF_e {i : Ins} {r c : Nat} (h : numE ((i.cost.getD r []).getD c 0) ≠ 0) : cellF i r c = numE ((i.cost.getD r []).getD c 0) := if_pos h
theorem cellF_f {i : Ins} {r c : Nat} (h : ¬ numE ((i.cost.getD r []).getD c 0) ≠ 0) (h2 : (i.kind = 3 ∧ (r : Int) = c) ∧ (i.cost.getD r []).getD c 0 ≠ 0) : cellF i r c = 8 := by
  unfold cellF; rw [if_neg h, if_pos ⟨⟨h2.1.1, by omega⟩, h2.2⟩]
theorem cellF_z {i : Ins} {r c : Nat} (h : ¬ numE ((i.cost.getD r []).getD c 0) ≠ 0) (h2 : ¬ ((i.kind = 3 ∧ (r : Int) = c) ∧ (i.cost.getD r []).getD c 0 ≠ 0)) : cellF i r c = 0 := by
  unfold cellF; rw [if_neg h, if_neg (fun g => h2 ⟨⟨g.1.1, by omega⟩, g.2⟩)]
set_option maxRecDepth 100000 in
set_option maxHeartbeats 400000 in
theorem num05 (n : Int) (w : World) :
  Calls Tryd.prog 58 #[.int .i64 n] w fun e w' => e = .returned (.int .i64 (numE n)) ∧ Below w.heap.size w w' := by
 have hbs := Below.refl (B := w.heap.size) w
 have hM := Mem.start w
 refine Calls.of_ends (vs := [.int .i64 n]) Tryd.func58 rfl Tryd.ntmps58 rfl ?_
 intro a hA
 replace hA : St 9 [(0, _)] a := hA
 refine Ends.seq (Ends.region ?_)
 refine S.val hA (R.assign rfl) rfl ?_; clear hA a; intro a hA
 refine S.done ?_
 refine Ends.seq (Ends.block (Ends.seq (Ends.region ?_)))
 refine S.val hA (R.move rfl) rfl ?_; clear hA a; intro a hA
 refine S.val hA (R.lss rfl rfl) rfl ?_; clear hA a; intro a hA
 refine S.val hA (R.assign rfl) rfl ?_; clear hA a; intro a hA
 refine S.done ?_
 refine Ends.ite hA rfl (fun hc1 => ?_) (fun hc1 => ?_)
 ·
  refine Ends.seq (Ends.region ?_)
  refine S.val hA (R.assign rfl) rfl ?_; clear hA a; intro a hA
  refine S.done ?_
  replace hA : St 9 [(2, _)] a := hA.sub ((.cons rfl .nil))
  refine Ends.ret1 Tryd.func58 Tryd.results58 hA rfl ?_
  have he : numE n = 1 := by unfold numE; (repeat' split) <;> omega
  exact ⟨by rw [he], Mem.trans0 hbs hM.nilL⟩
 ·
  refine Ends.seq (Ends.region ?_)
  refine S.val hA (R.move rfl) rfl ?_; clear hA a; intro a hA
  refine S.val hA (R.gtr rfl rfl) rfl ?_; clear hA a; intro a hA
  refine S.val hA (R.assign rfl) rfl ?_; clear hA a; intro a hA
  refine S.done ?_
  replace hA : St 9 [(6, _)] a := hA.sub ((.cons rfl .nil))
  refine Ends.ite hA rfl (fun hc2 => ?_) (fun hc2 => ?_)
  ·
   refine Ends.seq (Ends.region ?_)
   refine S.val hA (R.assign rfl) rfl ?_; clear hA a; intro a hA
   refine S.done ?_
   refine Ends.ret1 Tryd.func58 Tryd.results58 hA rfl ?_
   have he : numE n = 5 := by unfold numE; (repeat' split) <;> omega
   exact ⟨by rw [he], Mem.trans0 hbs hM.nilL⟩
  ·
   refine Ends.skip (Ends.inBlock (Ends.seq (Ends.region ?_)))
   refine S.val hA (R.assign rfl) rfl ?_; clear hA a; intro a hA
   refine S.done ?_
   refine Ends.ret1 Tryd.func58 Tryd.results58 hA rfl ?_
   have he : numE n = 0 := by unfold numE; (repeat' split) <;> omega
   exact ⟨by rw [he], Mem.trans0 hbs hM.nilL⟩
set_option maxRecDepth 100000 in
set_option maxHeartbeats 400000 in
theorem size05 (i : Ins) (ax3 : Option Addr) (cx3 : Nat) (ax4 : Option Addr) (cx4 : Nat) (ax5 : Option Addr) (cx5 : Nat) (w : World) (hx3 : IntSl w (.slice ax3 i.wt.length cx3) i.wt) (hx4 : IntSl w (.slice ax4 i.vl.length cx4) i.vl) (hx5 : RowsV w (.slice ax5 i.cost.length cx5) i.cost) :
  Calls Tryd.prog 37 #[.agg #[.int .i64 i.kind, .int .i64 i.n, .int .i64 i.cap, .slice ax3 i.wt.length cx3, .slice ax4 i.vl.length cx4, .slice ax5 i.cost.length cx5]] w fun e w' => e = .returned (.int .i64 (sizeE i)) ∧ Below w.heap.size w w' := by
 have hbs := Below.refl (B := w.heap.size) w
 have hM := Mem.start w
 refine Calls.of_ends (vs := [.agg #[.int .i64 i.kind, .int .i64 i.n, .int .i64 i.cap, .slice ax3 i.wt.length cx3, .slice ax4 i.vl.length cx4, .slice ax5 i.cost.length cx5]]) Tryd.func37 rfl Tryd.ntmps37 rfl ?_
 intro a hA
 replace hA : St 20 [(0, _)] a := hA
 refine Ends.seq (Ends.region ?_)
 refine S.box hA hM rfl rfl ?_; clear hA hM a; intro b1 w1 hb2 hM a hA
 replace hM : Mem _ _ [pt b1 #[.int .i64 i.kind, .int .i64 i.n, .int .i64 i.cap, .slice ax3 i.wt.length cx3, .slice ax4 i.vl.length cx4, .slice ax5 i.cost.length cx5] 25] _ := hM
 refine S.val hA (R.assign rfl) rfl ?_; clear hA a; intro a hA
 refine S.done ?_
 refine Ends.seq (Ends.region ?_)
 refine S.val hA (R.assign rfl) rfl ?_; clear hA a; intro a hA
 refine S.done ?_
 refine Ends.seq (Ends.seq (Ends.region ?_))
 refine S.val hA (R.fieldAddr (q := 0) fi25_0 rfl rfl rfl) rfl ?_; clear hA a; intro a hA
 refine S.val hA (R.load sz3 rfl (hM.cell (k := 0) rfl rfl)) rfl ?_; clear hA a; intro a hA
 refine S.done ?_
 refine Ends.block (Ends.seq (Ends.region ?_))
 refine S.val hA (R.eql rfl rfl) rfl ?_; clear hA a; intro a hA
 refine S.val hA (R.assign rfl) rfl ?_; clear hA a; intro a hA
 refine S.done ?_
 replace hA : St 20 [(1, _), (3, _), (5, _), (6, _)] a := hA.sub ((.cons rfl (.cons rfl (.cons rfl (.cons rfl .nil)))))
 refine Ends.ite hA rfl (fun hc3 => ?_) (fun hc3 => ?_)
 ·
  refine Ends.region ?_
  refine S.val hA (R.assign rfl) rfl ?_; clear hA a; intro a hA
  refine S.done ?_
  refine Ends.inBlock (Ends.seq (Ends.block (Ends.seq (Ends.region ?_))))
  refine S.val hA (R.fieldAddr (q := 1) fi25_1 rfl rfl rfl) rfl ?_; clear hA a; intro a hA
  refine S.val hA (R.load sz3 rfl (hM.cell (k := 0) rfl rfl)) rfl ?_; clear hA a; intro a hA
  refine S.val hA (R.lss rfl rfl) rfl ?_; clear hA a; intro a hA
  refine S.val hA (R.assign rfl) rfl ?_; clear hA a; intro a hA
  refine S.done ?_
  replace hA : St 20 [(1, _), (3, _), (11, _)] a := hA.sub ((.cons rfl (.cons rfl (.cons rfl .nil))))
  refine Ends.ite hA rfl (fun hc4 => ?_) (fun hc4 => ?_)
  ·
   refine Ends.seq (Ends.region ?_)
   refine S.val hA (R.assign rfl) rfl ?_; clear hA a; intro a hA
   refine S.done ?_
   refine Ends.ret1 Tryd.func37 Tryd.results37 hA rfl ?_
   have he : sizeE i = 1 := by unfold sizeE; (repeat' split) <;> omega
   exact ⟨by rw [he], Mem.trans0 hbs hM.nilL⟩
  ·
   refine Ends.seq (Ends.region ?_)
   refine S.val hA (R.fieldAddr (q := 1) fi25_1 rfl rfl rfl) rfl ?_; clear hA a; intro a hA
   refine S.val hA (R.load sz3 rfl (hM.cell (k := 0) rfl rfl)) rfl ?_; clear hA a; intro a hA
   refine S.val hA (R.move rfl) rfl ?_; clear hA a; intro a hA
   refine S.val hA (R.gtr rfl rfl) rfl ?_; clear hA a; intro a hA
   refine S.val hA (R.assign rfl) rfl ?_; clear hA a; intro a hA
   refine S.done ?_
   replace hA : St 20 [(15, _)] a := hA.sub ((.cons rfl .nil))
   refine Ends.ite hA rfl (fun hc5 => ?_) (fun hc5 => ?_)
   ·
    refine Ends.seq (Ends.region ?_)
    refine S.val hA (R.assign rfl) rfl ?_; clear hA a; intro a hA
    refine S.done ?_
    refine Ends.ret1 Tryd.func37 Tryd.results37 hA rfl ?_
    have he : sizeE i = 5 := by unfold sizeE; (repeat' split) <;> omega
    exact ⟨by rw [he], Mem.trans0 hbs hM.nilL⟩
   ·
    refine Ends.skip (Ends.inBlock (Ends.seq (Ends.region ?_)))
    refine S.val hA (R.assign rfl) rfl ?_; clear hA a; intro a hA
    refine S.done ?_
    refine Ends.ret1 Tryd.func37 Tryd.results37 hA rfl ?_
    have he : sizeE i = 0 := by unfold sizeE; (repeat' split) <;> omega
    exact ⟨by rw [he], Mem.trans0 hbs hM.nilL⟩
 ·
  refine Ends.seq (Ends.seq (Ends.region ?_))
  refine S.val hA (R.eql rfl rfl) rfl ?_; clear hA a; intro a hA
  refine S.val hA (R.assign rfl) rfl ?_; clear hA a; intro a hA
  refine S.done ?_
  refine Ends.ite hA rfl (fun hc6 => ?_) (fun hc6 => ?_)
  ·
   refine Ends.skip ?_
   refine Ends.ite hA rfl (fun hc7 => ?_) (fun hc7 => ?_)
   ·
    refine Ends.skip (Ends.inBlock (Ends.seq (Ends.block (Ends.seq (Ends.region ?_)))))
    refine S.val hA (R.fieldAddr (q := 1) fi25_1 rfl rfl rfl) rfl ?_; clear hA a; intro a hA
    refine S.val hA (R.load sz3 rfl (hM.cell (k := 0) rfl rfl)) rfl ?_; clear hA a; intro a hA
    refine S.val hA (R.lss rfl rfl) rfl ?_; clear hA a; intro a hA
    refine S.val hA (R.assign rfl) rfl ?_; clear hA a; intro a hA
    refine S.done ?_
    replace hA : St 20 [(1, _), (3, _), (11, _)] a := hA.sub ((.cons rfl (.cons rfl (.cons rfl .nil))))
    refine Ends.ite hA rfl (fun hc8 => ?_) (fun hc8 => ?_)
    ·
     refine Ends.seq (Ends.region ?_)
     refine S.val hA (R.assign rfl) rfl ?_; clear hA a; intro a hA
     refine S.done ?_
     refine Ends.ret1 Tryd.func37 Tryd.results37 hA rfl ?_
     have he : sizeE i = 1 := by unfold sizeE; (repeat' split) <;> omega
     exact ⟨by rw [he], Mem.trans0 hbs hM.nilL⟩
    ·
     refine Ends.seq (Ends.region ?_)
     refine S.val hA (R.fieldAddr (q := 1) fi25_1 rfl rfl rfl) rfl ?_; clear hA a; intro a hA
     refine S.val hA (R.load sz3 rfl (hM.cell (k := 0) rfl rfl)) rfl ?_; clear hA a; intro a hA
     refine S.val hA (R.move rfl) rfl ?_; clear hA a; intro a hA
     refine S.val hA (R.gtr rfl rfl) rfl ?_; clear hA a; intro a hA
     refine S.val hA (R.assign rfl) rfl ?_; clear hA a; intro a hA
     refine S.done ?_
     replace hA : St 20 [(15, _)] a := hA.sub ((.cons rfl .nil))
     refine Ends.ite hA rfl (fun hc9 => ?_) (fun hc9 => ?_)
     ·
      refine Ends.seq (Ends.region ?_)
      refine S.val hA (R.assign rfl) rfl ?_; clear hA a; intro a hA
      refine S.done ?_
      refine Ends.ret1 Tryd.func37 Tryd.results37 hA rfl ?_
      have he : sizeE i = 5 := by unfold sizeE; (repeat' split) <;> omega
      exact ⟨by rw [he], Mem.trans0 hbs hM.nilL⟩
     ·
      refine Ends.skip (Ends.inBlock (Ends.seq (Ends.region ?_)))
      refine S.val hA (R.assign rfl) rfl ?_; clear hA a; intro a hA
      refine S.done ?_
      refine Ends.ret1 Tryd.func37 Tryd.results37 hA rfl ?_
      have he : sizeE i = 0 := by unfold sizeE; (repeat' split) <;> omega
      exact ⟨by rw [he], Mem.trans0 hbs hM.nilL⟩
   ·
    refine Ends.seq (Ends.region ?_)
    refine S.val hA (R.assign rfl) rfl ?_; clear hA a; intro a hA
    refine S.done ?_
    replace hA : St 20 [(1, _), (2, _), (3, _)] a := hA.sub ((.cons rfl (.cons rfl (.cons rfl .nil))))
    refine Ends.ret1 Tryd.func37 Tryd.results37 hA rfl ?_
    have he : sizeE i = 14 := by unfold sizeE; (repeat' split) <;> omega
    exact ⟨by rw [he], Mem.trans0 hbs hM.nilL⟩
  ·
   refine Ends.region ?_
   refine S.val hA (R.eql rfl rfl) rfl ?_; clear hA a; intro a hA
   refine S.val hA (R.assign rfl) rfl ?_; clear hA a; intro a hA
   refine S.done ?_
   replace hA : St 20 [(1, _), (3, _), (8, _)] a := hA.sub ((.cons rfl (.cons rfl (.cons rfl .nil))))
   refine Ends.ite hA rfl (fun hc10 => ?_) (fun hc10 => ?_)
   ·
    refine Ends.skip (Ends.inBlock (Ends.seq (Ends.block (Ends.seq (Ends.region ?_)))))
    refine S.val hA (R.fieldAddr (q := 1) fi25_1 rfl rfl rfl) rfl ?_; clear hA a; intro a hA
    refine S.val hA (R.load sz3 rfl (hM.cell (k := 0) rfl rfl)) rfl ?_; clear hA a; intro a hA
    refine S.val hA (R.lss rfl rfl) rfl ?_; clear hA a; intro a hA
    refine S.val hA (R.assign rfl) rfl ?_; clear hA a; intro a hA
    refine S.done ?_
    replace hA : St 20 [(1, _), (3, _), (11, _)] a := hA.sub ((.cons rfl (.cons rfl (.cons rfl .nil))))
    refine Ends.ite hA rfl (fun hc11 => ?_) (fun hc11 => ?_)
    ·
     refine Ends.seq (Ends.region ?_)
     refine S.val hA (R.assign rfl) rfl ?_; clear hA a; intro a hA
     refine S.done ?_
     refine Ends.ret1 Tryd.func37 Tryd.results37 hA rfl ?_
     have he : sizeE i = 1 := by unfold sizeE; (repeat' split) <;> omega
     exact ⟨by rw [he], Mem.trans0 hbs hM.nilL⟩
    ·
     refine Ends.seq (Ends.region ?_)
     refine S.val hA (R.fieldAddr (q := 1) fi25_1 rfl rfl rfl) rfl ?_; clear hA a; intro a hA
     refine S.val hA (R.load sz3 rfl (hM.cell (k := 0) rfl rfl)) rfl ?_; clear hA a; intro a hA
     refine S.val hA (R.move rfl) rfl ?_; clear hA a; intro a hA
     refine S.val hA (R.gtr rfl rfl) rfl ?_; clear hA a; intro a hA
     refine S.val hA (R.assign rfl) rfl ?_; clear hA a; intro a hA
     refine S.done ?_
     replace hA : St 20 [(15, _)] a := hA.sub ((.cons rfl .nil))
     refine Ends.ite hA rfl (fun hc12 => ?_) (fun hc12 => ?_)
     ·
      refine Ends.seq (Ends.region ?_)
      refine S.val hA (R.assign rfl) rfl ?_; clear hA a; intro a hA
      refine S.done ?_
      refine Ends.ret1 Tryd.func37 Tryd.results37 hA rfl ?_
      have he : sizeE i = 5 := by unfold sizeE; (repeat' split) <;> omega
      exact ⟨by rw [he], Mem.trans0 hbs hM.nilL⟩
     ·
      refine Ends.skip (Ends.inBlock (Ends.seq (Ends.region ?_)))
      refine S.val hA (R.assign rfl) rfl ?_; clear hA a; intro a hA
      refine S.done ?_
      refine Ends.ret1 Tryd.func37 Tryd.results37 hA rfl ?_
      have he : sizeE i = 0 := by unfold sizeE; (repeat' split) <;> omega
      exact ⟨by rw [he], Mem.trans0 hbs hM.nilL⟩
   ·
    refine Ends.seq (Ends.region ?_)
    refine S.val hA (R.assign rfl) rfl ?_; clear hA a; intro a hA
    refine S.done ?_
    refine Ends.ret1 Tryd.func37 Tryd.results37 hA rfl ?_
    have he : sizeE i = 14 := by unfold sizeE; (repeat' split) <;> omega
    exact ⟨by rw [he], Mem.trans0 hbs hM.nilL⟩
set_option maxRecDepth 100000 in
set_option maxHeartbeats 400000 in
theorem shape1 (bx : Nat) (ar : Option Addr) (Rw : List Int) (cr : Nat) (i : Ins) (ax3 : Option Addr) (cx3 : Nat) (ax4 : Option Addr) (cx4 : Nat) (ax5 : Option Addr) (cx5 : Nat) (w : World) (hr : IntSl w (.slice ar Rw.length cr) Rw) (hqbx : w.heap[bx]? = some (.cells #[.int .i64 i.kind, .int .i64 i.n, .int .i64 i.cap, .slice ax3 i.wt.length cx3, .slice ax4 i.vl.length cx4, .slice ax5 i.cost.length cx5] 25 (0, 0))) (hx3 : IntSl w (.slice ax3 i.wt.length cx3) i.wt) (hx4 : IntSl w (.slice ax4 i.vl.length cx4) i.vl) (hx5 : RowsV w (.slice ax5 i.cost.length cx5) i.cost) :
    Calls Tryd.prog 57 #[.slice ar Rw.length cr, .pointer (some ⟨bx, 0, none⟩)] w fun e w' => e = .returned (.bool (decide ((Rw.length : Int) ≠ i.n))) ∧ Below w.heap.size w w' := by
  have hbs := Below.refl (B := w.heap.size) w
  have hM := Mem.start w
  refine Calls.of_ends (vs := [.slice ar Rw.length cr, .pointer (some ⟨bx, 0, none⟩)]) Tryd.func57 rfl Tryd.ntmps57 rfl ?_
  intro a hA
  replace hA : St 9 [(0, _), (1, _)] a := hA
  refine Ends.seq (Ends.region ?_)
  refine S.val hA (R.assign rfl) rfl ?_; clear hA a; intro a hA
  refine S.done ?_
  refine Ends.seq (Ends.region ?_)
  refine S.val hA (R.move rfl) rfl ?_; clear hA a; intro a hA
  refine S.val hA (R.lenS Tryd.underlying22 rfl rfl) rfl ?_; clear hA a; intro a hA
  refine S.val hA (R.fieldAddr (q := 1) fi25_1 rfl rfl rfl) rfl ?_; clear hA a; intro a hA
  refine S.val hA (R.load sz3 rfl (hM.cellB hqbx rfl)) rfl ?_; clear hA a; intro a hA
  refine S.val hA (R.neq rfl rfl) rfl ?_; clear hA a; intro a hA
  refine S.val hA (R.assign rfl) rfl ?_; clear hA a; intro a hA
  refine S.done ?_
  replace hA : St 9 [(3, _)] a := hA.sub ((.cons rfl .nil))
  refine Ends.ret1 Tryd.func57 Tryd.results57 hA rfl ?_
  exact ⟨rfl, Mem.trans0 hbs hM.nilL⟩
set_option maxRecDepth 100000 in
set_option maxHeartbeats 400000 in
theorem indexR (bx : Nat) (i : Ins) (ax3 : Option Addr) (cx3 : Nat) (ax4 : Option Addr) (cx4 : Nat) (ax5 : Option Addr) (cx5 : Nat) (w : World) (hqbx : w.heap[bx]? = some (.cells #[.int .i64 i.kind, .int .i64 i.n, .int .i64 i.cap, .slice ax3 i.wt.length cx3, .slice ax4 i.vl.length cx4, .slice ax5 i.cost.length cx5] 25 (0, 0))) (hx3 : IntSl w (.slice ax3 i.wt.length cx3) i.wt) (hx4 : IntSl w (.slice ax4 i.vl.length cx4) i.vl) (hx5 : RowsV w (.slice ax5 i.cost.length cx5) i.cost) :
  Calls Tryd.prog 74 #[.slice ax5 i.cost.length cx5, .func (.func 57) #[] #[.pointer (some ⟨bx, 0, none⟩)]] w fun e w' => ∃ r : Int, e = .returned (.int .i64 r) ∧ (0 ≤ r ↔ ¬ ∀ r, r < i.cost.length → ((i.cost.getD r []).length : Int) = i.n) ∧ Below w.heap.size w w' := by
 have hbs := Below.refl (B := w.heap.size) w
 have hl5 := hx5.lenB
 have hM := Mem.start w
 refine Calls.of_ends (vs := [.slice ax5 i.cost.length cx5, .func (.func 57) #[] #[.pointer (some ⟨bx, 0, none⟩)]]) Tryd.func74 rfl Tryd.ntmps74 rfl ?_
 intro a hA
 replace hA : St 19 [(0, _), (1, _)] a := hA
 refine Ends.seq (Ends.region ?_)
 refine S.val hA (R.assign rfl) rfl ?_; clear hA a; intro a hA
 refine S.done ?_
 refine Ends.seq (Ends.seq (Ends.region ?_))
 refine S.val hA (R.move rfl) rfl ?_; clear hA a; intro a hA
 refine S.val hA (R.lenS Tryd.underlying23 rfl rfl) rfl ?_; clear hA a; intro a hA
 refine S.val hA (R.move rfl) rfl ?_; clear hA a; intro a hA
 refine S.done ?_
 refine Ends.block ?_
 refine Ends.loop (σ := Nat) (fun k (a : Act) (wv : World) => St 19 [(0, .slice ax5 i.cost.length cx5), (1, .func (.func 57) #[] #[.pointer (some ⟨bx, 0, none⟩)]), (7, .int .i64 ((i.cost.length : Int))), (8, .int .i64 ((k : Int)))] a ∧ Mem w nof [] wv ∧ (k ≤ i.cost.length) ∧ (∀ r, r < k → ((i.cost.getD r []).length : Int) = i.n)) (fun k => i.cost.length - k) 0 ⟨hA.sub ((.cons rfl (.cons rfl (.cons rfl (.cons rfl .nil))))), hM, (Nat.zero_le _), (fun j hj => absurd hj (Nat.not_lt_zero _))⟩ ?_
 clear hA hM a
 rintro k a w1 ⟨hA, hM, hk, hk2⟩ hNext
 refine Ends.seq (Ends.region ?_)
 refine S.val hA (R.lss rfl rfl) rfl ?_; clear hA a; intro a hA
 refine S.done ?_
 refine Ends.seq ?_
 refine Ends.ite hA rfl (fun hc1 => ?_) (fun hc1 => ?_)
 ·
  refine Ends.skip (Ends.seq (Ends.block (Ends.seq (Ends.region ?_))))
  refine S.val hA (R.move rfl) rfl ?_; clear hA a; intro a hA
  refine S.val hA (R.assign rfl) rfl ?_; clear hA a; intro a hA
  refine S.done ?_
  refine Ends.seq (Ends.region ?_)
  refine S.val hA (R.move rfl) rfl ?_; clear hA a; intro a hA
  refine S.val hA (R.move rfl) rfl ?_; clear hA a; intro a hA
  refine S.val hA (R.move rfl) rfl ?_; clear hA a; intro a hA
  refine S.val hA (R.idxR hx5 (j := k) sl23 rfl rfl (by omega) (rfl)) rfl ?_; clear hA a; intro a hA
  obtain ⟨ra2, rc3, hrow4, hld5⟩ := hx5.atP (i := k) (by omega)
  refine S.val hA (hld5 _ _ _ _ _ _ hM sz22 rfl) rfl ?_; clear hA a; intro a hA
  refine S.call hA (R.callV Tryd.func57 (by kernel_rfl) rfl rfl rfl) rfl (shape1 bx ra2 ((i.cost.getD k [])) rc3 i ax3 cx3 ax4 cx4 ax5 cx5 _ (hrow4.mem hM) (hM.keepB hqbx) (hx3.mem hM) (hx4.mem hM) (hx5.mem hM)) ?_; clear hA a
  rintro e w2 ⟨rfl, hb⟩
  replace hM := hM.callB hb; clear hb
  refine ⟨.bool (decide (((((i.cost.getD k [])).length : Nat) : Int) ≠ i.n)), rfl, fun a hA => ?_⟩
  refine S.done ?_
  replace hA : St 19 [(0, _), (1, _), (5, _), (7, _), (8, _), (16, _)] a := hA.sub ((.cons rfl (.cons rfl (.cons rfl (.cons rfl (.cons rfl (.cons rfl .nil)))))))
  refine Ends.ite hA rfl (fun hc6 => ?_) (fun hc6 => ?_)
  ·
   refine Ends.seq (Ends.region ?_)
   refine S.val hA (R.move rfl) rfl ?_; clear hA a; intro a hA
   refine S.val hA (R.assign rfl) rfl ?_; clear hA a; intro a hA
   refine S.done ?_
   refine Ends.ret1 Tryd.func74 Tryd.results74 hA rfl ?_
   exact ⟨(k : Int), rfl, ⟨fun _ h => hc6 (h k (by omega)), fun _ => by omega⟩, Mem.trans0 hbs hM.nilL⟩
  ·
   refine Ends.skip (Ends.inBlock (Ends.region ?_))
   refine S.val hA (R.addI rfl rfl (r := ((k : Int)) + 1) rfl (by omega)) rfl ?_; clear hA a; intro a hA
   refine S.val hA (R.move rfl) rfl ?_; clear hA a; intro a hA
   refine S.done ?_
   exact hNext ((k + 1)) _ _ ((by show i.cost.length - (k + 1) < i.cost.length - k; omega)) ⟨hA.sub ((.cons rfl (.cons rfl (.cons rfl (.cons rfl .nil))))), hM, (by omega), (fun j hj => (Nat.lt_or_ge j k).elim (fun g => hk2 j g) (fun g => by have e : j = k := (by omega); rw [e]; exact Decidable.not_not.1 hc6))⟩
 ·
  refine Ends.exit rfl ?_
  replace hA : St 19 [] a := hA.sub (.nil)
  refine Ends.seq (Ends.region ?_)
  refine S.val hA (R.assign rfl) rfl ?_; clear hA a; intro a hA
  refine S.done ?_
  refine Ends.ret1 Tryd.func74 Tryd.results74 hA rfl ?_
  have hkl : k = i.cost.length := by omega
  exact ⟨-1, rfl, ⟨fun h => by omega, fun h => absurd (fun r hr => hk2 r (by omega)) h⟩, Mem.trans0 hbs hM.nilL⟩
set_option maxRecDepth 100000 in
set_option maxHeartbeats 400000 in
theorem containsR (bx : Nat) (i : Ins) (ax3 : Option Addr) (cx3 : Nat) (ax4 : Option Addr) (cx4 : Nat) (ax5 : Option Addr) (cx5 : Nat) (w : World) (hqbx : w.heap[bx]? = some (.cells #[.int .i64 i.kind, .int .i64 i.n, .int .i64 i.cap, .slice ax3 i.wt.length cx3, .slice ax4 i.vl.length cx4, .slice ax5 i.cost.length cx5] 25 (0, 0))) (hx3 : IntSl w (.slice ax3 i.wt.length cx3) i.wt) (hx4 : IntSl w (.slice ax4 i.vl.length cx4) i.vl) (hx5 : RowsV w (.slice ax5 i.cost.length cx5) i.cost) :
    Calls Tryd.prog 56 #[.slice ax5 i.cost.length cx5, .func (.func 57) #[] #[.pointer (some ⟨bx, 0, none⟩)]] w fun e w' => ∃ b, e = .returned (.bool b) ∧ (b = true ↔ ¬ ∀ r, r < i.cost.length → ((i.cost.getD r []).length : Int) = i.n) ∧ Below w.heap.size w w' := by
  have hbs := Below.refl (B := w.heap.size) w
  have hM := Mem.start w
  refine Calls.of_ends (vs := [.slice ax5 i.cost.length cx5, .func (.func 57) #[] #[.pointer (some ⟨bx, 0, none⟩)]]) Tryd.func56 rfl Tryd.ntmps56 rfl ?_
  intro a hA
  replace hA : St 9 [(0, _), (1, _)] a := hA
  refine Ends.seq (Ends.region ?_)
  refine S.val hA (R.assign rfl) rfl ?_; clear hA a; intro a hA
  refine S.done ?_
  refine Ends.seq (Ends.region ?_)
  refine S.val hA (R.move rfl) rfl ?_; clear hA a; intro a hA
  refine S.val hA (R.move rfl) rfl ?_; clear hA a; intro a hA
  refine S.call hA (R.callF Tryd.func74 rfl rfl rfl) rfl (indexR bx i ax3 cx3 ax4 cx4 ax5 cx5 _ (hM.keepB hqbx) (hx3.mem hM) (hx4.mem hM) (hx5.mem hM)) ?_; clear hA a
  rintro e w1 ⟨ri1, rfl, hri2, hb⟩
  replace hM := hM.callB hb; clear hb
  refine ⟨.int .i64 ri1, rfl, fun a hA => ?_⟩
  refine S.val hA (R.geq rfl rfl) rfl ?_; clear hA a; intro a hA
  refine S.val hA (R.assign rfl) rfl ?_; clear hA a; intro a hA
  refine S.done ?_
  replace hA : St 9 [(4, _)] a := hA.sub ((.cons rfl .nil))
  refine Ends.ret1 Tryd.func56 Tryd.results56 hA rfl ?_
  exact ⟨_, rfl, by rw [decide_eq_true_iff]; exact hri2, Mem.trans0 hbs hM.nilL⟩
set_option maxRecDepth 100000 in
set_option maxHeartbeats 400000 in
theorem shape05 (i : Ins) (ax3 : Option Addr) (cx3 : Nat) (ax4 : Option Addr) (cx4 : Nat) (ax5 : Option Addr) (cx5 : Nat) (hsm : i.wt.length ≤ 1000000 ∧ i.vl.length ≤ 1000000) (w : World) (hx3 : IntSl w (.slice ax3 i.wt.length cx3) i.wt) (hx4 : IntSl w (.slice ax4 i.vl.length cx4) i.vl) (hx5 : RowsV w (.slice ax5 i.cost.length cx5) i.cost) :
  Calls Tryd.prog 38 #[.agg #[.int .i64 i.kind, .int .i64 i.n, .int .i64 i.cap, .slice ax3 i.wt.length cx3, .slice ax4 i.vl.length cx4, .slice ax5 i.cost.length cx5]] w fun e w' => ∃ b, e = .returned (.bool b) ∧ (b = true ↔ shapeOK i) ∧ Below w.heap.size w w' := by
 have hbs := Below.refl (B := w.heap.size) w
 have hl3 := hx3.lenB
 have hl4 := hx4.lenB
 have hl5 := hx5.lenB
 have hM := Mem.start w
 refine Calls.of_ends (vs := [.agg #[.int .i64 i.kind, .int .i64 i.n, .int .i64 i.cap, .slice ax3 i.wt.length cx3, .slice ax4 i.vl.length cx4, .slice ax5 i.cost.length cx5]]) Tryd.func38 rfl Tryd.ntmps38 rfl ?_
 intro a hA
 replace hA : St 52 [(0, _)] a := hA
 refine Ends.seq (Ends.region ?_)
 refine S.box hA hM rfl rfl ?_; clear hA hM a; intro b1 w1 hb2 hM a hA
 replace hM : Mem _ _ [pt b1 #[.int .i64 i.kind, .int .i64 i.n, .int .i64 i.cap, .slice ax3 i.wt.length cx3, .slice ax4 i.vl.length cx4, .slice ax5 i.cost.length cx5] 25] _ := hM
 refine S.val hA (R.assign rfl) rfl ?_; clear hA a; intro a hA
 refine S.done ?_
 refine Ends.seq (Ends.seq (Ends.region ?_))
 refine S.val hA (R.fieldAddr (q := 0) fi25_0 rfl rfl rfl) rfl ?_; clear hA a; intro a hA
 refine S.val hA (R.load sz3 rfl (hM.cell (k := 0) rfl rfl)) rfl ?_; clear hA a; intro a hA
 refine S.val hA (R.eql rfl rfl) rfl ?_; clear hA a; intro a hA
 refine S.done ?_
 replace hA : St 52 [(1, _), (5, _)] a := hA.sub ((.cons rfl (.cons rfl .nil)))
 refine Ends.ite hA rfl (fun hc3 => ?_) (fun hc3 => ?_)
 ·
  refine Ends.seq ?_
  refine Ends.cut (fun (a : Act) (wv : World) => St 52 [(1, .pointer (some ⟨b1, 0, none⟩)), (2, .bool (decide (((((i.wt.length : Int)) = i.n ∧ ((i.vl.length : Int)) = i.n) ∧ ((i.cost.length : Int)) = 0))))] a ∧ Mem w nof [pt b1 #[.int .i64 i.kind, .int .i64 i.n, .int .i64 i.cap, .slice ax3 i.wt.length cx3, .slice ax4 i.vl.length cx4, .slice ax5 i.cost.length cx5] 25] wv) ?_ (fun k2 hJ => ?_)
  ·
   clear hA hM a; rintro a w2 ⟨hA, hM⟩
   refine Ends.ret1 Tryd.func38 Tryd.results38 hA rfl ?_
   exact ⟨_, rfl, by rw [decide_eq_true_iff]; unfold shapeOK; omega, Mem.trans0 hbs hM.nilL⟩
  ·
   refine Ends.region ?_
   refine S.val hA (R.fieldAddr (q := 3) fi25_3 rfl rfl rfl) rfl ?_; clear hA a; intro a hA
   refine S.val hA (R.load sz22 rfl (hM.cell (k := 0) rfl rfl)) rfl ?_; clear hA a; intro a hA
   refine S.val hA (R.lenS Tryd.underlying22 rfl rfl) rfl ?_; clear hA a; intro a hA
   refine S.val hA (R.fieldAddr (q := 1) fi25_1 rfl rfl rfl) rfl ?_; clear hA a; intro a hA
   refine S.val hA (R.load sz3 rfl (hM.cell (k := 0) rfl rfl)) rfl ?_; clear hA a; intro a hA
   refine S.val hA (R.eql rfl rfl) rfl ?_; clear hA a; intro a hA
   refine S.val hA (R.move rfl) rfl ?_; clear hA a; intro a hA
   refine hA.split (d := 12) rfl ?_ ?_
   ·
    clear hA; intro hg4 hA
    refine S.valg (dj := 12) hA (by kernel_rfl) rfl (R.fieldAddr (q := 4) fi25_4 rfl rfl rfl) rfl ?_; clear hA a; intro a hA
    refine S.valg (dj := 12) hA (by kernel_rfl) rfl (R.load sz22 rfl (hM.cell (k := 0) rfl rfl)) rfl ?_; clear hA a; intro a hA
    refine S.valg (dj := 12) hA (by kernel_rfl) rfl (R.lenS Tryd.underlying22 rfl rfl) rfl ?_; clear hA a; intro a hA
    refine S.valg (dj := 12) hA (by kernel_rfl) rfl (R.fieldAddr (q := 1) fi25_1 rfl rfl rfl) rfl ?_; clear hA a; intro a hA
    refine S.valg (dj := 12) hA (by kernel_rfl) rfl (R.load sz3 rfl (hM.cell (k := 0) rfl rfl)) rfl ?_; clear hA a; intro a hA
    refine S.valg (dj := 12) hA (by kernel_rfl) rfl (R.eql rfl rfl) rfl ?_; clear hA a; intro a hA
    refine S.val hA (R.pickT rfl rfl) rfl ?_; clear hA a; intro a hA
    refine S.val hA (R.move rfl) rfl ?_; clear hA a; intro a hA
    refine hA.split (d := 20) rfl ?_ ?_
    ·
     clear hA; intro hg5 hA
     refine S.valg (dj := 20) hA (by kernel_rfl) rfl (R.fieldAddr (q := 5) fi25_5 rfl rfl rfl) rfl ?_; clear hA a; intro a hA
     refine S.valg (dj := 20) hA (by kernel_rfl) rfl (R.load sz23 rfl (hM.cell (k := 0) rfl rfl)) rfl ?_; clear hA a; intro a hA
     refine S.valg (dj := 20) hA (by kernel_rfl) rfl (R.lenS Tryd.underlying23 rfl rfl) rfl ?_; clear hA a; intro a hA
     refine S.valg (dj := 20) hA (by kernel_rfl) rfl (R.eql rfl rfl) rfl ?_; clear hA a; intro a hA
     refine S.val hA (R.pickT rfl rfl) rfl ?_; clear hA a; intro a hA
     refine S.val hA (R.assign rfl) rfl ?_; clear hA a; intro a hA
     refine S.done ?_
     replace hA : St 52 [(1, _), (2, _)] a := hA.sub ((.cons rfl (.cons rfl .nil)))
     exact hJ _ _ ⟨hA.sub (.cons rfl (.cons (by first | rfl | exact congrArg (fun b => some (Value.bool b)) (by first | exact decide_eq_decide.2 (by omega) | exact or_bool (by omega) | exact and_bool (by omega) | (simp; done) | (simp [hg4, hg5]; done) | (have h80 := hg4; (try simp at h80); have h81 := hg5; (try simp at h81); simp [h80, h81]; done) | exact (decide_eq_false (fun h9 => hg4 h9.1)).symm | exact (decide_eq_false (fun h9 => hg5 h9.1)).symm)) .nil)), hM⟩
    ·
     clear hA; intro hg5 hA
     refine S.no (dj := 20) hA (by kernel_rfl) rfl rfl rfl ?_; clear hA a; intro a hA
     refine S.no (dj := 20) hA (by kernel_rfl) rfl rfl rfl ?_; clear hA a; intro a hA
     refine S.no (dj := 20) hA (by kernel_rfl) rfl rfl rfl ?_; clear hA a; intro a hA
     refine S.no (dj := 20) hA (by kernel_rfl) rfl rfl rfl ?_; clear hA a; intro a hA
     refine S.val hA (R.pickF rfl rfl) rfl ?_; clear hA a; intro a hA
     refine S.val hA (R.assign rfl) rfl ?_; clear hA a; intro a hA
     refine S.done ?_
     replace hA : St 52 [(1, _), (2, _)] a := hA.sub ((.cons rfl (.cons rfl .nil)))
     exact hJ _ _ ⟨hA.sub (.cons rfl (.cons (by first | rfl | exact congrArg (fun b => some (Value.bool b)) (by first | exact decide_eq_decide.2 (by omega) | exact or_bool (by omega) | exact and_bool (by omega) | (simp; done) | (simp [hg4, hg5]; done) | (have h80 := hg4; (try simp at h80); have h81 := hg5; (try simp at h81); simp [h80, h81]; done) | exact (decide_eq_false (fun h9 => hg4 h9.1)).symm | exact (decide_eq_false (fun h9 => hg5 h9.1)).symm)) .nil)), hM⟩
   ·
    clear hA; intro hg4 hA
    refine S.no (dj := 12) hA (by kernel_rfl) rfl rfl rfl ?_; clear hA a; intro a hA
    refine S.no (dj := 12) hA (by kernel_rfl) rfl rfl rfl ?_; clear hA a; intro a hA
    refine S.no (dj := 12) hA (by kernel_rfl) rfl rfl rfl ?_; clear hA a; intro a hA
    refine S.no (dj := 12) hA (by kernel_rfl) rfl rfl rfl ?_; clear hA a; intro a hA
    refine S.no (dj := 12) hA (by kernel_rfl) rfl rfl rfl ?_; clear hA a; intro a hA
    refine S.no (dj := 12) hA (by kernel_rfl) rfl rfl rfl ?_; clear hA a; intro a hA
    refine S.val hA (R.pickF rfl rfl) rfl ?_; clear hA a; intro a hA
    refine S.val hA (R.move rfl) rfl ?_; clear hA a; intro a hA
    refine S.no (dj := 20) hA (by kernel_rfl) rfl rfl rfl ?_; clear hA a; intro a hA
    refine S.no (dj := 20) hA (by kernel_rfl) rfl rfl rfl ?_; clear hA a; intro a hA
    refine S.no (dj := 20) hA (by kernel_rfl) rfl rfl rfl ?_; clear hA a; intro a hA
    refine S.no (dj := 20) hA (by kernel_rfl) rfl rfl rfl ?_; clear hA a; intro a hA
    refine S.val hA (R.pickF rfl rfl) rfl ?_; clear hA a; intro a hA
    refine S.val hA (R.assign rfl) rfl ?_; clear hA a; intro a hA
    refine S.done ?_
    replace hA : St 52 [(1, _), (2, _)] a := hA.sub ((.cons rfl (.cons rfl .nil)))
    exact hJ _ _ ⟨hA.sub (.cons rfl (.cons (by first | rfl | exact congrArg (fun b => some (Value.bool b)) (by first | exact decide_eq_decide.2 (by omega) | exact or_bool (by omega) | exact and_bool (by omega) | (simp; done) | (simp [hg4]; done) | (have h80 := hg4; (try simp at h80); simp [h80]; done) | exact (decide_eq_false (fun h9 => hg4 h9.1)).symm)) .nil)), hM⟩
 ·
  refine Ends.skip (Ends.seq (Ends.seq ?_))
  refine Ends.cut (fun (a : Act) (wv : World) => St 52 [(1, .pointer (some ⟨b1, 0, none⟩)), (46, .bool (decide (((((i.cost.length : Int)) ≠ i.n ∨ i.cap ≠ 0) ∨ 0 < (((i.wt.length : Int)) + ((i.vl.length : Int)))))))] a ∧ Mem w nof [pt b1 #[.int .i64 i.kind, .int .i64 i.n, .int .i64 i.cap, .slice ax3 i.wt.length cx3, .slice ax4 i.vl.length cx4, .slice ax5 i.cost.length cx5] 25] wv) ?_ (fun k2 hJ => ?_)
  ·
   clear hA hM a; rintro a w3 ⟨hA, hM⟩
   refine Ends.ite hA rfl (fun hc6 => ?_) (fun hc6 => ?_)
   ·
    refine Ends.seq (Ends.region ?_)
    refine S.val hA (R.assign rfl) rfl ?_; clear hA a; intro a hA
    refine S.done ?_
    refine Ends.ret1 Tryd.func38 Tryd.results38 hA rfl ?_
    refine ⟨false, rfl, ⟨fun h => (by cases h), fun h => ?_⟩, Mem.trans0 hbs hM.nilL⟩
    unfold shapeOK at h
    rcases h with h | ⟨q1, q2, q3, q4, q5, -⟩
    · omega
    · omega
   ·
    refine Ends.skip (Ends.seq (Ends.region ?_))
    refine S.val hA (R.fieldAddr (q := 5) fi25_5 rfl rfl rfl) rfl ?_; clear hA a; intro a hA
    refine S.val hA (R.load sz23 rfl (hM.cell (k := 0) rfl rfl)) rfl ?_; clear hA a; intro a hA
    refine S.val hA (R.to (v := .func (.func 57) #[] #[.pointer (some ⟨b1, 0, none⟩)]) (R.makeFunc rfl) rfl) rfl ?_; clear hA a; intro a hA
    refine S.call hA (R.callF Tryd.func56 rfl rfl rfl) rfl (containsR b1 i ax3 cx3 ax4 cx4 ax5 cx5 _ (hM.block (k := 0) rfl) (hx3.mem hM) (hx4.mem hM) (hx5.mem hM)) ?_; clear hA a
    rintro e w4 ⟨bi7, rfl, hbi8, hb⟩
    replace hM := hM.callB hb; clear hb
    refine ⟨.bool bi7, rfl, fun a hA => ?_⟩
    refine S.val hA (R.not rfl) rfl ?_; clear hA a; intro a hA
    refine S.val hA (R.assign rfl) rfl ?_; clear hA a; intro a hA
    refine S.done ?_
    replace hA : St 52 [(2, _)] a := hA.sub ((.cons rfl .nil))
    refine Ends.ret1 Tryd.func38 Tryd.results38 hA rfl ?_
    refine ⟨_, rfl, ?_, Mem.trans0 hbs hM.nilL⟩
    have hbi := hbi8
    constructor
    ·
     intro h
     have hf : bi7 = false := by simpa using h
     have hall := Decidable.not_not.1 (fun h9 => by rw [hbi.2 h9] at hf; cases hf)
     exact .inr ⟨by omega, by omega, by omega, by omega, by omega, hall⟩
    ·
     intro h
     rcases h with h | h
     · omega
     ·
      cases hc : bi7 with
      | false => rfl
      | true => exact absurd h.2.2.2.2.2 (hbi.1 hc)
  ·
   refine Ends.region ?_
   refine S.val hA (R.fieldAddr (q := 5) fi25_5 rfl rfl rfl) rfl ?_; clear hA a; intro a hA
   refine S.val hA (R.load sz23 rfl (hM.cell (k := 0) rfl rfl)) rfl ?_; clear hA a; intro a hA
   refine S.val hA (R.lenS Tryd.underlying23 rfl rfl) rfl ?_; clear hA a; intro a hA
   refine S.val hA (R.fieldAddr (q := 1) fi25_1 rfl rfl rfl) rfl ?_; clear hA a; intro a hA
   refine S.val hA (R.load sz3 rfl (hM.cell (k := 0) rfl rfl)) rfl ?_; clear hA a; intro a hA
   refine S.val hA (R.neq rfl rfl) rfl ?_; clear hA a; intro a hA
   refine S.val hA (R.move rfl) rfl ?_; clear hA a; intro a hA
   refine hA.split (d := 32) rfl ?_ ?_
   ·
    clear hA; intro hg9 hA
    refine S.no (dj := 32) hA (by kernel_rfl) rfl rfl rfl ?_; clear hA a; intro a hA
    refine S.no (dj := 32) hA (by kernel_rfl) rfl rfl rfl ?_; clear hA a; intro a hA
    refine S.no (dj := 32) hA (by kernel_rfl) rfl rfl rfl ?_; clear hA a; intro a hA
    refine S.val hA (R.pickT rfl rfl) rfl ?_; clear hA a; intro a hA
    refine S.val hA (R.move rfl) rfl ?_; clear hA a; intro a hA
    refine S.no (dj := 37) hA (by kernel_rfl) rfl rfl rfl ?_; clear hA a; intro a hA
    refine S.no (dj := 37) hA (by kernel_rfl) rfl rfl rfl ?_; clear hA a; intro a hA
    refine S.no (dj := 37) hA (by kernel_rfl) rfl rfl rfl ?_; clear hA a; intro a hA
    refine S.no (dj := 37) hA (by kernel_rfl) rfl rfl rfl ?_; clear hA a; intro a hA
    refine S.no (dj := 37) hA (by kernel_rfl) rfl rfl rfl ?_; clear hA a; intro a hA
    refine S.no (dj := 37) hA (by kernel_rfl) rfl rfl rfl ?_; clear hA a; intro a hA
    refine S.no (dj := 37) hA (by kernel_rfl) rfl rfl rfl ?_; clear hA a; intro a hA
    refine S.no (dj := 37) hA (by kernel_rfl) rfl rfl rfl ?_; clear hA a; intro a hA
    refine S.val hA (R.pickT rfl rfl) rfl ?_; clear hA a; intro a hA
    refine S.done ?_
    replace hA : St 52 [(1, _), (46, _)] a := hA.sub ((.cons rfl (.cons rfl .nil)))
    exact hJ _ _ ⟨hA.sub (.cons rfl (.cons (by first | rfl | exact congrArg (fun b => some (Value.bool b)) (by first | exact decide_eq_decide.2 (by omega) | exact or_bool (by omega) | exact and_bool (by omega) | (simp; done) | (simp [hg9]; done) | (have h80 := hg9; (try simp at h80); simp [h80]; done) | exact (decide_eq_false (fun h9 => hg9 h9.1)).symm)) .nil)), hM⟩
   ·
    clear hA; intro hg9 hA
    refine S.valg (dj := 32) hA (by kernel_rfl) rfl (R.fieldAddr (q := 2) fi25_2 rfl rfl rfl) rfl ?_; clear hA a; intro a hA
    refine S.valg (dj := 32) hA (by kernel_rfl) rfl (R.load sz3 rfl (hM.cell (k := 0) rfl rfl)) rfl ?_; clear hA a; intro a hA
    refine S.valg (dj := 32) hA (by kernel_rfl) rfl (R.neq rfl rfl) rfl ?_; clear hA a; intro a hA
    refine S.val hA (R.pickF rfl rfl) rfl ?_; clear hA a; intro a hA
    refine S.val hA (R.move rfl) rfl ?_; clear hA a; intro a hA
    refine hA.split (d := 37) rfl ?_ ?_
    ·
     clear hA; intro hg10 hA
     refine S.no (dj := 37) hA (by kernel_rfl) rfl rfl rfl ?_; clear hA a; intro a hA
     refine S.no (dj := 37) hA (by kernel_rfl) rfl rfl rfl ?_; clear hA a; intro a hA
     refine S.no (dj := 37) hA (by kernel_rfl) rfl rfl rfl ?_; clear hA a; intro a hA
     refine S.no (dj := 37) hA (by kernel_rfl) rfl rfl rfl ?_; clear hA a; intro a hA
     refine S.no (dj := 37) hA (by kernel_rfl) rfl rfl rfl ?_; clear hA a; intro a hA
     refine S.no (dj := 37) hA (by kernel_rfl) rfl rfl rfl ?_; clear hA a; intro a hA
     refine S.no (dj := 37) hA (by kernel_rfl) rfl rfl rfl ?_; clear hA a; intro a hA
     refine S.no (dj := 37) hA (by kernel_rfl) rfl rfl rfl ?_; clear hA a; intro a hA
     refine S.val hA (R.pickT rfl rfl) rfl ?_; clear hA a; intro a hA
     refine S.done ?_
     replace hA : St 52 [(1, _), (46, _)] a := hA.sub ((.cons rfl (.cons rfl .nil)))
     exact hJ _ _ ⟨hA.sub (.cons rfl (.cons (by first | rfl | exact congrArg (fun b => some (Value.bool b)) (by first | exact decide_eq_decide.2 (by omega) | exact or_bool (by omega) | exact and_bool (by omega) | (simp; done) | (simp [hg9, hg10]; done) | (have h80 := hg9; (try simp at h80); have h81 := hg10; (try simp at h81); simp [h80, h81]; done) | exact (decide_eq_false (fun h9 => hg9 h9.1)).symm | exact (decide_eq_false (fun h9 => hg10 h9.1)).symm)) .nil)), hM⟩
    ·
     clear hA; intro hg10 hA
     refine S.valg (dj := 37) hA (by kernel_rfl) rfl (R.fieldAddr (q := 3) fi25_3 rfl rfl rfl) rfl ?_; clear hA a; intro a hA
     refine S.valg (dj := 37) hA (by kernel_rfl) rfl (R.load sz22 rfl (hM.cell (k := 0) rfl rfl)) rfl ?_; clear hA a; intro a hA
     refine S.valg (dj := 37) hA (by kernel_rfl) rfl (R.lenS Tryd.underlying22 rfl rfl) rfl ?_; clear hA a; intro a hA
     refine S.valg (dj := 37) hA (by kernel_rfl) rfl (R.fieldAddr (q := 4) fi25_4 rfl rfl rfl) rfl ?_; clear hA a; intro a hA
     refine S.valg (dj := 37) hA (by kernel_rfl) rfl (R.load sz22 rfl (hM.cell (k := 0) rfl rfl)) rfl ?_; clear hA a; intro a hA
     refine S.valg (dj := 37) hA (by kernel_rfl) rfl (R.lenS Tryd.underlying22 rfl rfl) rfl ?_; clear hA a; intro a hA
     refine S.valg (dj := 37) hA (by kernel_rfl) rfl (R.addI rfl rfl (r := ((i.wt.length : Int)) + ((i.vl.length : Int))) rfl (by omega)) rfl ?_; clear hA a; intro a hA
     refine S.valg (dj := 37) hA (by kernel_rfl) rfl (R.gtr rfl rfl) rfl ?_; clear hA a; intro a hA
     refine S.val hA (R.pickF rfl rfl) rfl ?_; clear hA a; intro a hA
     refine S.done ?_
     replace hA : St 52 [(1, _), (46, _)] a := hA.sub ((.cons rfl (.cons rfl .nil)))
     exact hJ _ _ ⟨hA.sub (.cons rfl (.cons (by first | rfl | exact congrArg (fun b => some (Value.bool b)) (by first | exact decide_eq_decide.2 (by omega) | exact or_bool (by omega) | exact and_bool (by omega) | (simp; done) | (simp [hg9, hg10]; done) | (have h80 := hg9; (try simp at h80); have h81 := hg10; (try simp at h81); simp [h80, h81]; done) | exact (decide_eq_false (fun h9 => hg9 h9.1)).symm | exact (decide_eq_false (fun h9 => hg10 h9.1)).symm)) .nil)), hM⟩
set_option maxRecDepth 100000 in
set_option maxHeartbeats 400000 in
theorem items05 (i : Ins) (ax3 : Option Addr) (cx3 : Nat) (ax4 : Option Addr) (cx4 : Nat) (ax5 : Option Addr) (cx5 : Nat) (hln : (i.wt.length : Int) = i.n ∧ (i.vl.length : Int) = i.n) (w : World) (hx3 : IntSl w (.slice ax3 i.wt.length cx3) i.wt) (hx4 : IntSl w (.slice ax4 i.vl.length cx4) i.vl) (hx5 : RowsV w (.slice ax5 i.cost.length cx5) i.cost) :
  Calls Tryd.prog 39 #[.agg #[.int .i64 i.kind, .int .i64 i.n, .int .i64 i.cap, .slice ax3 i.wt.length cx3, .slice ax4 i.vl.length cx4, .slice ax5 i.cost.length cx5]] w fun e w' => e = .returned (.int .i64 (if numE i.cap ≠ 0 then numE i.cap else pfx (itF i) i.n.toNat)) ∧ Below w.heap.size w w' := by
 have hbs := Below.refl (B := w.heap.size) w
 have hl3 := hx3.lenB
 have hM := Mem.start w
 refine Calls.of_ends (vs := [.agg #[.int .i64 i.kind, .int .i64 i.n, .int .i64 i.cap, .slice ax3 i.wt.length cx3, .slice ax4 i.vl.length cx4, .slice ax5 i.cost.length cx5]]) Tryd.func39 rfl Tryd.ntmps39 rfl ?_
 intro a hA
 replace hA : St 33 [(0, _)] a := hA
 refine Ends.seq (Ends.region ?_)
 refine S.box hA hM rfl rfl ?_; clear hA hM a; intro b1 w1 hb2 hM a hA
 replace hM : Mem _ _ [pt b1 #[.int .i64 i.kind, .int .i64 i.n, .int .i64 i.cap, .slice ax3 i.wt.length cx3, .slice ax4 i.vl.length cx4, .slice ax5 i.cost.length cx5] 25] _ := hM
 refine S.val hA (R.assign rfl) rfl ?_; clear hA a; intro a hA
 refine S.done ?_
 refine Ends.seq (Ends.region ?_)
 refine S.val hA (R.fieldAddr (q := 2) fi25_2 rfl rfl rfl) rfl ?_; clear hA a; intro a hA
 refine S.val hA (R.load sz3 rfl (hM.cell (k := 0) rfl rfl)) rfl ?_; clear hA a; intro a hA
 refine S.call hA (R.callF Tryd.func58 rfl rfl rfl) rfl (num05 i.cap _) ?_; clear hA a
 rintro e w2 ⟨rfl, hb⟩
 replace hM := hM.callB hb; clear hb
 refine ⟨.int .i64 (numE i.cap), rfl, fun a hA => ?_⟩
 refine S.val hA (R.assign rfl) rfl ?_; clear hA a; intro a hA
 refine S.done ?_
 replace hA : St 33 [(1, _), (3, _)] a := hA.sub ((.cons rfl (.cons rfl .nil)))
 refine Ends.seq (Ends.seq (Ends.region ?_))
 refine S.val hA (R.assign rfl) rfl ?_; clear hA a; intro a hA
 refine S.done ?_
 refine Ends.block ?_
 refine Ends.loop (σ := Nat × Int) (fun (k, ev) (a : Act) (wv : World) => St 33 [(1, .pointer (some ⟨b1, 0, none⟩)), (3, .int .i64 ev), (4, .int .i64 ((k : Int)))] a ∧ Mem w nof [pt b1 #[.int .i64 i.kind, .int .i64 i.n, .int .i64 i.cap, .slice ax3 i.wt.length cx3, .slice ax4 i.vl.length cx4, .slice ax5 i.cost.length cx5] 25] wv ∧ (k ≤ i.n.toNat) ∧ (k = 0 → ev = numE i.cap) ∧ (ev = if numE i.cap ≠ 0 then numE i.cap else pfx (itF i) k)) (fun (k, ev) => i.n.toNat - k) ((0, numE i.cap)) ⟨hA.sub ((.cons rfl (.cons rfl (.cons rfl .nil)))), hM, (Nat.zero_le _), (fun _ => rfl), (by show numE i.cap = (if numE i.cap ≠ 0 then numE i.cap else 0); by_cases h9 : numE i.cap ≠ 0; (rw [if_pos h9]); (rw [if_neg h9]; exact Decidable.not_not.1 h9))⟩ ?_
 clear hA hM a
 rintro ⟨k, ev⟩ a w3 ⟨hA, hM, hk, hk0, hev⟩ hNext
 refine Ends.seq (Ends.seq ?_)
 refine Ends.cut (fun (a : Act) (wv : World) => St 33 [(1, .pointer (some ⟨b1, 0, none⟩)), (3, .int .i64 ev), (4, .int .i64 ((k : Int))), (15, .bool (decide ((((k : Int)) < i.n ∧ ev = 0))))] a ∧ Mem w nof [pt b1 #[.int .i64 i.kind, .int .i64 i.n, .int .i64 i.cap, .slice ax3 i.wt.length cx3, .slice ax4 i.vl.length cx4, .slice ax5 i.cost.length cx5] 25] wv) ?_ (fun k2 hJ => ?_)
 ·
  clear hA hM a; rintro a w4 ⟨hA, hM⟩
  refine Ends.ite hA rfl (fun hc3 => ?_) (fun hc3 => ?_)
  ·
   have hcz : numE i.cap = 0 := by
    rw [hev] at hc3
    by_cases h9 : numE i.cap = 0
    · exact h9
    · rw [if_pos h9] at hc3; exact absurd hc3.2 h9
   rw [if_neg (by rw [hcz]; simp)] at hev
   have hev0 : ev = 0 := hc3.2
   have hp0 : pfx (itF i) k = 0 := by rw [← hev]; exact hev0
   refine Ends.skip (Ends.seq (Ends.block (Ends.seq (Ends.region ?_))))
   refine S.val hA (R.fieldAddr (q := 3) fi25_3 rfl rfl rfl) rfl ?_; clear hA a; intro a hA
   refine S.val hA (R.load sz22 rfl (hM.cell (k := 0) rfl rfl)) rfl ?_; clear hA a; intro a hA
   refine S.val hA (R.move rfl) rfl ?_; clear hA a; intro a hA
   refine S.val hA (R.idxI hx3 (j := k) sl22 rfl rfl (by omega) (rfl)) rfl ?_; clear hA a; intro a hA
   refine S.val hA (R.loadI (hx3.mem hM) sz3 rfl (by omega)) rfl ?_; clear hA a; intro a hA
   refine S.call hA (R.callF Tryd.func58 rfl rfl rfl) rfl (num05 (i.wt.getD k 0) _) ?_; clear hA a
   rintro e w5 ⟨rfl, hb⟩
   replace hM := hM.callB hb; clear hb
   refine ⟨.int .i64 (numE (i.wt.getD k 0)), rfl, fun a hA => ?_⟩
   refine S.val hA (R.assign rfl) rfl ?_; clear hA a; intro a hA
   refine S.done ?_
   replace hA : St 33 [(1, _), (3, _), (4, _)] a := hA.sub ((.cons rfl (.cons rfl (.cons rfl .nil))))
   refine Ends.seq (Ends.region ?_)
   refine S.val hA (R.move rfl) rfl ?_; clear hA a; intro a hA
   refine S.val hA (R.eql rfl rfl) rfl ?_; clear hA a; intro a hA
   refine S.done ?_
   refine Ends.ite hA rfl (fun hc4 => ?_) (fun hc4 => ?_)
   ·
    refine Ends.region ?_
    refine S.val hA (R.fieldAddr (q := 4) fi25_4 rfl rfl rfl) rfl ?_; clear hA a; intro a hA
    refine S.val hA (R.load sz22 rfl (hM.cell (k := 0) rfl rfl)) rfl ?_; clear hA a; intro a hA
    refine S.val hA (R.move rfl) rfl ?_; clear hA a; intro a hA
    refine S.val hA (R.idxI hx4 (j := k) sl22 rfl rfl (by omega) (rfl)) rfl ?_; clear hA a; intro a hA
    refine S.val hA (R.loadI (hx4.mem hM) sz3 rfl (by omega)) rfl ?_; clear hA a; intro a hA
    refine S.call hA (R.callF Tryd.func58 rfl rfl rfl) rfl (num05 (i.vl.getD k 0) _) ?_; clear hA a
    rintro e w6 ⟨rfl, hb⟩
    replace hM := hM.callB hb; clear hb
    refine ⟨.int .i64 (numE (i.vl.getD k 0)), rfl, fun a hA => ?_⟩
    refine S.val hA (R.assign rfl) rfl ?_; clear hA a; intro a hA
    refine S.done ?_
    replace hA : St 33 [(1, _), (3, _), (4, _)] a := hA.sub ((.cons rfl (.cons rfl (.cons rfl .nil))))
    refine Ends.inBlock (Ends.region ?_)
    refine S.val hA (R.move rfl) rfl ?_; clear hA a; intro a hA
    refine S.val hA (R.addI rfl rfl (r := ((k : Int)) + 1) rfl (by omega)) rfl ?_; clear hA a; intro a hA
    refine S.val hA (R.assign rfl) rfl ?_; clear hA a; intro a hA
    refine S.done ?_
    have hst := pfx_step (f := itF i) (k := k) (by omega)
    exact hNext ((k + 1, numE (i.vl.getD k 0))) _ _ ((by show i.n.toNat - (k + 1) < i.n.toNat - k; omega)) ⟨hA.sub ((.cons rfl (.cons rfl (.cons rfl .nil)))), hM, (by omega), (fun h9 => by omega), (by rw [if_neg (by rw [hcz]; simp), hst, itF_z hc4])⟩
   ·
    refine Ends.skip (Ends.inBlock (Ends.region ?_))
    refine S.val hA (R.move rfl) rfl ?_; clear hA a; intro a hA
    refine S.val hA (R.addI rfl rfl (r := ((k : Int)) + 1) rfl (by omega)) rfl ?_; clear hA a; intro a hA
    refine S.val hA (R.assign rfl) rfl ?_; clear hA a; intro a hA
    refine S.done ?_
    replace hA : St 33 [(1, _), (3, _), (4, _)] a := hA.sub ((.cons rfl (.cons rfl (.cons rfl .nil))))
    have hst := pfx_step (f := itF i) (k := k) (by omega)
    exact hNext ((k + 1, numE (i.wt.getD k 0))) _ _ ((by show i.n.toNat - (k + 1) < i.n.toNat - k; omega)) ⟨hA.sub ((.cons rfl (.cons rfl (.cons rfl .nil)))), hM, (by omega), (fun h9 => by omega), (by rw [if_neg (by rw [hcz]; simp), hst, itF_e hc4])⟩
  ·
   refine Ends.exit rfl ?_
   refine Ends.seq (Ends.region ?_)
   refine S.val hA (R.move rfl) rfl ?_; clear hA a; intro a hA
   refine S.val hA (R.assign rfl) rfl ?_; clear hA a; intro a hA
   refine S.done ?_
   replace hA : St 33 [(2, _)] a := hA.sub ((.cons rfl .nil))
   refine Ends.ret1 Tryd.func39 Tryd.results39 hA rfl ?_
   have hfin : ev = if numE i.cap ≠ 0 then numE i.cap else pfx (itF i) i.n.toNat := by
    by_cases h9 : numE i.cap ≠ 0
    · rw [if_pos h9] at hev ⊢; exact hev
    ·
     rw [if_neg h9] at hev ⊢
     by_cases h8 : ev = 0
     · rw [hev]; congr 1; omega
     · rw [hev]; exact (pfx_stay (by rw [← hev]; exact h8) hk).symm
   exact ⟨by rw [hfin], Mem.trans0 hbs hM.nilL⟩
 ·
  refine Ends.region ?_
  refine S.val hA (R.move rfl) rfl ?_; clear hA a; intro a hA
  refine S.val hA (R.fieldAddr (q := 1) fi25_1 rfl rfl rfl) rfl ?_; clear hA a; intro a hA
  refine S.val hA (R.load sz3 rfl (hM.cell (k := 0) rfl rfl)) rfl ?_; clear hA a; intro a hA
  refine S.val hA (R.lss rfl rfl) rfl ?_; clear hA a; intro a hA
  refine S.val hA (R.move rfl) rfl ?_; clear hA a; intro a hA
  refine hA.split (d := 12) rfl ?_ ?_
  ·
   clear hA; intro hg5 hA
   refine S.valg (dj := 12) hA (by kernel_rfl) rfl (R.move rfl) rfl ?_; clear hA a; intro a hA
   refine S.valg (dj := 12) hA (by kernel_rfl) rfl (R.eql rfl rfl) rfl ?_; clear hA a; intro a hA
   refine S.val hA (R.pickT rfl rfl) rfl ?_; clear hA a; intro a hA
   refine S.done ?_
   replace hA : St 33 [(1, _), (3, _), (4, _), (15, _)] a := hA.sub ((.cons rfl (.cons rfl (.cons rfl (.cons rfl .nil)))))
   exact hJ _ _ ⟨hA.sub (.cons rfl (.cons rfl (.cons rfl (.cons (by first | rfl | exact congrArg (fun b => some (Value.bool b)) (by first | exact decide_eq_decide.2 (by omega) | exact or_bool (by omega) | exact and_bool (by omega) | (simp; done) | (simp [hg5]; done) | (have h80 := hg5; (try simp at h80); simp [h80]; done) | exact (decide_eq_false (fun h9 => hg5 h9.1)).symm)) .nil)))), hM⟩
  ·
   clear hA; intro hg5 hA
   refine S.no (dj := 12) hA (by kernel_rfl) rfl rfl rfl ?_; clear hA a; intro a hA
   refine S.no (dj := 12) hA (by kernel_rfl) rfl rfl rfl ?_; clear hA a; intro a hA
   refine S.val hA (R.pickF rfl rfl) rfl ?_; clear hA a; intro a hA
   refine S.done ?_
   replace hA : St 33 [(1, _), (3, _), (4, _), (15, _)] a := hA.sub ((.cons rfl (.cons rfl (.cons rfl (.cons rfl .nil)))))
   exact hJ _ _ ⟨hA.sub (.cons rfl (.cons rfl (.cons rfl (.cons (by first | rfl | exact congrArg (fun b => some (Value.bool b)) (by first | exact decide_eq_decide.2 (by omega) | exact or_bool (by omega) | exact and_bool (by omega) | (simp; done) | (simp [hg5]; done) | (have h80 := hg5; (try simp at h80); simp [h80]; done) | exact (decide_eq_false (fun h9 => hg5 h9.1)).symm)) .nil)))), hM⟩
set_option maxRecDepth 100000 in
set_option maxHeartbeats 400000 in
theorem rows05 (i : Ins) (ax3 : Option Addr) (cx3 : Nat) (ax4 : Option Addr) (cx4 : Nat) (ax5 : Option Addr) (cx5 : Nat) (hsq : ∀ r, r < i.cost.length → ((i.cost.getD r []).length : Int) = i.n) (hcl : (i.cost.length : Int) = i.n) (w : World) (hx3 : IntSl w (.slice ax3 i.wt.length cx3) i.wt) (hx4 : IntSl w (.slice ax4 i.vl.length cx4) i.vl) (hx5 : RowsV w (.slice ax5 i.cost.length cx5) i.cost) :
  Calls Tryd.prog 40 #[.agg #[.int .i64 i.kind, .int .i64 i.n, .int .i64 i.cap, .slice ax3 i.wt.length cx3, .slice ax4 i.vl.length cx4, .slice ax5 i.cost.length cx5]] w fun e w' => e = .returned (.int .i64 (pfx (fun r => pfx (cellF i r) i.n.toNat) i.n.toNat)) ∧ Below w.heap.size w w' := by
 have hbs := Below.refl (B := w.heap.size) w
 have hl5 := hx5.lenB
 have hM := Mem.start w
 refine Calls.of_ends (vs := [.agg #[.int .i64 i.kind, .int .i64 i.n, .int .i64 i.cap, .slice ax3 i.wt.length cx3, .slice ax4 i.vl.length cx4, .slice ax5 i.cost.length cx5]]) Tryd.func40 rfl Tryd.ntmps40 rfl ?_
 intro a hA
 replace hA : St 42 [(0, _)] a := hA
 refine Ends.seq (Ends.region ?_)
 refine S.box hA hM rfl rfl ?_; clear hA hM a; intro b1 w1 hb2 hM a hA
 replace hM : Mem _ _ [pt b1 #[.int .i64 i.kind, .int .i64 i.n, .int .i64 i.cap, .slice ax3 i.wt.length cx3, .slice ax4 i.vl.length cx4, .slice ax5 i.cost.length cx5] 25] _ := hM
 refine S.val hA (R.assign rfl) rfl ?_; clear hA a; intro a hA
 refine S.done ?_
 refine Ends.seq (Ends.seq (Ends.region ?_))
 refine S.val hA (R.fieldAddr (q := 5) fi25_5 rfl rfl rfl) rfl ?_; clear hA a; intro a hA
 refine S.val hA (R.load sz23 rfl (hM.cell (k := 0) rfl rfl)) rfl ?_; clear hA a; intro a hA
 refine S.val hA (R.lenS Tryd.underlying23 rfl rfl) rfl ?_; clear hA a; intro a hA
 refine S.val hA (R.move rfl) rfl ?_; clear hA a; intro a hA
 refine S.done ?_
 refine Ends.block ?_
 refine Ends.loop (σ := Nat) (fun r (a : Act) (wv : World) => St 42 [(1, .pointer (some ⟨b1, 0, none⟩)), (9, .slice ax5 i.cost.length cx5), (10, .int .i64 ((i.cost.length : Int))), (11, .int .i64 ((r : Int)))] a ∧ Mem w nof [pt b1 #[.int .i64 i.kind, .int .i64 i.n, .int .i64 i.cap, .slice ax3 i.wt.length cx3, .slice ax4 i.vl.length cx4, .slice ax5 i.cost.length cx5] 25] wv ∧ (r ≤ i.n.toNat) ∧ (pfx (fun r => pfx (cellF i r) i.n.toNat) r = 0)) (fun r => i.n.toNat - r) 0 ⟨hA.sub ((.cons rfl (.cons rfl (.cons rfl (.cons rfl .nil))))), hM, (Nat.zero_le _), rfl⟩ ?_
 clear hA hM a
 rintro r a w2 ⟨hA, hM, hr, hr0⟩ hNext
 refine Ends.seq (Ends.region ?_)
 refine S.val hA (R.lss rfl rfl) rfl ?_; clear hA a; intro a hA
 refine S.done ?_
 refine Ends.seq ?_
 refine Ends.ite hA rfl (fun hc3 => ?_) (fun hc3 => ?_)
 ·
  have hrl := hsq r (by omega)
  refine Ends.skip (Ends.seq (Ends.block (Ends.seq (Ends.region ?_))))
  refine S.val hA (R.move rfl) rfl ?_; clear hA a; intro a hA
  refine S.val hA (R.idxR hx5 (j := r) sl23 rfl rfl (by omega) (rfl)) rfl ?_; clear hA a; intro a hA
  obtain ⟨ra4, rc5, hrow6, hld7⟩ := hx5.atP (i := r) (by omega)
  refine S.val hA (hld7 _ _ _ _ _ _ hM sz22 rfl) rfl ?_; clear hA a; intro a hA
  refine S.val hA (R.assign rfl) rfl ?_; clear hA a; intro a hA
  refine S.val hA (R.assign rfl) rfl ?_; clear hA a; intro a hA
  refine S.done ?_
  replace hA : St 42 [(1, _), (3, _), (4, _), (9, _), (10, _), (11, _)] a := hA.sub ((.cons rfl (.cons rfl (.cons rfl (.cons rfl (.cons rfl (.cons rfl .nil)))))))
  refine Ends.seq (Ends.region ?_)
  refine S.val hA (R.move rfl) rfl ?_; clear hA a; intro a hA
  refine S.val hA (R.lenS Tryd.underlying22 rfl rfl) rfl ?_; clear hA a; intro a hA
  refine S.val hA (R.move rfl) rfl ?_; clear hA a; intro a hA
  refine S.done ?_
  refine Ends.block ?_
  refine Ends.loop (σ := Nat) (fun c_ (a : Act) (wv : World) => St 42 [(1, .pointer (some ⟨b1, 0, none⟩)), (3, .int .i64 ((r : Int))), (9, .slice ax5 i.cost.length cx5), (10, .int .i64 ((i.cost.length : Int))), (11, .int .i64 ((r : Int))), (16, .slice ra4 (((i.cost.getD r [])).length) rc5), (17, .int .i64 ((((i.cost.getD r [])).length : Int))), (18, .int .i64 ((c_ : Int)))] a ∧ Mem w nof [pt b1 #[.int .i64 i.kind, .int .i64 i.n, .int .i64 i.cap, .slice ax3 i.wt.length cx3, .slice ax4 i.vl.length cx4, .slice ax5 i.cost.length cx5] 25] wv ∧ (c_ ≤ i.n.toNat) ∧ (pfx (cellF i r) c_ = 0)) (fun c_ => i.n.toNat - c_) 0 ⟨hA.sub ((.cons rfl (.cons rfl (.cons rfl (.cons rfl (.cons rfl (.cons rfl (.cons rfl (.cons rfl .nil))))))))), hM, (Nat.zero_le _), rfl⟩ ?_
  clear hA hM a
  rintro c_ a w3 ⟨hA, hM, hcn, hc0⟩ hNext1
  refine Ends.seq (Ends.region ?_)
  refine S.val hA (R.lss rfl rfl) rfl ?_; clear hA a; intro a hA
  refine S.done ?_
  refine Ends.seq ?_
  refine Ends.ite hA rfl (fun hc8 => ?_) (fun hc8 => ?_)
  ·
   refine Ends.skip (Ends.seq (Ends.block (Ends.seq (Ends.region ?_))))
   refine S.val hA (R.move rfl) rfl ?_; clear hA a; intro a hA
   refine S.val hA (R.idxI hrow6 (j := c_) sl22 rfl rfl (by omega) (rfl)) rfl ?_; clear hA a; intro a hA
   refine S.val hA (R.loadI (hrow6.mem hM) sz3 rfl (by omega)) rfl ?_; clear hA a; intro a hA
   refine S.val hA (R.assign rfl) rfl ?_; clear hA a; intro a hA
   refine S.val hA (R.assign rfl) rfl ?_; clear hA a; intro a hA
   refine S.done ?_
   replace hA : St 42 [(1, _), (3, _), (5, _), (6, _), (9, _), (10, _), (11, _), (16, _), (17, _), (18, _)] a := hA.sub ((.cons rfl (.cons rfl (.cons rfl (.cons rfl (.cons rfl (.cons rfl (.cons rfl (.cons rfl (.cons rfl (.cons rfl .nil)))))))))))
   refine Ends.seq (Ends.seq (Ends.region ?_))
   refine S.val hA (R.move rfl) rfl ?_; clear hA a; intro a hA
   refine S.call hA (R.callF Tryd.func58 rfl rfl rfl) rfl (num05 (((i.cost.getD r [])).getD c_ 0) _) ?_; clear hA a
   rintro e w4 ⟨rfl, hb⟩
   replace hM := hM.callB hb; clear hb
   refine ⟨.int .i64 (numE (((i.cost.getD r [])).getD c_ 0)), rfl, fun a hA => ?_⟩
   refine S.val hA (R.assign rfl) rfl ?_; clear hA a; intro a hA
   refine S.done ?_
   refine Ends.seq (Ends.region ?_)
   refine S.val hA (R.move rfl) rfl ?_; clear hA a; intro a hA
   refine S.val hA (R.neq rfl rfl) rfl ?_; clear hA a; intro a hA
   refine S.done ?_
   refine Ends.ite hA rfl (fun hc9 => ?_) (fun hc9 => ?_)
   ·
    refine Ends.seq (Ends.region ?_)
    refine S.val hA (R.move rfl) rfl ?_; clear hA a; intro a hA
    refine S.val hA (R.assign rfl) rfl ?_; clear hA a; intro a hA
    refine S.done ?_
    replace hA : St 42 [(1, _), (2, _), (3, _), (5, _), (6, _), (9, _), (10, _), (11, _), (16, _), (17, _), (18, _)] a := hA.sub ((.cons rfl (.cons rfl (.cons rfl (.cons rfl (.cons rfl (.cons rfl (.cons rfl (.cons rfl (.cons rfl (.cons rfl (.cons rfl .nil))))))))))))
    refine Ends.ret1 Tryd.func40 Tryd.results40 hA rfl ?_
    have hce := cellF_e hc9
    have hne : cellF i r c_ ≠ 0 := by rw [hce]; exact hc9
    have hrw := pfx_err hc0 hne (show c_ < i.n.toNat by omega)
    have hfin := pfx_err (f := fun r => pfx (cellF i r) i.n.toNat) hr0 (by show pfx (cellF i r) i.n.toNat ≠ 0; rw [hrw]; exact hne) (show r < i.n.toNat by omega)
    exact ⟨by rw [hfin]; show _ = Ending.returned (.int .i64 (pfx (cellF i r) i.n.toNat)); rw [hrw, hce], Mem.trans0 hbs hM.nilL⟩
   ·
    refine Ends.skip (Ends.seq ?_)
    refine Ends.cut (fun (a : Act) (wv : World) => St 42 [(1, .pointer (some ⟨b1, 0, none⟩)), (3, .int .i64 ((r : Int))), (9, .slice ax5 i.cost.length cx5), (10, .int .i64 ((i.cost.length : Int))), (11, .int .i64 ((r : Int))), (16, .slice ra4 (((i.cost.getD r [])).length) rc5), (17, .int .i64 ((((i.cost.getD r [])).length : Int))), (18, .int .i64 ((c_ : Int))), (39, .bool (decide (((i.kind = 3 ∧ ((r : Int)) = ((c_ : Int))) ∧ (((i.cost.getD r [])).getD c_ 0) ≠ 0))))] a ∧ Mem w nof [pt b1 #[.int .i64 i.kind, .int .i64 i.n, .int .i64 i.cap, .slice ax3 i.wt.length cx3, .slice ax4 i.vl.length cx4, .slice ax5 i.cost.length cx5] 25] wv) ?_ (fun k2 hJ => ?_)
    ·
     clear hA hM a; rintro a w5 ⟨hA, hM⟩
     refine Ends.ite hA rfl (fun hc10 => ?_) (fun hc10 => ?_)
     ·
      refine Ends.seq (Ends.region ?_)
      refine S.val hA (R.assign rfl) rfl ?_; clear hA a; intro a hA
      refine S.done ?_
      refine Ends.ret1 Tryd.func40 Tryd.results40 hA rfl ?_
      have hce := cellF_f hc9 hc10
      have hne : cellF i r c_ ≠ 0 := by rw [hce]; decide
      have hrw := pfx_err hc0 hne (show c_ < i.n.toNat by omega)
      have hfin := pfx_err (f := fun r => pfx (cellF i r) i.n.toNat) hr0 (by show pfx (cellF i r) i.n.toNat ≠ 0; rw [hrw]; exact hne) (show r < i.n.toNat by omega)
      exact ⟨by rw [hfin]; show _ = Ending.returned (.int .i64 (pfx (cellF i r) i.n.toNat)); rw [hrw, hce], Mem.trans0 hbs hM.nilL⟩
     ·
      refine Ends.skip (Ends.inBlock (Ends.region ?_))
      refine S.val hA (R.addI rfl rfl (r := ((c_ : Int)) + 1) rfl (by omega)) rfl ?_; clear hA a; intro a hA
      refine S.val hA (R.move rfl) rfl ?_; clear hA a; intro a hA
      refine S.done ?_
      exact hNext1 ((c_ + 1)) _ _ ((by show i.n.toNat - (c_ + 1) < i.n.toNat - c_; omega)) ⟨hA.sub ((.cons rfl (.cons rfl (.cons rfl (.cons rfl (.cons rfl (.cons rfl (.cons rfl (.cons rfl .nil))))))))), hM, (by omega), (by rw [pfx_step hc0]; exact cellF_z hc9 hc10)⟩
    ·
     refine Ends.region ?_
     refine S.val hA (R.fieldAddr (q := 0) fi25_0 rfl rfl rfl) rfl ?_; clear hA a; intro a hA
     refine S.val hA (R.load sz3 rfl (hM.cell (k := 0) rfl rfl)) rfl ?_; clear hA a; intro a hA
     refine S.val hA (R.eql rfl rfl) rfl ?_; clear hA a; intro a hA
     refine S.val hA (R.move rfl) rfl ?_; clear hA a; intro a hA
     refine hA.split (d := 31) rfl ?_ ?_
     ·
      clear hA; intro hg11 hA
      refine S.valg (dj := 31) hA (by kernel_rfl) rfl (R.move rfl) rfl ?_; clear hA a; intro a hA
      refine S.valg (dj := 31) hA (by kernel_rfl) rfl (R.move rfl) rfl ?_; clear hA a; intro a hA
      refine S.valg (dj := 31) hA (by kernel_rfl) rfl (R.eql rfl rfl) rfl ?_; clear hA a; intro a hA
      refine S.val hA (R.pickT rfl rfl) rfl ?_; clear hA a; intro a hA
      refine S.val hA (R.move rfl) rfl ?_; clear hA a; intro a hA
      refine hA.split (d := 36) rfl ?_ ?_
      ·
       clear hA; intro hg12 hA
       refine S.valg (dj := 36) hA (by kernel_rfl) rfl (R.move rfl) rfl ?_; clear hA a; intro a hA
       refine S.valg (dj := 36) hA (by kernel_rfl) rfl (R.neq rfl rfl) rfl ?_; clear hA a; intro a hA
       refine S.val hA (R.pickT rfl rfl) rfl ?_; clear hA a; intro a hA
       refine S.done ?_
       replace hA : St 42 [(1, _), (3, _), (9, _), (10, _), (11, _), (16, _), (17, _), (18, _), (39, _)] a := hA.sub ((.cons rfl (.cons rfl (.cons rfl (.cons rfl (.cons rfl (.cons rfl (.cons rfl (.cons rfl (.cons rfl .nil))))))))))
       exact hJ _ _ ⟨hA.sub (.cons rfl (.cons rfl (.cons rfl (.cons rfl (.cons rfl (.cons rfl (.cons rfl (.cons rfl (.cons (by first | rfl | exact congrArg (fun b => some (Value.bool b)) (by first | exact decide_eq_decide.2 (by omega) | exact or_bool (by omega) | exact and_bool (by omega) | (simp; done) | (simp [hg11, hg12]; done) | (have h80 := hg11; (try simp at h80); have h81 := hg12; (try simp at h81); simp [h80, h81]; done) | exact (decide_eq_false (fun h9 => hg11 h9.1)).symm | exact (decide_eq_false (fun h9 => hg12 h9.1)).symm)) .nil))))))))), hM⟩
      ·
       clear hA; intro hg12 hA
       refine S.no (dj := 36) hA (by kernel_rfl) rfl rfl rfl ?_; clear hA a; intro a hA
       refine S.no (dj := 36) hA (by kernel_rfl) rfl rfl rfl ?_; clear hA a; intro a hA
       refine S.val hA (R.pickF rfl rfl) rfl ?_; clear hA a; intro a hA
       refine S.done ?_
       replace hA : St 42 [(1, _), (3, _), (9, _), (10, _), (11, _), (16, _), (17, _), (18, _), (39, _)] a := hA.sub ((.cons rfl (.cons rfl (.cons rfl (.cons rfl (.cons rfl (.cons rfl (.cons rfl (.cons rfl (.cons rfl .nil))))))))))
       exact hJ _ _ ⟨hA.sub (.cons rfl (.cons rfl (.cons rfl (.cons rfl (.cons rfl (.cons rfl (.cons rfl (.cons rfl (.cons (by first | rfl | exact congrArg (fun b => some (Value.bool b)) (by first | exact decide_eq_decide.2 (by omega) | exact or_bool (by omega) | exact and_bool (by omega) | (simp; done) | (simp [hg11, hg12]; done) | (have h80 := hg11; (try simp at h80); have h81 := hg12; (try simp at h81); simp [h80, h81]; done) | exact (decide_eq_false (fun h9 => hg11 h9.1)).symm | exact (decide_eq_false (fun h9 => hg12 h9.1)).symm)) .nil))))))))), hM⟩
     ·
      clear hA; intro hg11 hA
      refine S.no (dj := 31) hA (by kernel_rfl) rfl rfl rfl ?_; clear hA a; intro a hA
      refine S.no (dj := 31) hA (by kernel_rfl) rfl rfl rfl ?_; clear hA a; intro a hA
      refine S.no (dj := 31) hA (by kernel_rfl) rfl rfl rfl ?_; clear hA a; intro a hA
      refine S.val hA (R.pickF rfl rfl) rfl ?_; clear hA a; intro a hA
      refine S.val hA (R.move rfl) rfl ?_; clear hA a; intro a hA
      refine S.no (dj := 36) hA (by kernel_rfl) rfl rfl rfl ?_; clear hA a; intro a hA
      refine S.no (dj := 36) hA (by kernel_rfl) rfl rfl rfl ?_; clear hA a; intro a hA
      refine S.val hA (R.pickF rfl rfl) rfl ?_; clear hA a; intro a hA
      refine S.done ?_
      replace hA : St 42 [(1, _), (3, _), (9, _), (10, _), (11, _), (16, _), (17, _), (18, _), (39, _)] a := hA.sub ((.cons rfl (.cons rfl (.cons rfl (.cons rfl (.cons rfl (.cons rfl (.cons rfl (.cons rfl (.cons rfl .nil))))))))))
      exact hJ _ _ ⟨hA.sub (.cons rfl (.cons rfl (.cons rfl (.cons rfl (.cons rfl (.cons rfl (.cons rfl (.cons rfl (.cons (by first | rfl | exact congrArg (fun b => some (Value.bool b)) (by first | exact decide_eq_decide.2 (by omega) | exact or_bool (by omega) | exact and_bool (by omega) | (simp; done) | (simp [hg11]; done) | (have h80 := hg11; (try simp at h80); simp [h80]; done) | exact (decide_eq_false (fun h9 => hg11 h9.1)).symm)) .nil))))))))), hM⟩
  ·
   have hrz : pfx (cellF i r) i.n.toNat = 0 := by rw [show i.n.toNat = c_ by omega]; exact hc0
   refine Ends.exit rfl ?_
   refine Ends.inBlock (Ends.region ?_)
   refine S.val hA (R.addI rfl rfl (r := ((r : Int)) + 1) rfl (by omega)) rfl ?_; clear hA a; intro a hA
   refine S.val hA (R.move rfl) rfl ?_; clear hA a; intro a hA
   refine S.done ?_
   replace hA : St 42 [(1, _), (9, _), (10, _), (11, _)] a := hA.sub ((.cons rfl (.cons rfl (.cons rfl (.cons rfl .nil)))))
   exact hNext ((r + 1)) _ _ ((by show i.n.toNat - (r + 1) < i.n.toNat - r; omega)) ⟨hA.sub ((.cons rfl (.cons rfl (.cons rfl (.cons rfl .nil))))), hM, (by omega), (by rw [pfx_step hr0]; exact hrz)⟩
 ·
  refine Ends.exit rfl ?_
  replace hA : St 42 [] a := hA.sub (.nil)
  refine Ends.seq (Ends.region ?_)
  refine S.val hA (R.assign rfl) rfl ?_; clear hA a; intro a hA
  refine S.done ?_
  refine Ends.ret1 Tryd.func40 Tryd.results40 hA rfl ?_
  have hfin := hr0
  rw [show r = i.n.toNat by omega] at hfin
  exact ⟨by rw [hfin], Mem.trans0 hbs hM.nilL⟩
instance (i : Ins) : Decidable (shapeOK i) := by unfold shapeOK; infer_instance
def chk (i : Ins) : Int := if sizeE i ≠ 0 then sizeE i else if shapeOK i then numsE i else 8
theorem chk_size {i : Ins} (h : sizeE i ≠ 0) : chk i = sizeE i := if_pos h
theorem chk_shape {i : Ins} (h : sizeE i = 0) (h2 : ¬ shapeOK i) : chk i = 8 := by unfold chk; rw [if_neg (by rw [h]; simp), if_neg h2]
theorem chk_items {i : Ins} (h : sizeE i = 0) (h2 : shapeOK i) (hk : i.kind = 1) : chk i = if numE i.cap ≠ 0 then numE i.cap else pfx (itF i) i.n.toNat := by unfold chk numsE; rw [if_neg (by rw [h]; simp), if_pos h2, if_pos hk]
theorem chk_rows {i : Ins} (h : sizeE i = 0) (h2 : shapeOK i) (hk : ¬ i.kind = 1) : chk i = pfx (fun r => pfx (cellF i r) i.n.toNat) i.n.toNat := by unfold chk numsE; rw [if_neg (by rw [h]; simp), if_pos h2, if_neg hk]
theorem shape_items {i : Ins} (h2 : shapeOK i) (hk : i.kind = 1) : (i.wt.length : Int) = i.n ∧ (i.vl.length : Int) = i.n ∧ i.cost.length = 0 := by
  rcases h2 with h | h
  · exact h.2
  · exact absurd hk h.1
theorem shape_rows {i : Ins} (h2 : shapeOK i) (hk : ¬ i.kind = 1) : (i.cost.length : Int) = i.n ∧ i.cap = 0 ∧ i.wt.length = 0 ∧ i.vl.length = 0 ∧ ∀ r, r < i.cost.length → ((i.cost.getD r []).length : Int) = i.n := by
  rcases h2 with h | h
  · exact absurd h.1 hk
  · exact h.2
set_option maxRecDepth 100000 in
set_option maxHeartbeats 400000 in
theorem check05 (i : Ins) (ax3 : Option Addr) (cx3 : Nat) (ax4 : Option Addr) (cx4 : Nat) (ax5 : Option Addr) (cx5 : Nat) (hsm : i.wt.length ≤ 1000000 ∧ i.vl.length ≤ 1000000) (w : World) (hx3 : IntSl w (.slice ax3 i.wt.length cx3) i.wt) (hx4 : IntSl w (.slice ax4 i.vl.length cx4) i.vl) (hx5 : RowsV w (.slice ax5 i.cost.length cx5) i.cost) :
  Calls Tryd.prog 18 #[.agg #[.int .i64 i.kind, .int .i64 i.n, .int .i64 i.cap, .slice ax3 i.wt.length cx3, .slice ax4 i.vl.length cx4, .slice ax5 i.cost.length cx5]] w fun e w' => e = .returned (.int .i64 (chk i)) ∧ Below w.heap.size w w' := by
 have hbs := Below.refl (B := w.heap.size) w
 have hM := Mem.start w
 refine Calls.of_ends (vs := [.agg #[.int .i64 i.kind, .int .i64 i.n, .int .i64 i.cap, .slice ax3 i.wt.length cx3, .slice ax4 i.vl.length cx4, .slice ax5 i.cost.length cx5]]) Tryd.func18 rfl Tryd.ntmps18 rfl ?_
 intro a hA
 replace hA : St 21 [(0, _)] a := hA
 refine Ends.seq (Ends.region ?_)
 refine S.box hA hM rfl rfl ?_; clear hA hM a; intro b1 w1 hb2 hM a hA
 replace hM : Mem _ _ [pt b1 #[.int .i64 i.kind, .int .i64 i.n, .int .i64 i.cap, .slice ax3 i.wt.length cx3, .slice ax4 i.vl.length cx4, .slice ax5 i.cost.length cx5] 25] _ := hM
 refine S.val hA (R.assign rfl) rfl ?_; clear hA a; intro a hA
 refine S.done ?_
 refine Ends.seq (Ends.seq (Ends.region ?_))
 refine S.val hA (R.loadA sz25 rfl (hM.range (k := 0) rfl) rfl) rfl ?_; clear hA a; intro a hA
 refine S.call hA (R.callF Tryd.func37 rfl rfl rfl) rfl (size05 i ax3 cx3 ax4 cx4 ax5 cx5 _ (hx3.mem hM) (hx4.mem hM) (hx5.mem hM)) ?_; clear hA a
 rintro e w2 ⟨rfl, hb⟩
 replace hM := hM.callB hb; clear hb
 refine ⟨.int .i64 (sizeE i), rfl, fun a hA => ?_⟩
 refine S.val hA (R.assign rfl) rfl ?_; clear hA a; intro a hA
 refine S.done ?_
 replace hA : St 21 [(1, _), (3, _)] a := hA.sub ((.cons rfl (.cons rfl .nil)))
 refine Ends.seq (Ends.region ?_)
 refine S.val hA (R.move rfl) rfl ?_; clear hA a; intro a hA
 refine S.val hA (R.neq rfl rfl) rfl ?_; clear hA a; intro a hA
 refine S.done ?_
 refine Ends.ite hA rfl (fun hc3 => ?_) (fun hc3 => ?_)
 ·
  refine Ends.seq (Ends.region ?_)
  refine S.val hA (R.move rfl) rfl ?_; clear hA a; intro a hA
  refine S.val hA (R.assign rfl) rfl ?_; clear hA a; intro a hA
  refine S.done ?_
  replace hA : St 21 [(1, _), (2, _)] a := hA.sub ((.cons rfl (.cons rfl .nil)))
  refine Ends.ret1 Tryd.func18 Tryd.results18 hA rfl ?_
  exact ⟨by rw [chk_size hc3], Mem.trans0 hbs hM.nilL⟩
 ·
  have hs0 : sizeE i = 0 := Decidable.not_not.1 hc3
  refine Ends.skip (Ends.seq (Ends.block (Ends.seq (Ends.region ?_))))
  refine S.val hA (R.loadA sz25 rfl (hM.range (k := 0) rfl) rfl) rfl ?_; clear hA a; intro a hA
  refine S.call hA (R.callF Tryd.func38 rfl rfl rfl) rfl (shape05 i ax3 cx3 ax4 cx4 ax5 cx5 hsm _ (hx3.mem hM) (hx4.mem hM) (hx5.mem hM)) ?_; clear hA a
  rintro e w3 ⟨bs4, rfl, hbs_5, hb⟩
  replace hM := hM.callB hb; clear hb
  refine ⟨.bool bs4, rfl, fun a hA => ?_⟩
  refine S.val hA (R.not rfl) rfl ?_; clear hA a; intro a hA
  refine S.val hA (R.assign rfl) rfl ?_; clear hA a; intro a hA
  refine S.done ?_
  replace hA : St 21 [(1, _), (9, _)] a := hA.sub ((.cons rfl (.cons rfl .nil)))
  refine Ends.iteB hA rfl (fun hc6 => ?_) (fun hc6 => ?_)
  ·
   have hns : ¬ shapeOK i := fun h9 => by have h8 := hbs_5.2 h9; rw [h8] at hc6; cases hc6
   refine Ends.seq (Ends.region ?_)
   refine S.val hA (R.assign rfl) rfl ?_; clear hA a; intro a hA
   refine S.done ?_
   refine Ends.ret1 Tryd.func18 Tryd.results18 hA rfl ?_
   exact ⟨by rw [chk_shape hs0 hns], Mem.trans0 hbs hM.nilL⟩
  ·
   have hss : shapeOK i := hbs_5.1 (by simpa using hc6)
   refine Ends.seq (Ends.region ?_)
   refine S.val hA (R.fieldAddr (q := 0) fi25_0 rfl rfl rfl) rfl ?_; clear hA a; intro a hA
   refine S.val hA (R.load sz3 rfl (hM.cell (k := 0) rfl rfl)) rfl ?_; clear hA a; intro a hA
   refine S.val hA (R.eql rfl rfl) rfl ?_; clear hA a; intro a hA
   refine S.val hA (R.assign rfl) rfl ?_; clear hA a; intro a hA
   refine S.done ?_
   replace hA : St 21 [(1, _), (13, _)] a := hA.sub ((.cons rfl (.cons rfl .nil)))
   refine Ends.ite hA rfl (fun hc7 => ?_) (fun hc7 => ?_)
   ·
    have hsp := shape_items hss hc7
    have hkd := hc7
    refine Ends.seq (Ends.region ?_)
    refine S.val hA (R.loadA sz25 rfl (hM.range (k := 0) rfl) rfl) rfl ?_; clear hA a; intro a hA
    refine S.call hA (R.callF Tryd.func39 rfl rfl rfl) rfl (items05 i ax3 cx3 ax4 cx4 ax5 cx5 ⟨hsp.1, hsp.2.1⟩ _ (hx3.mem hM) (hx4.mem hM) (hx5.mem hM)) ?_; clear hA a
    rintro e w4 ⟨rfl, hb⟩
    replace hM := hM.callB hb; clear hb
    refine ⟨.int .i64 (if numE i.cap ≠ 0 then numE i.cap else pfx (itF i) i.n.toNat), rfl, fun a hA => ?_⟩
    refine S.val hA (R.assign rfl) rfl ?_; clear hA a; intro a hA
    refine S.done ?_
    refine Ends.ret1 Tryd.func18 Tryd.results18 hA rfl ?_
    exact ⟨by rw [chk_items hs0 hss hkd], Mem.trans0 hbs hM.nilL⟩
   ·
    have hsp := shape_rows hss hc7
    have hkd := hc7
    refine Ends.skip (Ends.inBlock (Ends.seq (Ends.region ?_)))
    refine S.val hA (R.loadA sz25 rfl (hM.range (k := 0) rfl) rfl) rfl ?_; clear hA a; intro a hA
    refine S.call hA (R.callF Tryd.func40 rfl rfl rfl) rfl (rows05 i ax3 cx3 ax4 cx4 ax5 cx5 hsp.2.2.2.2 hsp.1 _ (hx3.mem hM) (hx4.mem hM) (hx5.mem hM)) ?_; clear hA a
    rintro e w5 ⟨rfl, hb⟩
    replace hM := hM.callB hb; clear hb
    refine ⟨.int .i64 (pfx (fun r => pfx (cellF i r) i.n.toNat) i.n.toNat), rfl, fun a hA => ?_⟩
    refine S.val hA (R.assign rfl) rfl ?_; clear hA a; intro a hA
    refine S.done ?_
    replace hA : St 21 [(2, _)] a := hA.sub ((.cons rfl .nil))
    refine Ends.ret1 Tryd.func18 Tryd.results18 hA rfl ?_
    exact ⟨by rw [chk_rows hs0 hss hkd], Mem.trans0 hbs hM.nilL⟩
end Go.Proofs.YtakfcekfmdjklaaDoor
namespace Go.Proofs.YtakfcekfmdjklaaDoor
open Go.RowKit
theorem chk_inF {i : Ins} (h : chk i = 0) : InF i := by
  unfold chk at h
  split at h
  · rename_i q; exact absurd h q
  · rename_i q
    split at h
    · rename_i q2; exact inF_of (Decidable.not_not.1 q) q2 h
    · cases h
end Go.Proofs.YtakfcekfmdjklaaDoor
namespace Go.Proofs.YtakfcekfmdjklaaDoor
open Go.RowKit
def sv (n : Int) : Value := .string (bs (Lib.itoa n))
theorem sv_snoc {X : List Int} {k : Nat} (h : k < X.length) : (X.take k).map sv ++ [.string (bs (Lib.itoa (X.getD k 0)))] = (X.take (k + 1)).map sv := by
  rw [take_succ_getD X k h, List.map_append]; rfl
theorem join_any {w0 : World} {F : Nat → Prop} {L : List Ck} (oa : Option Addr) (X : List Int) (oc : Nat) (hX : 0 < X.length ∧ X.length ≤ 1000) (hb : ∀ x ∈ X, bd64 x) (w : World) (hM : Mem w0 F (own 9 1 (.slice oa X.length oc) X.length (X.map sv) :: L) w) :
    Calls Tryd.prog 59 #[.slice oa X.length oc, .string (bs [32])] w fun e w' => e = .returned (.string (bs (Lib.join (X.map Lib.itoa) [32]))) ∧ Below w.heap.size w w' := by
  obtain ⟨g, rfl⟩ := hM.ownAt (k := 0) rfl hX.1
  have e1 : (X.map fun n => bs (Lib.itoa n)).length = X.length := by simp
  have e2 : (X.map fun n => bs (Lib.itoa n)).map (fun b : ByteArray => b.data.toList) = X.map Lib.itoa := by rw [List.map_map]; rfl
  have hlen := join_len hb
  have h := Tryd.strings_Join g 0 oc (X.map fun n => bs (Lib.itoa n)) (bs [32]) w (fun j x hj => by
    rw [Nat.zero_add]
    refine hM.ownCell (k := 0) rfl ?_
    rw [List.getElem?_map] at hj ⊢
    cases hq : X[j]? with
    | none => rw [hq] at hj; cases hj
    | some n => rw [hq] at hj; cases hj; rfl) (hM.inb _ (.head _) g rfl).1 (by rw [e1]; omega) (by rw [e1]; exact (hM.ownLe (k := 0) rfl).1) (by rw [e2]; show (Lib.join (X.map Lib.itoa) [32]).length ≤ _; omega)
  rw [e1, e2] at h
  exact h
set_option maxRecDepth 100000 in
set_option maxHeartbeats 400000 in
theorem name05 (k : Int) (w : World) :
  Calls Tryd.prog 23 #[.int .i64 k] w fun e w' => e = .returned (.string (bs (nameB k))) ∧ Below w.heap.size w w' := by
 have hbs := Below.refl (B := w.heap.size) w
 have hM := Mem.start w
 refine Calls.of_ends (vs := [.int .i64 k]) Tryd.func23 rfl Tryd.ntmps23 rfl ?_
 intro a hA
 replace hA : St 10 [(0, _)] a := hA
 refine Ends.seq (Ends.region ?_)
 refine S.val hA (R.assign rfl) rfl ?_; clear hA a; intro a hA
 refine S.done ?_
 refine Ends.seq (Ends.seq (Ends.region ?_))
 refine S.val hA (R.move rfl) rfl ?_; clear hA a; intro a hA
 refine S.done ?_
 refine Ends.block (Ends.seq (Ends.region ?_))
 refine S.val hA (R.eql rfl rfl) rfl ?_; clear hA a; intro a hA
 refine S.val hA (R.assign rfl) rfl ?_; clear hA a; intro a hA
 refine S.done ?_
 refine Ends.ite hA rfl (fun hc1 => ?_) (fun hc1 => ?_)
 ·
  refine Ends.seq (Ends.region ?_)
  refine S.val hA (R.assign rfl) rfl ?_; clear hA a; intro a hA
  refine S.done ?_
  replace hA : St 10 [(2, _)] a := hA.sub ((.cons rfl .nil))
  refine Ends.ret1 Tryd.func23 Tryd.results23 hA rfl ?_
  have he : nameB k = ([75, 78, 65, 80, 83, 65, 67, 75] : List UInt8) := by unfold nameB; (repeat' split) <;> first | rfl | omega
  exact ⟨by rw [he]; rfl, Mem.trans0 hbs hM.nilL⟩
 ·
  refine Ends.seq (Ends.region ?_)
  refine S.val hA (R.eql rfl rfl) rfl ?_; clear hA a; intro a hA
  refine S.val hA (R.assign rfl) rfl ?_; clear hA a; intro a hA
  refine S.done ?_
  replace hA : St 10 [(3, _), (6, _)] a := hA.sub ((.cons rfl (.cons rfl .nil)))
  refine Ends.ite hA rfl (fun hc2 => ?_) (fun hc2 => ?_)
  ·
   refine Ends.seq (Ends.region ?_)
   refine S.val hA (R.assign rfl) rfl ?_; clear hA a; intro a hA
   refine S.done ?_
   refine Ends.ret1 Tryd.func23 Tryd.results23 hA rfl ?_
   have he : nameB k = ([65, 83, 83, 73, 71, 78, 77, 69, 78, 84] : List UInt8) := by unfold nameB; (repeat' split) <;> first | rfl | omega
   exact ⟨by rw [he]; rfl, Mem.trans0 hbs hM.nilL⟩
  ·
   refine Ends.seq (Ends.region ?_)
   refine S.val hA (R.eql rfl rfl) rfl ?_; clear hA a; intro a hA
   refine S.val hA (R.assign rfl) rfl ?_; clear hA a; intro a hA
   refine S.done ?_
   refine Ends.ite hA rfl (fun hc3 => ?_) (fun hc3 => ?_)
   ·
    refine Ends.seq (Ends.region ?_)
    refine S.val hA (R.assign rfl) rfl ?_; clear hA a; intro a hA
    refine S.done ?_
    replace hA : St 10 [(2, _)] a := hA.sub ((.cons rfl .nil))
    refine Ends.ret1 Tryd.func23 Tryd.results23 hA rfl ?_
    have he : nameB k = ([84, 83, 80] : List UInt8) := by unfold nameB; (repeat' split) <;> first | rfl | omega
    exact ⟨by rw [he]; rfl, Mem.trans0 hbs hM.nilL⟩
   ·
    refine Ends.skip (Ends.inBlock (Ends.seq (Ends.region ?_)))
    refine S.val hA (R.assign rfl) rfl ?_; clear hA a; intro a hA
    refine S.done ?_
    replace hA : St 10 [(2, _)] a := hA.sub ((.cons rfl .nil))
    refine Ends.ret1 Tryd.func23 Tryd.results23 hA rfl ?_
    have he : nameB k = ([] : List UInt8) := by unfold nameB; (repeat' split) <;> first | rfl | omega
    exact ⟨by rw [he]; rfl, Mem.trans0 hbs hM.nilL⟩
set_option maxRecDepth 100000 in
set_option maxHeartbeats 400000 in
theorem line05 (ax : Option Addr) (X : List Int) (cx : Nat) (hX : 0 < X.length ∧ X.length ≤ 1000) (hbx : ∀ x ∈ X, bd64 x) (w : World) (hx : IntSl w (.slice ax X.length cx) X) (htab : Lib.TabIs Tryd.prog w "internal/strconv.uint64pow10" .u64 Lib.pow10Tab) :
  Calls Tryd.prog 42 #[.slice ax X.length cx] w fun e w' => e = .returned (.string (bs (lineB X))) ∧ Below w.heap.size w w' := by
 have hbs := Below.refl (B := w.heap.size) w
 have hM := Mem.start w
 refine Calls.of_ends (vs := [.slice ax X.length cx]) Tryd.func42 rfl Tryd.ntmps42 rfl ?_
 intro a hA
 replace hA : St 21 [(0, _)] a := hA
 refine Ends.seq (Ends.region ?_)
 refine S.val hA (R.assign rfl) rfl ?_; clear hA a; intro a hA
 refine S.done ?_
 refine Ends.seq (Ends.region ?_)
 refine S.val hA (R.assign rfl) rfl ?_; clear hA a; intro a hA
 refine S.done ?_
 refine Ends.seq (Ends.seq (Ends.region ?_))
 refine S.val hA (R.move rfl) rfl ?_; clear hA a; intro a hA
 refine S.val hA (R.lenS Tryd.underlying22 rfl rfl) rfl ?_; clear hA a; intro a hA
 refine S.val hA (R.move rfl) rfl ?_; clear hA a; intro a hA
 refine S.done ?_
 refine Ends.block ?_
 replace hM := hM.ownNil 9 1
 replace hM : Mem _ _ [own 9 1 (.slice none 0 0) 0 (((X.take 0).map sv))] _ := hM
 refine Ends.loop (σ := Nat × Option Addr × Nat) (fun (k, ao, co) (a : Act) (wv : World) => St 21 [(3, .slice ao k co), (6, .slice ax X.length cx), (7, .int .i64 ((X.length : Int))), (8, .int .i64 ((k : Int)))] a ∧ Mem w nof [own 9 1 (.slice ao k co) k (((X.take k).map sv))] wv ∧ (k ≤ X.length)) (fun (k, ao, co) => X.length - k) ((0, none, 0)) ⟨hA.sub ((.cons rfl (.cons rfl (.cons rfl (.cons rfl .nil))))), hM, (Nat.zero_le _)⟩ ?_
 clear hA hM a
 rintro ⟨k, ao, co⟩ a w1 ⟨hA, hM, hk⟩ hNext
 refine Ends.seq (Ends.region ?_)
 refine S.val hA (R.lss rfl rfl) rfl ?_; clear hA a; intro a hA
 refine S.done ?_
 refine Ends.seq ?_
 refine Ends.ite hA rfl (fun hc1 => ?_) (fun hc1 => ?_)
 ·
  have hxk : bd64 (X.getD k 0) := hbx _ (getD_mem (by omega))
  unfold bd64 at hxk
  refine Ends.skip (Ends.seq (Ends.block (Ends.seq (Ends.region ?_))))
  refine S.val hA (R.idxI hx (j := k) sl22 rfl rfl (by omega) (rfl)) rfl ?_; clear hA a; intro a hA
  refine S.val hA (R.loadI (hx.mem hM) sz3 rfl (by omega)) rfl ?_; clear hA a; intro a hA
  refine S.val hA (R.assign rfl) rfl ?_; clear hA a; intro a hA
  refine S.done ?_
  refine Ends.region ?_
  refine S.val hA (R.move rfl) rfl ?_; clear hA a; intro a hA
  refine S.val hA (R.move rfl) rfl ?_; clear hA a; intro a hA
  refine S.call hA (R.callF Tryd.func43 rfl rfl rfl) rfl (write_any (X.getD k 0) (by omega) _ (tab_below htab (Mem.trans0 hbs hM.nilL))) ?_; clear hA a
  rintro e w2 ⟨rfl, hb⟩
  replace hM := hM.callB hb; clear hb
  refine ⟨.string ((bs (Lib.itoa (X.getD k 0)))), rfl, fun a hA => ?_⟩
  refine S.buildSl (cells := #[.string ((bs (Lib.itoa (X.getD k 0))))]) hA hM Tryd.underlying34 info9 rfl rfl rfl rfl (by kernel_rfl) rfl ?_; clear hA hM a; intro b2 w3 hb3 hM a hA
  replace hM : Mem _ _ [pt b2 #[.string ((bs (Lib.itoa (X.getD k 0))))] 9, own 9 1 (.slice ao k co) k (((X.take k).map sv))] _ := hM
  refine S.append (k := 1) (k2 := 0) hA hM rfl rfl Tryd.underlying34 info9 rfl rfl rfl rfl rfl rfl rfl rfl rfl (by first | (unfold maxLen; omega) | (show (_ + 1) * 16 ≤ (140737488355328 : Nat); omega)) (by first | (unfold maxLen; omega) | (show (_ + 1) * 16 ≤ (140737488355328 : Nat); omega)) rfl ?_; clear hA hM a; intro a4 c5 w4 hM a hA
  replace hM : Mem _ _ [pt b2 #[.string ((bs (Lib.itoa (X.getD k 0))))] 9, own 9 1 (.slice a4 (k + 1) c5) (k + 1) ((((X.take k).map sv) ++ [.string ((bs (Lib.itoa (X.getD k 0))))]))] _ := hM
  replace hM := hM.drop 0
  replace hM : Mem _ _ [own 9 1 (.slice a4 (k + 1) c5) (k + 1) ((((X.take k).map sv) ++ [.string ((bs (Lib.itoa (X.getD k 0))))]))] _ := hM
  refine S.val hA (R.assign rfl) rfl ?_; clear hA a; intro a hA
  refine S.done ?_
  replace hA : St 21 [(3, _), (6, _), (7, _), (8, _)] a := hA.sub ((.cons rfl (.cons rfl (.cons rfl (.cons rfl .nil)))))
  refine Ends.inBlock (Ends.region ?_)
  refine S.val hA (R.addI rfl rfl (r := ((k : Int)) + 1) rfl (by omega)) rfl ?_; clear hA a; intro a hA
  refine S.val hA (R.move rfl) rfl ?_; clear hA a; intro a hA
  refine S.done ?_
  replace hM := hM.firstN 1
  rw [sv_snoc (by omega)] at hM
  exact hNext ((k + 1, a4, c5)) _ _ ((by show X.length - (k + 1) < X.length - k; omega)) ⟨hA.sub ((.cons rfl (.cons rfl (.cons rfl (.cons rfl .nil))))), hM, (by omega)⟩
 ·
  obtain rfl : k = X.length := by omega
  rw [List.take_length] at hM
  have hjl := join_len hbx
  refine Ends.exit rfl ?_
  refine Ends.seq (Ends.region ?_)
  refine S.val hA (R.move rfl) rfl ?_; clear hA a; intro a hA
  refine S.call hA (R.callF Tryd.func59 rfl rfl rfl) rfl (join_any ao X co hX hbx _ hM) ?_; clear hA a
  rintro e w5 ⟨rfl, hb⟩
  replace hM := hM.callB hb; clear hb
  refine ⟨.string ((bs ((Lib.join (X.map Lib.itoa) [32])))), rfl, fun a hA => ?_⟩
  refine S.val hA (R.to (v := .string (bs ((Lib.join (X.map Lib.itoa) [32]) ++ ([10] : List UInt8)))) (R.addS rfl rfl (by show (bs ((Lib.join (X.map Lib.itoa) [32]))).size + (bs (([10] : List UInt8))).size ≤ _; simp only [bs_size, List.length_append, List.length_cons, List.length_nil]; omega)) (congrArg Value.string (bs_app ((Lib.join (X.map Lib.itoa) [32])) (([10] : List UInt8))))) rfl ?_; clear hA a; intro a hA
  refine S.val hA (R.assign rfl) rfl ?_; clear hA a; intro a hA
  refine S.done ?_
  replace hA : St 21 [(2, _)] a := hA.sub ((.cons rfl .nil))
  refine Ends.ret1 Tryd.func42 Tryd.results42 hA rfl ?_
  exact ⟨rfl, Mem.trans0 hbs hM.nilL⟩
theorem bd_list1 {a : Int} (h : bd64 a) : ∀ x ∈ [a], bd64 x := fun x hx => by rcases List.mem_cons.1 hx with rfl | hx; exact h; cases hx
theorem bd_list2 {a b : Int} (h : bd64 a) (g : bd64 b) : ∀ x ∈ [a, b], bd64 x := fun x hx => by
  rcases List.mem_cons.1 hx with rfl | hx
  · exact h
  · exact bd_list1 g x hx
def wtxt (i : Ins) : List UInt8 := if chk i = 0 then textB i else []
theorem nameB_len (k : Int) : (nameB k).length ≤ 10 := by unfold nameB; (repeat' split) <;> decide
set_option maxRecDepth 100000 in
set_option maxHeartbeats 400000 in
theorem write05 (i : Ins) (ax3 : Option Addr) (cx3 : Nat) (ax4 : Option Addr) (cx4 : Nat) (ax5 : Option Addr) (cx5 : Nat) (hsm : i.wt.length ≤ 1000000 ∧ i.vl.length ≤ 1000000) (w : World) (hx3 : IntSl w (.slice ax3 i.wt.length cx3) i.wt) (hx4 : IntSl w (.slice ax4 i.vl.length cx4) i.vl) (hx5 : RowsV w (.slice ax5 i.cost.length cx5) i.cost) (htab : Lib.TabIs Tryd.prog w "internal/strconv.uint64pow10" .u64 Lib.pow10Tab) :
  Calls Tryd.prog 20 #[.agg #[.int .i64 i.kind, .int .i64 i.n, .int .i64 i.cap, .slice ax3 i.wt.length cx3, .slice ax4 i.vl.length cx4, .slice ax5 i.cost.length cx5]] w fun e w' => e = .returned (.tuple #[.string (bs (wtxt i)), .int .i64 (chk i)]) ∧ Below w.heap.size w w' := by
 have hbs := Below.refl (B := w.heap.size) w
 have hl5 := hx5.lenB
 have hM := Mem.start w
 refine Calls.of_ends (vs := [.agg #[.int .i64 i.kind, .int .i64 i.n, .int .i64 i.cap, .slice ax3 i.wt.length cx3, .slice ax4 i.vl.length cx4, .slice ax5 i.cost.length cx5]]) Tryd.func20 rfl Tryd.ntmps20 rfl ?_
 intro a hA
 replace hA : St 81 [(0, _)] a := hA
 refine Ends.seq (Ends.region ?_)
 refine S.box hA hM rfl rfl ?_; clear hA hM a; intro b1 w1 hb2 hM a hA
 replace hM : Mem _ _ [pt b1 #[.int .i64 i.kind, .int .i64 i.n, .int .i64 i.cap, .slice ax3 i.wt.length cx3, .slice ax4 i.vl.length cx4, .slice ax5 i.cost.length cx5] 25] _ := hM
 refine S.val hA (R.assign rfl) rfl ?_; clear hA a; intro a hA
 refine S.val hA (R.assign rfl) rfl ?_; clear hA a; intro a hA
 refine S.done ?_
 refine Ends.seq (Ends.seq (Ends.region ?_))
 refine S.val hA (R.loadA sz25 rfl (hM.range (k := 0) rfl) rfl) rfl ?_; clear hA a; intro a hA
 refine S.call hA (R.callF Tryd.func18 rfl rfl rfl) rfl (check05 i ax3 cx3 ax4 cx4 ax5 cx5 hsm _ (hx3.mem hM) (hx4.mem hM) (hx5.mem hM)) ?_; clear hA a
 rintro e w2 ⟨rfl, hb⟩
 replace hM := hM.callB hb; clear hb
 refine ⟨.int .i64 (chk i), rfl, fun a hA => ?_⟩
 refine S.val hA (R.assign rfl) rfl ?_; clear hA a; intro a hA
 refine S.done ?_
 replace hA : St 81 [(1, _), (4, _)] a := hA.sub ((.cons rfl (.cons rfl .nil)))
 refine Ends.seq (Ends.region ?_)
 refine S.val hA (R.move rfl) rfl ?_; clear hA a; intro a hA
 refine S.val hA (R.neq rfl rfl) rfl ?_; clear hA a; intro a hA
 refine S.done ?_
 refine Ends.ite hA rfl (fun hc3 => ?_) (fun hc3 => ?_)
 ·
  refine Ends.seq (Ends.region ?_)
  refine S.val hA (R.move rfl) rfl ?_; clear hA a; intro a hA
  refine S.val hA (R.assign rfl) rfl ?_; clear hA a; intro a hA
  refine S.val hA (R.assign rfl) rfl ?_; clear hA a; intro a hA
  refine S.done ?_
  replace hA : St 81 [(1, _), (2, _), (3, _)] a := hA.sub ((.cons rfl (.cons rfl (.cons rfl .nil))))
  refine Ends.ret2 Tryd.func20 Tryd.results20 hA rfl rfl ?_
  exact ⟨by unfold wtxt; rw [if_neg hc3]; rfl, Mem.trans0 hbs hM.nilL⟩
 ·
  have hz : chk i = 0 := Decidable.not_not.1 hc3
  have hF := chk_inF hz
  have f1 := hF.kind
  have f2 := hF.n1
  have f3 := hF.n64
  have f4 := hF.cap
  have f5 := hF.wt
  have f6 := hF.vl
  have f7 := hF.cost
  have f8 := hF.n24
  have hnl := nameB_len i.kind
  have hni := itoa_len' (n := i.n) (by unfold bd64; omega)
  have hnc := itoa_len' (n := i.cap) (by unfold bd64; omega)
  refine Ends.skip (Ends.seq (Ends.region ?_))
  refine S.val hA (R.fieldAddr (q := 0) fi25_0 rfl rfl rfl) rfl ?_; clear hA a; intro a hA
  refine S.val hA (R.load sz3 rfl (hM.cell (k := 0) rfl rfl)) rfl ?_; clear hA a; intro a hA
  refine S.call hA (R.callF Tryd.func23 rfl rfl rfl) rfl (name05 i.kind _) ?_; clear hA a
  rintro e w3 ⟨rfl, hb⟩
  replace hM := hM.callB hb; clear hb
  refine ⟨.string ((bs (nameB i.kind))), rfl, fun a hA => ?_⟩
  refine S.val hA (R.to (v := .string (bs (nameB i.kind ++ ([32] : List UInt8)))) (R.addS rfl rfl (by show (bs (nameB i.kind)).size + (bs (([32] : List UInt8))).size ≤ _; simp only [bs_size, List.length_append, List.length_cons, List.length_nil]; omega)) (congrArg Value.string (bs_app (nameB i.kind) (([32] : List UInt8))))) rfl ?_; clear hA a; intro a hA
  refine S.val hA (R.assign rfl) rfl ?_; clear hA a; intro a hA
  refine S.done ?_
  replace hA : St 81 [(1, _), (5, _)] a := hA.sub ((.cons rfl (.cons rfl .nil)))
  refine Ends.seq (Ends.seq (Ends.region ?_))
  refine S.val hA (R.fieldAddr (q := 0) fi25_0 rfl rfl rfl) rfl ?_; clear hA a; intro a hA
  refine S.val hA (R.load sz3 rfl (hM.cell (k := 0) rfl rfl)) rfl ?_; clear hA a; intro a hA
  refine S.done ?_
  refine Ends.block (Ends.seq (Ends.region ?_))
  refine S.val hA (R.eql rfl rfl) rfl ?_; clear hA a; intro a hA
  refine S.val hA (R.assign rfl) rfl ?_; clear hA a; intro a hA
  refine S.done ?_
  refine Ends.ite hA rfl (fun hc4 => ?_) (fun hc4 => ?_)
  ·
   have hk1 := hc4
   rw [if_pos hk1] at f5 f6 f7
   have hhl := lineB_len (l := [i.n, i.cap]) (bd_list2 (by unfold bd64; omega) (by unfold bd64; omega))
   simp only [List.length_cons, List.length_nil] at hhl
   refine Ends.seq (Ends.region ?_)
   refine S.val hA (R.move rfl) rfl ?_; clear hA a; intro a hA
   refine S.val hA (R.fieldAddr (q := 1) fi25_1 rfl rfl rfl) rfl ?_; clear hA a; intro a hA
   refine S.val hA (R.load sz3 rfl (hM.cell (k := 0) rfl rfl)) rfl ?_; clear hA a; intro a hA
   refine S.val hA (R.fieldAddr (q := 2) fi25_2 rfl rfl rfl) rfl ?_; clear hA a; intro a hA
   refine S.val hA (R.load sz3 rfl (hM.cell (k := 0) rfl rfl)) rfl ?_; clear hA a; intro a hA
   refine S.buildSl (cells := #[.int .i64 i.n, .int .i64 i.cap]) hA hM Tryd.underlying22 info3 rfl rfl rfl rfl (by kernel_rfl) rfl ?_; clear hA hM a; intro b5 w4 hb6 hM a hA
   replace hM : Mem _ _ [pt b5 #[.int .i64 i.n, .int .i64 i.cap] 3, pt b1 #[.int .i64 i.kind, .int .i64 i.n, .int .i64 i.cap, .slice ax3 i.wt.length cx3, .slice ax4 i.vl.length cx4, .slice ax5 i.cost.length cx5] 25] _ := hM
   have hq7 := hM.ptRs (k := 0) (X := ([i.n, i.cap] : List Int)) rfl (by simp)
   refine S.call hA (R.callF Tryd.func42 rfl rfl rfl) rfl (line05 (some ⟨b5, 0, none⟩) ([i.n, i.cap] : List Int) 2 (by simp) (bd_list2 (by unfold bd64; omega) (by unfold bd64; omega)) _ hq7 (tab_below htab (Mem.trans0 hbs hM.nilL))) ?_; clear hA a
   rintro e w5 ⟨rfl, hb⟩
   replace hM := hM.callB hb; clear hb
   refine ⟨.string ((bs (lineB ([i.n, i.cap] : List Int)))), rfl, fun a hA => ?_⟩
   refine S.val hA (R.to (v := .string (bs ((nameB i.kind ++ ([32] : List UInt8)) ++ lineB ([i.n, i.cap] : List Int)))) (R.addS rfl rfl (by show (bs ((nameB i.kind ++ ([32] : List UInt8)))).size + (bs (lineB ([i.n, i.cap] : List Int))).size ≤ _; simp only [bs_size, List.length_append, List.length_cons, List.length_nil]; omega)) (congrArg Value.string (bs_app ((nameB i.kind ++ ([32] : List UInt8))) (lineB ([i.n, i.cap] : List Int))))) rfl ?_; clear hA a; intro a hA
   refine S.val hA (R.assign rfl) rfl ?_; clear hA a; intro a hA
   refine S.done ?_
   replace hA : St 81 [(1, _), (5, _)] a := hA.sub ((.cons rfl (.cons rfl .nil)))
   refine Ends.seq (Ends.region ?_)
   refine S.val hA (R.fieldAddr (q := 1) fi25_1 rfl rfl rfl) rfl ?_; clear hA a; intro a hA
   refine S.val hA (R.load sz3 rfl (hM.cell (k := 1) rfl rfl)) rfl ?_; clear hA a; intro a hA
   refine S.val hA (R.move rfl) rfl ?_; clear hA a; intro a hA
   refine S.done ?_
   refine Ends.block ?_
   rw [show bs (((nameB i.kind ++ ([32] : List UInt8)) ++ lineB ([i.n, i.cap] : List Int))) = bs (((nameB i.kind ++ ([32] : List UInt8)) ++ lineB ([i.n, i.cap] : List Int)) ++ itemsB i 0) by simp [itemsB]] at hA
   refine Ends.loop (σ := Nat) (fun k (a : Act) (wv : World) => St 81 [(1, .pointer (some ⟨b1, 0, none⟩)), (5, .string ((bs ((((nameB i.kind ++ ([32] : List UInt8)) ++ lineB ([i.n, i.cap] : List Int)) ++ itemsB i k))))), (31, .int .i64 i.n), (32, .int .i64 ((k : Int)))] a ∧ Mem w nof [pt b5 #[.int .i64 i.n, .int .i64 i.cap] 3, pt b1 #[.int .i64 i.kind, .int .i64 i.n, .int .i64 i.cap, .slice ax3 i.wt.length cx3, .slice ax4 i.vl.length cx4, .slice ax5 i.cost.length cx5] 25] wv ∧ (k ≤ i.n.toNat)) (fun k => i.n.toNat - k) 0 ⟨hA.sub ((.cons rfl (.cons rfl (.cons rfl (.cons rfl .nil))))), hM, (Nat.zero_le _)⟩ ?_
   clear hA hM a
   rintro k a w6 ⟨hA, hM, hk⟩ hNext
   refine Ends.seq (Ends.region ?_)
   refine S.val hA (R.lss rfl rfl) rfl ?_; clear hA a; intro a hA
   refine S.done ?_
   refine Ends.seq ?_
   refine Ends.ite hA rfl (fun hc8 => ?_) (fun hc8 => ?_)
   ·
    have g1 := hF.wtr k
    have g2 := hF.vlr k
    have hil := itemsB_len hF k
    refine Ends.skip (Ends.seq (Ends.block (Ends.seq (Ends.region ?_))))
    refine S.val hA (R.move rfl) rfl ?_; clear hA a; intro a hA
    refine S.val hA (R.assign rfl) rfl ?_; clear hA a; intro a hA
    refine S.done ?_
    refine Ends.drawn (Mem w nof [pt b5 #[.int .i64 i.n, .int .i64 i.cap] 3, pt b1 #[.int .i64 i.kind, .int .i64 i.n, .int .i64 i.cap, .slice ax3 i.wt.length cx3, .slice ax4 i.vl.length cx4, .slice ax5 i.cost.length cx5] 25]) (.cons (0, true) (.cons (1, true) (.cons (2, true) (.cons (3, true) (.cons (4, true) (.cons (5, true) (.cons (6, true) (.cons (7, true) (.cons (8, true) (.cons (9, true) (.cons (10, true) (.cons (11, false) (.cons (12, false) (.cons (13, true) (.cons (14, true) .nil))))))))))))))) 15 mixed (by kernel_rfl) (by kernel_rfl) (by kernel_rfl) hM.drew ?_
    replace hM := hM.drew
    refine D.valF hA rfl (fun _ => R.move rfl) rfl ?_; clear hA a; intro a hA
    refine D.valF hA rfl (fun _ => R.fieldAddr (q := 3) fi25_3 rfl rfl rfl) rfl ?_; clear hA a; intro a hA
    refine D.val hA rfl (by kernel_rfl) (fun _ hM => R.load sz22 rfl (hM.cell (k := 1) rfl rfl)) rfl ?_; clear hA a; intro a hA
    refine D.valF hA rfl (fun _ => R.move rfl) rfl ?_; clear hA a; intro a hA
    refine D.valF hA rfl (fun _ => R.idxI hx3 (j := k) sl22 rfl rfl (by omega) (rfl)) rfl ?_; clear hA a; intro a hA
    refine D.val hA rfl (by kernel_rfl) (fun _ hM => R.loadI (hx3.mem hM) sz3 rfl (by omega)) rfl ?_; clear hA a; intro a hA
    refine D.valF hA rfl (fun _ => R.fieldAddr (q := 4) fi25_4 rfl rfl rfl) rfl ?_; clear hA a; intro a hA
    refine D.val hA rfl (by kernel_rfl) (fun _ hM => R.load sz22 rfl (hM.cell (k := 1) rfl rfl)) rfl ?_; clear hA a; intro a hA
    refine D.valF hA rfl (fun _ => R.move rfl) rfl ?_; clear hA a; intro a hA
    refine D.valF hA rfl (fun _ => R.idxI hx4 (j := k) sl22 rfl rfl (by omega) (rfl)) rfl ?_; clear hA a; intro a hA
    refine D.val hA rfl (by kernel_rfl) (fun _ hM => R.loadI (hx4.mem hM) sz3 rfl (by omega)) rfl ?_; clear hA a; intro a hA
    refine D.buildSl (cells := #[.int .i64 (i.wt.getD k 0), .int .i64 (i.vl.getD k 0)]) hA hM rfl Tryd.underlying22 info3 rfl rfl rfl rfl (by kernel_rfl) rfl ?_; clear hA hM a; intro b9 w7 hb10 hM; refine ⟨hM.tail, fun a hA => ?_⟩
    replace hM : Mem _ _ [pt b9 #[.int .i64 (i.wt.getD k 0), .int .i64 (i.vl.getD k 0)] 3, pt b5 #[.int .i64 i.n, .int .i64 i.cap] 3, pt b1 #[.int .i64 i.kind, .int .i64 i.n, .int .i64 i.cap, .slice ax3 i.wt.length cx3, .slice ax4 i.vl.length cx4, .slice ax5 i.cost.length cx5] 25] _ := hM
    have hq11 := hM.ptRs (k := 0) (X := ([i.wt.getD k 0, i.vl.getD k 0] : List Int)) rfl (by simp)
    have hll := lineB_len (l := ([i.wt.getD k 0, i.vl.getD k 0] : List Int)) (bd_list2 (by unfold bd64; omega) (by unfold bd64; omega))
    simp only [List.length_cons, List.length_nil] at hll
    refine D.call hA rfl (R.callF Tryd.func42 rfl rfl rfl) rfl (line05 (some ⟨b9, 0, none⟩) ([i.wt.getD k 0, i.vl.getD k 0] : List Int) 2 (by simp) (bd_list2 (by unfold bd64; omega) (by unfold bd64; omega)) _ hq11 (tab_below htab (Mem.trans0 hbs hM.nilL))) ?_; clear hA a
    rintro e w8 ⟨rfl, hb⟩
    replace hM := hM.callB hb; clear hb
    refine ⟨.string ((bs (lineB ([i.wt.getD k 0, i.vl.getD k 0] : List Int)))), rfl, (hM.drop 0), fun a hA => ?_⟩
    refine D.valF hA rfl (fun _ => R.to (v := .string (bs ((((nameB i.kind ++ ([32] : List UInt8)) ++ lineB ([i.n, i.cap] : List Int)) ++ itemsB i k) ++ lineB ([i.wt.getD k 0, i.vl.getD k 0] : List Int)))) (R.addS rfl rfl (by show (bs ((((nameB i.kind ++ ([32] : List UInt8)) ++ lineB ([i.n, i.cap] : List Int)) ++ itemsB i k))).size + (bs (lineB ([i.wt.getD k 0, i.vl.getD k 0] : List Int))).size ≤ _; simp only [bs_size, List.length_append, List.length_cons, List.length_nil]; omega)) (congrArg Value.string (bs_app ((((nameB i.kind ++ ([32] : List UInt8)) ++ lineB ([i.n, i.cap] : List Int)) ++ itemsB i k)) (lineB ([i.wt.getD k 0, i.vl.getD k 0] : List Int))))) rfl ?_; clear hA a; intro a hA
    refine D.valF hA rfl (fun _ => R.assign rfl) rfl ?_; clear hA a; intro a hA
    refine D.done ?_
    replace hA : St 81 [(1, _), (5, _), (31, _), (32, _)] a := hA.sub ((.cons rfl (.cons rfl (.cons rfl (.cons rfl .nil)))))
    refine Ends.inBlock (Ends.region ?_)
    refine S.val hA (R.addI rfl rfl (r := ((k : Int)) + 1) rfl (by omega)) rfl ?_; clear hA a; intro a hA
    refine S.val hA (R.move rfl) rfl ?_; clear hA a; intro a hA
    refine S.done ?_
    replace hM := hM.drop 0
    replace hM : Mem _ _ [pt b5 #[.int .i64 i.n, .int .i64 i.cap] 3, pt b1 #[.int .i64 i.kind, .int .i64 i.n, .int .i64 i.cap, .slice ax3 i.wt.length cx3, .slice ax4 i.vl.length cx4, .slice ax5 i.cost.length cx5] 25] _ := hM
    rw [List.append_assoc ((nameB i.kind ++ ([32] : List UInt8)) ++ lineB ([i.n, i.cap] : List Int))] at hA
    exact hNext ((k + 1)) _ _ ((by show i.n.toNat - (k + 1) < i.n.toNat - k; omega)) ⟨hA.sub ((.cons rfl (.cons rfl (.cons rfl (.cons rfl .nil))))), hM, (by omega)⟩
   ·
    obtain rfl : k = i.n.toNat := by omega
    have hil := itemsB_len hF i.n.toNat
    refine Ends.exit rfl ?_
    refine Ends.inBlock (Ends.seq (Ends.seq (Ends.region ?_)))
    refine S.val hA (R.fieldAddr (q := 5) fi25_5 rfl rfl rfl) rfl ?_; clear hA a; intro a hA
    refine S.val hA (R.load sz23 rfl (hM.cell (k := 1) rfl rfl)) rfl ?_; clear hA a; intro a hA
    refine S.val hA (R.lenS Tryd.underlying23 rfl rfl) rfl ?_; clear hA a; intro a hA
    refine S.val hA (R.move rfl) rfl ?_; clear hA a; intro a hA
    refine S.done ?_
    refine Ends.block ?_
    rw [show bs ((((nameB i.kind ++ ([32] : List UInt8)) ++ lineB ([i.n, i.cap] : List Int)) ++ itemsB i i.n.toNat)) = bs ((((nameB i.kind ++ ([32] : List UInt8)) ++ lineB ([i.n, i.cap] : List Int)) ++ itemsB i i.n.toNat) ++ rowsB i 0) by simp [rowsB]] at hA
    refine Ends.loop (σ := Nat) (fun r (a : Act) (wv : World) => St 81 [(5, .string ((bs (((((nameB i.kind ++ ([32] : List UInt8)) ++ lineB ([i.n, i.cap] : List Int)) ++ itemsB i i.n.toNat) ++ rowsB i r))))), (69, .slice ax5 i.cost.length cx5), (70, .int .i64 ((i.cost.length : Int))), (71, .int .i64 ((r : Int)))] a ∧ Mem w nof [pt b5 #[.int .i64 i.n, .int .i64 i.cap] 3, pt b1 #[.int .i64 i.kind, .int .i64 i.n, .int .i64 i.cap, .slice ax3 i.wt.length cx3, .slice ax4 i.vl.length cx4, .slice ax5 i.cost.length cx5] 25] wv ∧ (r ≤ i.cost.length)) (fun r => i.cost.length - r) 0 ⟨hA.sub ((.cons rfl (.cons rfl (.cons rfl (.cons rfl .nil))))), hM, (Nat.zero_le _)⟩ ?_
    clear hA hM a
    rintro r a w9 ⟨hA, hM, hr⟩ hNext1
    refine Ends.seq (Ends.region ?_)
    refine S.val hA (R.lss rfl rfl) rfl ?_; clear hA a; intro a hA
    refine S.done ?_
    refine Ends.seq ?_
    refine Ends.ite hA rfl (fun hc12 => ?_) (fun hc12 => ?_)
    ·
     have hrl := rowsB_len hF r (by omega)
     have hbr := hF.rowbd r
     have hrr := hF.row r (by omega)
     have hll := lineB_len hbr
     refine Ends.skip (Ends.seq (Ends.block (Ends.seq (Ends.region ?_))))
     refine S.val hA (R.idxR hx5 (j := r) sl23 rfl rfl (by omega) (rfl)) rfl ?_; clear hA a; intro a hA
     obtain ⟨ra13, rc14, hrow15, hld16⟩ := hx5.atP (i := r) (by omega)
     refine S.val hA (hld16 _ _ _ _ _ _ hM sz22 rfl) rfl ?_; clear hA a; intro a hA
     refine S.val hA (R.assign rfl) rfl ?_; clear hA a; intro a hA
     refine S.done ?_
     refine Ends.region ?_
     refine S.val hA (R.move rfl) rfl ?_; clear hA a; intro a hA
     refine S.val hA (R.move rfl) rfl ?_; clear hA a; intro a hA
     refine S.call hA (R.callF Tryd.func42 rfl rfl rfl) rfl (line05 ra13 ((i.cost.getD r [])) rc14 (by omega) hbr _ (hrow15.mem hM) (tab_below htab (Mem.trans0 hbs hM.nilL))) ?_; clear hA a
     rintro e w10 ⟨rfl, hb⟩
     replace hM := hM.callB hb; clear hb
     refine ⟨.string ((bs (lineB ((i.cost.getD r []))))), rfl, fun a hA => ?_⟩
     refine S.val hA (R.to (v := .string (bs (((((nameB i.kind ++ ([32] : List UInt8)) ++ lineB ([i.n, i.cap] : List Int)) ++ itemsB i i.n.toNat) ++ rowsB i r) ++ lineB ((i.cost.getD r []))))) (R.addS rfl rfl (by show (bs (((((nameB i.kind ++ ([32] : List UInt8)) ++ lineB ([i.n, i.cap] : List Int)) ++ itemsB i i.n.toNat) ++ rowsB i r))).size + (bs (lineB ((i.cost.getD r [])))).size ≤ _; simp only [bs_size, List.length_append, List.length_cons, List.length_nil]; omega)) (congrArg Value.string (bs_app (((((nameB i.kind ++ ([32] : List UInt8)) ++ lineB ([i.n, i.cap] : List Int)) ++ itemsB i i.n.toNat) ++ rowsB i r)) (lineB ((i.cost.getD r [])))))) rfl ?_; clear hA a; intro a hA
     refine S.val hA (R.assign rfl) rfl ?_; clear hA a; intro a hA
     refine S.done ?_
     replace hA : St 81 [(5, _), (69, _), (70, _), (71, _)] a := hA.sub ((.cons rfl (.cons rfl (.cons rfl (.cons rfl .nil)))))
     refine Ends.inBlock (Ends.region ?_)
     refine S.val hA (R.addI rfl rfl (r := ((r : Int)) + 1) rfl (by omega)) rfl ?_; clear hA a; intro a hA
     refine S.val hA (R.move rfl) rfl ?_; clear hA a; intro a hA
     refine S.done ?_
     replace hM : Mem _ _ [pt b5 #[.int .i64 i.n, .int .i64 i.cap] 3, pt b1 #[.int .i64 i.kind, .int .i64 i.n, .int .i64 i.cap, .slice ax3 i.wt.length cx3, .slice ax4 i.vl.length cx4, .slice ax5 i.cost.length cx5] 25] _ := hM
     rw [List.append_assoc (((nameB i.kind ++ ([32] : List UInt8)) ++ lineB ([i.n, i.cap] : List Int)) ++ itemsB i i.n.toNat)] at hA
     exact hNext1 ((r + 1)) _ _ ((by show i.cost.length - (r + 1) < i.cost.length - r; omega)) ⟨hA.sub ((.cons rfl (.cons rfl (.cons rfl (.cons rfl .nil))))), hM, (by omega)⟩
    ·
     have hrl := rowsB_len hF r (by omega)
     obtain rfl : r = i.cost.length := by omega
     refine Ends.exit rfl ?_
     replace hA : St 81 [(5, _)] a := hA.sub ((.cons rfl .nil))
     refine Ends.seq (Ends.region ?_)
     refine S.val hA (R.move rfl) rfl ?_; clear hA a; intro a hA
     refine S.val hA (R.assign rfl) rfl ?_; clear hA a; intro a hA
     refine S.val hA (R.assign rfl) rfl ?_; clear hA a; intro a hA
     refine S.done ?_
     refine Ends.ret2 Tryd.func20 Tryd.results20 hA rfl rfl ?_
     have he : wtxt i = ((((nameB i.kind ++ ([32] : List UInt8)) ++ lineB ([i.n, i.cap] : List Int)) ++ itemsB i i.n.toNat) ++ rowsB i i.cost.length) := by
      unfold wtxt textB headB
      rw [if_pos hz]; (repeat' split) <;> first | (exfalso; omega) | (simp only [hk1, List.append_assoc]; done) | (simp [*, nameB, List.append_assoc]; done)
     exact ⟨by rw [he, hz], Mem.trans0 hbs hM.nilL⟩
  ·
   have hk1 := hc4
   rw [if_neg hk1] at f5 f6 f7
   have hh1 := lineB_len (l := [i.n]) (bd_list1 (by unfold bd64; omega))
   simp only [List.length_cons, List.length_nil] at hh1
   refine Ends.seq (Ends.region ?_)
   refine S.val hA (R.eql rfl rfl) rfl ?_; clear hA a; intro a hA
   refine S.val hA (R.assign rfl) rfl ?_; clear hA a; intro a hA
   refine S.done ?_
   replace hA : St 81 [(1, _), (5, _), (19, _), (50, _)] a := hA.sub ((.cons rfl (.cons rfl (.cons rfl (.cons rfl .nil)))))
   refine Ends.ite hA rfl (fun hc17 => ?_) (fun hc17 => ?_)
   ·
    refine Ends.region ?_
    refine S.val hA (R.move rfl) rfl ?_; clear hA a; intro a hA
    refine S.val hA (R.fieldAddr (q := 1) fi25_1 rfl rfl rfl) rfl ?_; clear hA a; intro a hA
    refine S.val hA (R.load sz3 rfl (hM.cell (k := 0) rfl rfl)) rfl ?_; clear hA a; intro a hA
    refine S.buildSl (cells := #[.int .i64 i.n]) hA hM Tryd.underlying22 info3 rfl rfl rfl rfl (by kernel_rfl) rfl ?_; clear hA hM a; intro b18 w11 hb19 hM a hA
    replace hM : Mem _ _ [pt b18 #[.int .i64 i.n] 3, pt b1 #[.int .i64 i.kind, .int .i64 i.n, .int .i64 i.cap, .slice ax3 i.wt.length cx3, .slice ax4 i.vl.length cx4, .slice ax5 i.cost.length cx5] 25] _ := hM
    have hq20 := hM.ptRs (k := 0) (X := ([i.n] : List Int)) rfl (by simp)
    refine S.call hA (R.callF Tryd.func42 rfl rfl rfl) rfl (line05 (some ⟨b18, 0, none⟩) ([i.n] : List Int) 1 (by simp) (bd_list1 (by unfold bd64; omega)) _ hq20 (tab_below htab (Mem.trans0 hbs hM.nilL))) ?_; clear hA a
    rintro e w12 ⟨rfl, hb⟩
    replace hM := hM.callB hb; clear hb
    refine ⟨.string ((bs (lineB ([i.n] : List Int)))), rfl, fun a hA => ?_⟩
    refine S.val hA (R.to (v := .string (bs ((nameB i.kind ++ ([32] : List UInt8)) ++ lineB ([i.n] : List Int)))) (R.addS rfl rfl (by show (bs ((nameB i.kind ++ ([32] : List UInt8)))).size + (bs (lineB ([i.n] : List Int))).size ≤ _; simp only [bs_size, List.length_append, List.length_cons, List.length_nil]; omega)) (congrArg Value.string (bs_app ((nameB i.kind ++ ([32] : List UInt8))) (lineB ([i.n] : List Int))))) rfl ?_; clear hA a; intro a hA
    refine S.val hA (R.assign rfl) rfl ?_; clear hA a; intro a hA
    refine S.done ?_
    replace hA : St 81 [(1, _), (5, _)] a := hA.sub ((.cons rfl (.cons rfl .nil)))
    refine Ends.inBlock (Ends.seq (Ends.seq (Ends.region ?_)))
    refine S.val hA (R.fieldAddr (q := 5) fi25_5 rfl rfl rfl) rfl ?_; clear hA a; intro a hA
    refine S.val hA (R.load sz23 rfl (hM.cell (k := 1) rfl rfl)) rfl ?_; clear hA a; intro a hA
    refine S.val hA (R.lenS Tryd.underlying23 rfl rfl) rfl ?_; clear hA a; intro a hA
    refine S.val hA (R.move rfl) rfl ?_; clear hA a; intro a hA
    refine S.done ?_
    refine Ends.block ?_
    rw [show bs (((nameB i.kind ++ ([32] : List UInt8)) ++ lineB ([i.n] : List Int))) = bs (((nameB i.kind ++ ([32] : List UInt8)) ++ lineB ([i.n] : List Int)) ++ rowsB i 0) by simp [rowsB]] at hA
    refine Ends.loop (σ := Nat) (fun r (a : Act) (wv : World) => St 81 [(5, .string ((bs ((((nameB i.kind ++ ([32] : List UInt8)) ++ lineB ([i.n] : List Int)) ++ rowsB i r))))), (69, .slice ax5 i.cost.length cx5), (70, .int .i64 ((i.cost.length : Int))), (71, .int .i64 ((r : Int)))] a ∧ Mem w nof [pt b18 #[.int .i64 i.n] 3, pt b1 #[.int .i64 i.kind, .int .i64 i.n, .int .i64 i.cap, .slice ax3 i.wt.length cx3, .slice ax4 i.vl.length cx4, .slice ax5 i.cost.length cx5] 25] wv ∧ (r ≤ i.cost.length)) (fun r => i.cost.length - r) 0 ⟨hA.sub ((.cons rfl (.cons rfl (.cons rfl (.cons rfl .nil))))), hM, (Nat.zero_le _)⟩ ?_
    clear hA hM a
    rintro r a w13 ⟨hA, hM, hr⟩ hNext1
    refine Ends.seq (Ends.region ?_)
    refine S.val hA (R.lss rfl rfl) rfl ?_; clear hA a; intro a hA
    refine S.done ?_
    refine Ends.seq ?_
    refine Ends.ite hA rfl (fun hc21 => ?_) (fun hc21 => ?_)
    ·
     have hrl := rowsB_len hF r (by omega)
     have hbr := hF.rowbd r
     have hrr := hF.row r (by omega)
     have hll := lineB_len hbr
     refine Ends.skip (Ends.seq (Ends.block (Ends.seq (Ends.region ?_))))
     refine S.val hA (R.idxR hx5 (j := r) sl23 rfl rfl (by omega) (rfl)) rfl ?_; clear hA a; intro a hA
     obtain ⟨ra22, rc23, hrow24, hld25⟩ := hx5.atP (i := r) (by omega)
     refine S.val hA (hld25 _ _ _ _ _ _ hM sz22 rfl) rfl ?_; clear hA a; intro a hA
     refine S.val hA (R.assign rfl) rfl ?_; clear hA a; intro a hA
     refine S.done ?_
     refine Ends.region ?_
     refine S.val hA (R.move rfl) rfl ?_; clear hA a; intro a hA
     refine S.val hA (R.move rfl) rfl ?_; clear hA a; intro a hA
     refine S.call hA (R.callF Tryd.func42 rfl rfl rfl) rfl (line05 ra22 ((i.cost.getD r [])) rc23 (by omega) hbr _ (hrow24.mem hM) (tab_below htab (Mem.trans0 hbs hM.nilL))) ?_; clear hA a
     rintro e w14 ⟨rfl, hb⟩
     replace hM := hM.callB hb; clear hb
     refine ⟨.string ((bs (lineB ((i.cost.getD r []))))), rfl, fun a hA => ?_⟩
     refine S.val hA (R.to (v := .string (bs ((((nameB i.kind ++ ([32] : List UInt8)) ++ lineB ([i.n] : List Int)) ++ rowsB i r) ++ lineB ((i.cost.getD r []))))) (R.addS rfl rfl (by show (bs ((((nameB i.kind ++ ([32] : List UInt8)) ++ lineB ([i.n] : List Int)) ++ rowsB i r))).size + (bs (lineB ((i.cost.getD r [])))).size ≤ _; simp only [bs_size, List.length_append, List.length_cons, List.length_nil]; omega)) (congrArg Value.string (bs_app ((((nameB i.kind ++ ([32] : List UInt8)) ++ lineB ([i.n] : List Int)) ++ rowsB i r)) (lineB ((i.cost.getD r [])))))) rfl ?_; clear hA a; intro a hA
     refine S.val hA (R.assign rfl) rfl ?_; clear hA a; intro a hA
     refine S.done ?_
     replace hA : St 81 [(5, _), (69, _), (70, _), (71, _)] a := hA.sub ((.cons rfl (.cons rfl (.cons rfl (.cons rfl .nil)))))
     refine Ends.inBlock (Ends.region ?_)
     refine S.val hA (R.addI rfl rfl (r := ((r : Int)) + 1) rfl (by omega)) rfl ?_; clear hA a; intro a hA
     refine S.val hA (R.move rfl) rfl ?_; clear hA a; intro a hA
     refine S.done ?_
     replace hM : Mem _ _ [pt b18 #[.int .i64 i.n] 3, pt b1 #[.int .i64 i.kind, .int .i64 i.n, .int .i64 i.cap, .slice ax3 i.wt.length cx3, .slice ax4 i.vl.length cx4, .slice ax5 i.cost.length cx5] 25] _ := hM
     rw [List.append_assoc ((nameB i.kind ++ ([32] : List UInt8)) ++ lineB ([i.n] : List Int))] at hA
     exact hNext1 ((r + 1)) _ _ ((by show i.cost.length - (r + 1) < i.cost.length - r; omega)) ⟨hA.sub ((.cons rfl (.cons rfl (.cons rfl (.cons rfl .nil))))), hM, (by omega)⟩
    ·
     have hrl := rowsB_len hF r (by omega)
     obtain rfl : r = i.cost.length := by omega
     refine Ends.exit rfl ?_
     replace hA : St 81 [(5, _)] a := hA.sub ((.cons rfl .nil))
     refine Ends.seq (Ends.region ?_)
     refine S.val hA (R.move rfl) rfl ?_; clear hA a; intro a hA
     refine S.val hA (R.assign rfl) rfl ?_; clear hA a; intro a hA
     refine S.val hA (R.assign rfl) rfl ?_; clear hA a; intro a hA
     refine S.done ?_
     refine Ends.ret2 Tryd.func20 Tryd.results20 hA rfl rfl ?_
     have he : wtxt i = (((nameB i.kind ++ ([32] : List UInt8)) ++ lineB ([i.n] : List Int)) ++ rowsB i i.cost.length) := by
      unfold wtxt textB headB
      rw [if_pos hz]; (repeat' split) <;> first | (exfalso; omega) | (simp only [hk1, List.append_assoc]; done) | (simp [*, nameB, List.append_assoc]; done)
     exact ⟨by rw [he, hz], Mem.trans0 hbs hM.nilL⟩
   ·
    refine Ends.seq (Ends.region ?_)
    refine S.val hA (R.eql rfl rfl) rfl ?_; clear hA a; intro a hA
    refine S.val hA (R.assign rfl) rfl ?_; clear hA a; intro a hA
    refine S.done ?_
    refine Ends.ite hA rfl (fun hc26 => ?_) (fun hc26 => ?_)
    ·
     refine Ends.region ?_
     refine S.val hA (R.move rfl) rfl ?_; clear hA a; intro a hA
     refine S.val hA (R.fieldAddr (q := 1) fi25_1 rfl rfl rfl) rfl ?_; clear hA a; intro a hA
     refine S.val hA (R.load sz3 rfl (hM.cell (k := 0) rfl rfl)) rfl ?_; clear hA a; intro a hA
     refine S.call hA (R.callF Tryd.func43 rfl rfl rfl) rfl (write_any i.n (by omega) _ (tab_below htab (Mem.trans0 hbs hM.nilL))) ?_; clear hA a
     rintro e w15 ⟨rfl, hb⟩
     replace hM := hM.callB hb; clear hb
     refine ⟨.string ((bs (Lib.itoa i.n))), rfl, fun a hA => ?_⟩
     refine S.val hA (R.to (v := .string (bs (Lib.itoa i.n ++ ([32] : List UInt8)))) (R.addS rfl rfl (by show (bs (Lib.itoa i.n)).size + (bs (([32] : List UInt8))).size ≤ _; simp only [bs_size, List.length_append, List.length_cons, List.length_nil]; omega)) (congrArg Value.string (bs_app (Lib.itoa i.n) (([32] : List UInt8))))) rfl ?_; clear hA a; intro a hA
     refine S.val hA (R.to (v := .string (bs ((Lib.itoa i.n ++ ([32] : List UInt8)) ++ ([70, 85, 76, 76] : List UInt8)))) (R.addS rfl rfl (by show (bs ((Lib.itoa i.n ++ ([32] : List UInt8)))).size + (bs (([70, 85, 76, 76] : List UInt8))).size ≤ _; simp only [bs_size, List.length_append, List.length_cons, List.length_nil]; omega)) (congrArg Value.string (bs_app ((Lib.itoa i.n ++ ([32] : List UInt8))) (([70, 85, 76, 76] : List UInt8))))) rfl ?_; clear hA a; intro a hA
     refine S.val hA (R.to (v := .string (bs (((Lib.itoa i.n ++ ([32] : List UInt8)) ++ ([70, 85, 76, 76] : List UInt8)) ++ ([10] : List UInt8)))) (R.addS rfl rfl (by show (bs (((Lib.itoa i.n ++ ([32] : List UInt8)) ++ ([70, 85, 76, 76] : List UInt8)))).size + (bs (([10] : List UInt8))).size ≤ _; simp only [bs_size, List.length_append, List.length_cons, List.length_nil]; omega)) (congrArg Value.string (bs_app (((Lib.itoa i.n ++ ([32] : List UInt8)) ++ ([70, 85, 76, 76] : List UInt8))) (([10] : List UInt8))))) rfl ?_; clear hA a; intro a hA
     refine S.val hA (R.to (v := .string (bs ((nameB i.kind ++ ([32] : List UInt8)) ++ (((Lib.itoa i.n ++ ([32] : List UInt8)) ++ ([70, 85, 76, 76] : List UInt8)) ++ ([10] : List UInt8))))) (R.addS rfl rfl (by show (bs ((nameB i.kind ++ ([32] : List UInt8)))).size + (bs ((((Lib.itoa i.n ++ ([32] : List UInt8)) ++ ([70, 85, 76, 76] : List UInt8)) ++ ([10] : List UInt8)))).size ≤ _; simp only [bs_size, List.length_append, List.length_cons, List.length_nil]; omega)) (congrArg Value.string (bs_app ((nameB i.kind ++ ([32] : List UInt8))) ((((Lib.itoa i.n ++ ([32] : List UInt8)) ++ ([70, 85, 76, 76] : List UInt8)) ++ ([10] : List UInt8)))))) rfl ?_; clear hA a; intro a hA
     refine S.val hA (R.assign rfl) rfl ?_; clear hA a; intro a hA
     refine S.done ?_
     replace hA : St 81 [(1, _), (5, _)] a := hA.sub ((.cons rfl (.cons rfl .nil)))
     refine Ends.inBlock (Ends.seq (Ends.seq (Ends.region ?_)))
     refine S.val hA (R.fieldAddr (q := 5) fi25_5 rfl rfl rfl) rfl ?_; clear hA a; intro a hA
     refine S.val hA (R.load sz23 rfl (hM.cell (k := 0) rfl rfl)) rfl ?_; clear hA a; intro a hA
     refine S.val hA (R.lenS Tryd.underlying23 rfl rfl) rfl ?_; clear hA a; intro a hA
     refine S.val hA (R.move rfl) rfl ?_; clear hA a; intro a hA
     refine S.done ?_
     refine Ends.block ?_
     rw [show bs (((nameB i.kind ++ ([32] : List UInt8)) ++ (((Lib.itoa i.n ++ ([32] : List UInt8)) ++ ([70, 85, 76, 76] : List UInt8)) ++ ([10] : List UInt8)))) = bs (((nameB i.kind ++ ([32] : List UInt8)) ++ (((Lib.itoa i.n ++ ([32] : List UInt8)) ++ ([70, 85, 76, 76] : List UInt8)) ++ ([10] : List UInt8))) ++ rowsB i 0) by simp [rowsB]] at hA
     refine Ends.loop (σ := Nat) (fun r (a : Act) (wv : World) => St 81 [(5, .string ((bs ((((nameB i.kind ++ ([32] : List UInt8)) ++ (((Lib.itoa i.n ++ ([32] : List UInt8)) ++ ([70, 85, 76, 76] : List UInt8)) ++ ([10] : List UInt8))) ++ rowsB i r))))), (69, .slice ax5 i.cost.length cx5), (70, .int .i64 ((i.cost.length : Int))), (71, .int .i64 ((r : Int)))] a ∧ Mem w nof [pt b1 #[.int .i64 i.kind, .int .i64 i.n, .int .i64 i.cap, .slice ax3 i.wt.length cx3, .slice ax4 i.vl.length cx4, .slice ax5 i.cost.length cx5] 25] wv ∧ (r ≤ i.cost.length)) (fun r => i.cost.length - r) 0 ⟨hA.sub ((.cons rfl (.cons rfl (.cons rfl (.cons rfl .nil))))), hM, (Nat.zero_le _)⟩ ?_
     clear hA hM a
     rintro r a w16 ⟨hA, hM, hr⟩ hNext1
     refine Ends.seq (Ends.region ?_)
     refine S.val hA (R.lss rfl rfl) rfl ?_; clear hA a; intro a hA
     refine S.done ?_
     refine Ends.seq ?_
     refine Ends.ite hA rfl (fun hc27 => ?_) (fun hc27 => ?_)
     ·
      have hrl := rowsB_len hF r (by omega)
      have hbr := hF.rowbd r
      have hrr := hF.row r (by omega)
      have hll := lineB_len hbr
      refine Ends.skip (Ends.seq (Ends.block (Ends.seq (Ends.region ?_))))
      refine S.val hA (R.idxR hx5 (j := r) sl23 rfl rfl (by omega) (rfl)) rfl ?_; clear hA a; intro a hA
      obtain ⟨ra28, rc29, hrow30, hld31⟩ := hx5.atP (i := r) (by omega)
      refine S.val hA (hld31 _ _ _ _ _ _ hM sz22 rfl) rfl ?_; clear hA a; intro a hA
      refine S.val hA (R.assign rfl) rfl ?_; clear hA a; intro a hA
      refine S.done ?_
      refine Ends.region ?_
      refine S.val hA (R.move rfl) rfl ?_; clear hA a; intro a hA
      refine S.val hA (R.move rfl) rfl ?_; clear hA a; intro a hA
      refine S.call hA (R.callF Tryd.func42 rfl rfl rfl) rfl (line05 ra28 ((i.cost.getD r [])) rc29 (by omega) hbr _ (hrow30.mem hM) (tab_below htab (Mem.trans0 hbs hM.nilL))) ?_; clear hA a
      rintro e w17 ⟨rfl, hb⟩
      replace hM := hM.callB hb; clear hb
      refine ⟨.string ((bs (lineB ((i.cost.getD r []))))), rfl, fun a hA => ?_⟩
      refine S.val hA (R.to (v := .string (bs ((((nameB i.kind ++ ([32] : List UInt8)) ++ (((Lib.itoa i.n ++ ([32] : List UInt8)) ++ ([70, 85, 76, 76] : List UInt8)) ++ ([10] : List UInt8))) ++ rowsB i r) ++ lineB ((i.cost.getD r []))))) (R.addS rfl rfl (by show (bs ((((nameB i.kind ++ ([32] : List UInt8)) ++ (((Lib.itoa i.n ++ ([32] : List UInt8)) ++ ([70, 85, 76, 76] : List UInt8)) ++ ([10] : List UInt8))) ++ rowsB i r))).size + (bs (lineB ((i.cost.getD r [])))).size ≤ _; simp only [bs_size, List.length_append, List.length_cons, List.length_nil]; omega)) (congrArg Value.string (bs_app ((((nameB i.kind ++ ([32] : List UInt8)) ++ (((Lib.itoa i.n ++ ([32] : List UInt8)) ++ ([70, 85, 76, 76] : List UInt8)) ++ ([10] : List UInt8))) ++ rowsB i r)) (lineB ((i.cost.getD r [])))))) rfl ?_; clear hA a; intro a hA
      refine S.val hA (R.assign rfl) rfl ?_; clear hA a; intro a hA
      refine S.done ?_
      replace hA : St 81 [(5, _), (69, _), (70, _), (71, _)] a := hA.sub ((.cons rfl (.cons rfl (.cons rfl (.cons rfl .nil)))))
      refine Ends.inBlock (Ends.region ?_)
      refine S.val hA (R.addI rfl rfl (r := ((r : Int)) + 1) rfl (by omega)) rfl ?_; clear hA a; intro a hA
      refine S.val hA (R.move rfl) rfl ?_; clear hA a; intro a hA
      refine S.done ?_
      replace hM : Mem _ _ [pt b1 #[.int .i64 i.kind, .int .i64 i.n, .int .i64 i.cap, .slice ax3 i.wt.length cx3, .slice ax4 i.vl.length cx4, .slice ax5 i.cost.length cx5] 25] _ := hM
      rw [List.append_assoc ((nameB i.kind ++ ([32] : List UInt8)) ++ (((Lib.itoa i.n ++ ([32] : List UInt8)) ++ ([70, 85, 76, 76] : List UInt8)) ++ ([10] : List UInt8)))] at hA
      exact hNext1 ((r + 1)) _ _ ((by show i.cost.length - (r + 1) < i.cost.length - r; omega)) ⟨hA.sub ((.cons rfl (.cons rfl (.cons rfl (.cons rfl .nil))))), hM, (by omega)⟩
     ·
      have hrl := rowsB_len hF r (by omega)
      obtain rfl : r = i.cost.length := by omega
      refine Ends.exit rfl ?_
      replace hA : St 81 [(5, _)] a := hA.sub ((.cons rfl .nil))
      refine Ends.seq (Ends.region ?_)
      refine S.val hA (R.move rfl) rfl ?_; clear hA a; intro a hA
      refine S.val hA (R.assign rfl) rfl ?_; clear hA a; intro a hA
      refine S.val hA (R.assign rfl) rfl ?_; clear hA a; intro a hA
      refine S.done ?_
      refine Ends.ret2 Tryd.func20 Tryd.results20 hA rfl rfl ?_
      have he : wtxt i = (((nameB i.kind ++ ([32] : List UInt8)) ++ (((Lib.itoa i.n ++ ([32] : List UInt8)) ++ ([70, 85, 76, 76] : List UInt8)) ++ ([10] : List UInt8))) ++ rowsB i i.cost.length) := by
       unfold wtxt textB headB
       rw [if_pos hz]; (repeat' split) <;> first | (exfalso; omega) | (simp only [hk1, List.append_assoc]; done) | (simp [*, nameB, List.append_assoc]; done)
      exact ⟨by rw [he, hz], Mem.trans0 hbs hM.nilL⟩
    ·
     refine Ends.skip (Ends.inBlock (Ends.seq (Ends.seq (Ends.region ?_))))
     refine S.val hA (R.fieldAddr (q := 5) fi25_5 rfl rfl rfl) rfl ?_; clear hA a; intro a hA
     refine S.val hA (R.load sz23 rfl (hM.cell (k := 0) rfl rfl)) rfl ?_; clear hA a; intro a hA
     refine S.val hA (R.lenS Tryd.underlying23 rfl rfl) rfl ?_; clear hA a; intro a hA
     refine S.val hA (R.move rfl) rfl ?_; clear hA a; intro a hA
     refine S.done ?_
     replace hA : St 81 [(5, _), (69, _), (70, _), (71, _)] a := hA.sub ((.cons rfl (.cons rfl (.cons rfl (.cons rfl .nil)))))
     refine Ends.block ?_
     rw [show bs ((nameB i.kind ++ ([32] : List UInt8))) = bs ((nameB i.kind ++ ([32] : List UInt8)) ++ rowsB i 0) by simp [rowsB]] at hA
     refine Ends.loop (σ := Nat) (fun r (a : Act) (wv : World) => St 81 [(5, .string ((bs (((nameB i.kind ++ ([32] : List UInt8)) ++ rowsB i r))))), (69, .slice ax5 i.cost.length cx5), (70, .int .i64 ((i.cost.length : Int))), (71, .int .i64 ((r : Int)))] a ∧ Mem w nof [pt b1 #[.int .i64 i.kind, .int .i64 i.n, .int .i64 i.cap, .slice ax3 i.wt.length cx3, .slice ax4 i.vl.length cx4, .slice ax5 i.cost.length cx5] 25] wv ∧ (r ≤ i.cost.length)) (fun r => i.cost.length - r) 0 ⟨hA.sub ((.cons rfl (.cons rfl (.cons rfl (.cons rfl .nil))))), hM, (Nat.zero_le _)⟩ ?_
     clear hA hM a
     rintro r a w18 ⟨hA, hM, hr⟩ hNext1
     refine Ends.seq (Ends.region ?_)
     refine S.val hA (R.lss rfl rfl) rfl ?_; clear hA a; intro a hA
     refine S.done ?_
     refine Ends.seq ?_
     refine Ends.ite hA rfl (fun hc32 => ?_) (fun hc32 => ?_)
     ·
      have hrl := rowsB_len hF r (by omega)
      have hbr := hF.rowbd r
      have hrr := hF.row r (by omega)
      have hll := lineB_len hbr
      refine Ends.skip (Ends.seq (Ends.block (Ends.seq (Ends.region ?_))))
      refine S.val hA (R.idxR hx5 (j := r) sl23 rfl rfl (by omega) (rfl)) rfl ?_; clear hA a; intro a hA
      obtain ⟨ra33, rc34, hrow35, hld36⟩ := hx5.atP (i := r) (by omega)
      refine S.val hA (hld36 _ _ _ _ _ _ hM sz22 rfl) rfl ?_; clear hA a; intro a hA
      refine S.val hA (R.assign rfl) rfl ?_; clear hA a; intro a hA
      refine S.done ?_
      refine Ends.region ?_
      refine S.val hA (R.move rfl) rfl ?_; clear hA a; intro a hA
      refine S.val hA (R.move rfl) rfl ?_; clear hA a; intro a hA
      refine S.call hA (R.callF Tryd.func42 rfl rfl rfl) rfl (line05 ra33 ((i.cost.getD r [])) rc34 (by omega) hbr _ (hrow35.mem hM) (tab_below htab (Mem.trans0 hbs hM.nilL))) ?_; clear hA a
      rintro e w19 ⟨rfl, hb⟩
      replace hM := hM.callB hb; clear hb
      refine ⟨.string ((bs (lineB ((i.cost.getD r []))))), rfl, fun a hA => ?_⟩
      refine S.val hA (R.to (v := .string (bs (((nameB i.kind ++ ([32] : List UInt8)) ++ rowsB i r) ++ lineB ((i.cost.getD r []))))) (R.addS rfl rfl (by show (bs (((nameB i.kind ++ ([32] : List UInt8)) ++ rowsB i r))).size + (bs (lineB ((i.cost.getD r [])))).size ≤ _; simp only [bs_size, List.length_append, List.length_cons, List.length_nil]; omega)) (congrArg Value.string (bs_app (((nameB i.kind ++ ([32] : List UInt8)) ++ rowsB i r)) (lineB ((i.cost.getD r [])))))) rfl ?_; clear hA a; intro a hA
      refine S.val hA (R.assign rfl) rfl ?_; clear hA a; intro a hA
      refine S.done ?_
      replace hA : St 81 [(5, _), (69, _), (70, _), (71, _)] a := hA.sub ((.cons rfl (.cons rfl (.cons rfl (.cons rfl .nil)))))
      refine Ends.inBlock (Ends.region ?_)
      refine S.val hA (R.addI rfl rfl (r := ((r : Int)) + 1) rfl (by omega)) rfl ?_; clear hA a; intro a hA
      refine S.val hA (R.move rfl) rfl ?_; clear hA a; intro a hA
      refine S.done ?_
      replace hM : Mem _ _ [pt b1 #[.int .i64 i.kind, .int .i64 i.n, .int .i64 i.cap, .slice ax3 i.wt.length cx3, .slice ax4 i.vl.length cx4, .slice ax5 i.cost.length cx5] 25] _ := hM
      rw [List.append_assoc (nameB i.kind ++ ([32] : List UInt8))] at hA
      exact hNext1 ((r + 1)) _ _ ((by show i.cost.length - (r + 1) < i.cost.length - r; omega)) ⟨hA.sub ((.cons rfl (.cons rfl (.cons rfl (.cons rfl .nil))))), hM, (by omega)⟩
     ·
      have hrl := rowsB_len hF r (by omega)
      obtain rfl : r = i.cost.length := by omega
      refine Ends.exit rfl ?_
      replace hA : St 81 [(5, _)] a := hA.sub ((.cons rfl .nil))
      refine Ends.seq (Ends.region ?_)
      refine S.val hA (R.move rfl) rfl ?_; clear hA a; intro a hA
      refine S.val hA (R.assign rfl) rfl ?_; clear hA a; intro a hA
      refine S.val hA (R.assign rfl) rfl ?_; clear hA a; intro a hA
      refine S.done ?_
      refine Ends.ret2 Tryd.func20 Tryd.results20 hA rfl rfl ?_
      have he : wtxt i = ((nameB i.kind ++ ([32] : List UInt8)) ++ rowsB i i.cost.length) := by
       unfold wtxt textB headB
       rw [if_pos hz]; (repeat' split) <;> first | (exfalso; omega) | (simp only [hk1, List.append_assoc]; done) | (simp [*, nameB, List.append_assoc]; done)
      exact ⟨by rw [he, hz], Mem.trans0 hbs hM.nilL⟩
end Go.Proofs.YtakfcekfmdjklaaDoor
namespace Go.Proofs.YtakfcekfmdjklaaDoor
open Go.RowKit
theorem items06_bad (g rb ib j cap : Nat) (at0 : Int) (X : List Tok) (hX : Toks X) (hj : j < X.length) (hcap : X.length ≤ cap) (kd : Int) (hE : (itR X j).1 ≠ 0) (w : World) (hM : Mem w (feet [pt rb #[.slice (some ⟨g, j * 4, none⟩) (X.length - j) (cap - j), .int .i64 at0] 62, own 77 4 (.slice ((some ⟨g, 0, none⟩)) X.length cap) X.length (tokv X), pt ib #[.int .i64 kd, .int .i64 0, .int .i64 0, .slice none 0 0, .slice none 0 0, .slice none 0 0] 25]) [pt rb #[.slice (some ⟨g, j * 4, none⟩) (X.length - j) (cap - j), .int .i64 at0] 62, own 77 4 (.slice ((some ⟨g, 0, none⟩)) X.length cap) X.length (tokv X), pt ib #[.int .i64 kd, .int .i64 0, .int .i64 0, .slice none 0 0, .slice none 0 0, .slice none 0 0] 25] w) :
    Calls Tryd.prog 62 #[.pointer (some ⟨rb, 0, none⟩), .pointer (some ⟨ib, 0, none⟩)] w fun e w' => e = .returned (.int .i64 (itR X j).1) ∧ ∃ jx, Mem w (feet [pt rb #[.slice (some ⟨g, j * 4, none⟩) (X.length - j) (cap - j), .int .i64 at0] 62, own 77 4 (.slice ((some ⟨g, 0, none⟩)) X.length cap) X.length (tokv X), pt ib #[.int .i64 kd, .int .i64 0, .int .i64 0, .slice none 0 0, .slice none 0 0, .slice none 0 0] 25]) [pt rb #[.slice (some ⟨g, jx * 4, none⟩) (X.length - jx) (cap - jx), .int .i64 (((X.getD (itR X j).2 tz).a))] 62, own 77 4 (.slice ((some ⟨g, 0, none⟩)) X.length cap) X.length (tokv X)] w' :=
  (items06 g rb ib j cap at0 X hX hj hcap kd w hM).mono (by rintro e w' ⟨h1, h2 | h2⟩; exact ⟨h1, h2.2⟩; exact absurd h2.1 hE)
theorem items06_ok (g rb ib j cap : Nat) (at0 : Int) (X : List Tok) (hX : Toks X) (hj : j < X.length) (hcap : X.length ≤ cap) (kd : Int) (hE : (itR X j).1 = 0) (w : World) (hM : Mem w (feet [pt rb #[.slice (some ⟨g, j * 4, none⟩) (X.length - j) (cap - j), .int .i64 at0] 62, own 77 4 (.slice ((some ⟨g, 0, none⟩)) X.length cap) X.length (tokv X), pt ib #[.int .i64 kd, .int .i64 0, .int .i64 0, .slice none 0 0, .slice none 0 0, .slice none 0 0] 25]) [pt rb #[.slice (some ⟨g, j * 4, none⟩) (X.length - j) (cap - j), .int .i64 at0] 62, own 77 4 (.slice ((some ⟨g, 0, none⟩)) X.length cap) X.length (tokv X), pt ib #[.int .i64 kd, .int .i64 0, .int .i64 0, .slice none 0 0, .slice none 0 0, .slice none 0 0] 25] w) :
    Calls Tryd.prog 62 #[.pointer (some ⟨rb, 0, none⟩), .pointer (some ⟨ib, 0, none⟩)] w fun e w' => e = .returned (.int .i64 0) ∧ ∃ at1 wa wc va vc, ∃ n : Nat, ctN X j 64 = n ∧ 1 ≤ n ∧ (n : Int) ≤ 64 ∧ Mem w (feet [pt rb #[.slice (some ⟨g, j * 4, none⟩) (X.length - j) (cap - j), .int .i64 at0] 62, own 77 4 (.slice ((some ⟨g, 0, none⟩)) X.length cap) X.length (tokv X), pt ib #[.int .i64 kd, .int .i64 0, .int .i64 0, .slice none 0 0, .slice none 0 0, .slice none 0 0] 25]) [pt rb #[.slice (some ⟨g, (itR X j).2 * 4, none⟩) (X.length - (itR X j).2) (cap - (itR X j).2), .int .i64 at1] 62, own 77 4 (.slice ((some ⟨g, 0, none⟩)) X.length cap) X.length (tokv X), pt ib #[.int .i64 kd, .int .i64 ((n : Int)), .int .i64 ((X.getD (j + 1) tz).n), .slice wa ((itI X (j + 2) n).length) wc, .slice va ((itI X (j + 3) n).length) vc, .slice none 0 0] 25, own 3 1 (.slice wa (((itI X (j + 2) n)).length) wc) (((itI X (j + 2) n)).length) (((itI X (j + 2) n)).map (Value.int .i64)), own 3 1 (.slice va (((itI X (j + 3) n)).length) vc) (((itI X (j + 3) n)).length) (((itI X (j + 3) n)).map (Value.int .i64))] w' :=
  (items06 g rb ib j cap at0 X hX hj hcap kd w hM).mono (by rintro e w' ⟨h1, h2 | h2⟩; exact absurd hE h2.1; exact ⟨by rw [h1, hE], h2.2⟩)
theorem rows06_bad (g rb ib j cap : Nat) (at0 : Int) (X : List Tok) (hX : Toks X) (hj : j < X.length) (hcap : X.length ≤ cap) (kd : Int) (n : Nat) (hn1 : 1 ≤ n) (hn24 : n ≤ 24) (hE : (nuR (dgk kd n) X j (n * n)).1 ≠ 0) (w : World) (hM : Mem w (feet [pt rb #[.slice (some ⟨g, j * 4, none⟩) (X.length - j) (cap - j), .int .i64 at0] 62, own 77 4 (.slice ((some ⟨g, 0, none⟩)) X.length cap) X.length (tokv X), pt ib #[.int .i64 kd, .int .i64 ((n : Int)), .int .i64 0, .slice none 0 0, .slice none 0 0, .slice none 0 0] 25]) [pt rb #[.slice (some ⟨g, j * 4, none⟩) (X.length - j) (cap - j), .int .i64 at0] 62, own 77 4 (.slice ((some ⟨g, 0, none⟩)) X.length cap) X.length (tokv X), pt ib #[.int .i64 kd, .int .i64 ((n : Int)), .int .i64 0, .slice none 0 0, .slice none 0 0, .slice none 0 0] 25] w) :
    Calls Tryd.prog 65 #[.pointer (some ⟨rb, 0, none⟩), .pointer (some ⟨ib, 0, none⟩)] w fun e w' => e = .returned (.int .i64 (nuR (dgk kd n) X j (n * n)).1) ∧ ∃ jx, Mem w (feet [pt rb #[.slice (some ⟨g, j * 4, none⟩) (X.length - j) (cap - j), .int .i64 at0] 62, own 77 4 (.slice ((some ⟨g, 0, none⟩)) X.length cap) X.length (tokv X), pt ib #[.int .i64 kd, .int .i64 ((n : Int)), .int .i64 0, .slice none 0 0, .slice none 0 0, .slice none 0 0] 25]) [pt rb #[.slice (some ⟨g, jx * 4, none⟩) (X.length - jx) (cap - jx), .int .i64 (((X.getD (nuR (dgk kd n) X j (n * n)).2 tz).a))] 62, own 77 4 (.slice ((some ⟨g, 0, none⟩)) X.length cap) X.length (tokv X)] w' :=
  (rows06 g rb ib j cap at0 X hX hj hcap kd n hn1 hn24 w hM).mono (by rintro e w' ⟨h1, h2 | h2⟩; exact ⟨h1, h2.2⟩; exact absurd h2.1 hE)
theorem rows06_ok (g rb ib j cap : Nat) (at0 : Int) (X : List Tok) (hX : Toks X) (hj : j < X.length) (hcap : X.length ≤ cap) (kd : Int) (n : Nat) (hn1 : 1 ≤ n) (hn24 : n ≤ 24) (hE : (nuR (dgk kd n) X j (n * n)).1 = 0) (w : World) (hM : Mem w (feet [pt rb #[.slice (some ⟨g, j * 4, none⟩) (X.length - j) (cap - j), .int .i64 at0] 62, own 77 4 (.slice ((some ⟨g, 0, none⟩)) X.length cap) X.length (tokv X), pt ib #[.int .i64 kd, .int .i64 ((n : Int)), .int .i64 0, .slice none 0 0, .slice none 0 0, .slice none 0 0] 25]) [pt rb #[.slice (some ⟨g, j * 4, none⟩) (X.length - j) (cap - j), .int .i64 at0] 62, own 77 4 (.slice ((some ⟨g, 0, none⟩)) X.length cap) X.length (tokv X), pt ib #[.int .i64 kd, .int .i64 ((n : Int)), .int .i64 0, .slice none 0 0, .slice none 0 0, .slice none 0 0] 25] w) :
    Calls Tryd.prog 65 #[.pointer (some ⟨rb, 0, none⟩), .pointer (some ⟨ib, 0, none⟩)] w fun e w' => e = .returned (.int .i64 0) ∧ ∃ (at1 : Int) (gb : Nat) (rs : List OwR), rs.map (·.Y) = mat n (rwI X j n) ∧ Mem w (feet [pt rb #[.slice (some ⟨g, j * 4, none⟩) (X.length - j) (cap - j), .int .i64 at0] 62, own 77 4 (.slice ((some ⟨g, 0, none⟩)) X.length cap) X.length (tokv X), pt ib #[.int .i64 kd, .int .i64 ((n : Int)), .int .i64 0, .slice none 0 0, .slice none 0 0, .slice none 0 0] 25]) [pt rb #[.slice (some ⟨g, (nuR (dgk kd n) X j (n * n)).2 * 4, none⟩) (X.length - (nuR (dgk kd n) X j (n * n)).2) (cap - (nuR (dgk kd n) X j (n * n)).2), .int .i64 at1] 62, own 77 4 (.slice ((some ⟨g, 0, none⟩)) X.length cap) X.length (tokv X), pt ib #[.int .i64 kd, .int .i64 ((n : Int)), .int .i64 0, .slice none 0 0, .slice none 0 0, .slice ((some ⟨gb, 0, none⟩)) n n] 25, own 22 1 (.slice ((some ⟨gb, 0, none⟩)) n n) n ((rs.map orV)), bundle (rs.map (orC 3))] w' :=
  (rows06 g rb ib j cap at0 X hX hj hcap kd n hn1 hn24 w hM).mono (by rintro e w' ⟨h1, h2 | h2⟩; exact absurd hE h2.1; exact ⟨by rw [h1, hE], h2.2⟩)
theorem half06_bad (g rb ib j cap : Nat) (at0 : Int) (X : List Tok) (hX : Toks X) (hj : j < X.length) (hcap : X.length ≤ cap) (kd : Int) (n : Nat) (hn1 : 1 ≤ n) (hn24 : n ≤ 24) (hE : (nuR ff X j (hlf n)).1 ≠ 0) (w : World) (hM : Mem w (feet [pt rb #[.slice (some ⟨g, j * 4, none⟩) (X.length - j) (cap - j), .int .i64 at0] 62, own 77 4 (.slice ((some ⟨g, 0, none⟩)) X.length cap) X.length (tokv X), pt ib #[.int .i64 kd, .int .i64 ((n : Int)), .int .i64 0, .slice none 0 0, .slice none 0 0, .slice none 0 0] 25]) [pt rb #[.slice (some ⟨g, j * 4, none⟩) (X.length - j) (cap - j), .int .i64 at0] 62, own 77 4 (.slice ((some ⟨g, 0, none⟩)) X.length cap) X.length (tokv X), pt ib #[.int .i64 kd, .int .i64 ((n : Int)), .int .i64 0, .slice none 0 0, .slice none 0 0, .slice none 0 0] 25] w) :
    Calls Tryd.prog 82 #[.pointer (some ⟨rb, 0, none⟩), .pointer (some ⟨ib, 0, none⟩)] w fun e w' => e = .returned (.int .i64 (nuR ff X j (hlf n)).1) ∧ ∃ jx, Mem w (feet [pt rb #[.slice (some ⟨g, j * 4, none⟩) (X.length - j) (cap - j), .int .i64 at0] 62, own 77 4 (.slice ((some ⟨g, 0, none⟩)) X.length cap) X.length (tokv X), pt ib #[.int .i64 kd, .int .i64 ((n : Int)), .int .i64 0, .slice none 0 0, .slice none 0 0, .slice none 0 0] 25]) [pt rb #[.slice (some ⟨g, jx * 4, none⟩) (X.length - jx) (cap - jx), .int .i64 (((X.getD (nuR ff X j (hlf n)).2 tz).a))] 62, own 77 4 (.slice ((some ⟨g, 0, none⟩)) X.length cap) X.length (tokv X)] w' :=
  (half06 g rb ib j cap at0 X hX hj hcap kd n hn1 hn24 w hM).mono (by rintro e w' ⟨h1, h2 | h2⟩; exact ⟨h1, h2.2⟩; exact absurd h2.1 hE)
theorem half06_ok (g rb ib j cap : Nat) (at0 : Int) (X : List Tok) (hX : Toks X) (hj : j < X.length) (hcap : X.length ≤ cap) (kd : Int) (n : Nat) (hn1 : 1 ≤ n) (hn24 : n ≤ 24) (hE : (nuR ff X j (hlf n)).1 = 0) (w : World) (hM : Mem w (feet [pt rb #[.slice (some ⟨g, j * 4, none⟩) (X.length - j) (cap - j), .int .i64 at0] 62, own 77 4 (.slice ((some ⟨g, 0, none⟩)) X.length cap) X.length (tokv X), pt ib #[.int .i64 kd, .int .i64 ((n : Int)), .int .i64 0, .slice none 0 0, .slice none 0 0, .slice none 0 0] 25]) [pt rb #[.slice (some ⟨g, j * 4, none⟩) (X.length - j) (cap - j), .int .i64 at0] 62, own 77 4 (.slice ((some ⟨g, 0, none⟩)) X.length cap) X.length (tokv X), pt ib #[.int .i64 kd, .int .i64 ((n : Int)), .int .i64 0, .slice none 0 0, .slice none 0 0, .slice none 0 0] 25] w) :
    Calls Tryd.prog 82 #[.pointer (some ⟨rb, 0, none⟩), .pointer (some ⟨ib, 0, none⟩)] w fun e w' => e = .returned (.int .i64 0) ∧ ∃ (at1 : Int) (gb : Nat) (rs : List OwR), rs.map (·.Y) = mat n (hfI X j n) ∧ Mem w (feet [pt rb #[.slice (some ⟨g, j * 4, none⟩) (X.length - j) (cap - j), .int .i64 at0] 62, own 77 4 (.slice ((some ⟨g, 0, none⟩)) X.length cap) X.length (tokv X), pt ib #[.int .i64 kd, .int .i64 ((n : Int)), .int .i64 0, .slice none 0 0, .slice none 0 0, .slice none 0 0] 25]) [pt rb #[.slice (some ⟨g, (nuR ff X j (hlf n)).2 * 4, none⟩) (X.length - (nuR ff X j (hlf n)).2) (cap - (nuR ff X j (hlf n)).2), .int .i64 at1] 62, own 77 4 (.slice ((some ⟨g, 0, none⟩)) X.length cap) X.length (tokv X), pt ib #[.int .i64 kd, .int .i64 ((n : Int)), .int .i64 0, .slice none 0 0, .slice none 0 0, .slice ((some ⟨gb, 0, none⟩)) n n] 25, own 22 1 (.slice ((some ⟨gb, 0, none⟩)) n n) n ((rs.map orV)), bundle (rs.map (orC 3))] w' :=
  (half06 g rb ib j cap at0 X hX hj hcap kd n hn1 hn24 w hM).mono (by rintro e w' ⟨h1, h2 | h2⟩; exact absurd hE h2.1; exact ⟨by rw [h1, hE], h2.2⟩)
theorem Toks.wok {X : List Tok} (h : Toks X) {j : Nat} (hj : j < X.length) {l : List ByteArray} (e : (wordR (X.getD j tz) l).2 = 0) : j + 1 < X.length :=
  h.next j hj (fun k => by rw [wordR_end k] at e; cases e)
set_option maxRecDepth 100000 in
set_option maxHeartbeats 400000 in
theorem tour06 (g rb ib j cap : Nat) (at0 : Int) (X : List Tok) (hX : Toks X) (hj : j < X.length) (hcap : X.length ≤ cap) (w : World) (hM : Mem w (feet [pt rb #[.slice (some ⟨g, j * 4, none⟩) (X.length - j) (cap - j), .int .i64 at0] 62, own 77 4 (.slice ((some ⟨g, 0, none⟩)) X.length cap) X.length (tokv X), pt ib #[.int .i64 3, .int .i64 0, .int .i64 0, .slice none 0 0, .slice none 0 0, .slice none 0 0] 25]) [pt rb #[.slice (some ⟨g, j * 4, none⟩) (X.length - j) (cap - j), .int .i64 at0] 62, own 77 4 (.slice ((some ⟨g, 0, none⟩)) X.length cap) X.length (tokv X), pt ib #[.int .i64 3, .int .i64 0, .int .i64 0, .slice none 0 0, .slice none 0 0, .slice none 0 0] 25] w) :
  Calls Tryd.prog 63 #[.pointer (some ⟨rb, 0, none⟩), .pointer (some ⟨ib, 0, none⟩)] w fun e w' => e = .returned (.int .i64 (toR X j).1) ∧ (((toR X j).1 ≠ 0 ∧ ∃ jx, Mem w (feet [pt rb #[.slice (some ⟨g, j * 4, none⟩) (X.length - j) (cap - j), .int .i64 at0] 62, own 77 4 (.slice ((some ⟨g, 0, none⟩)) X.length cap) X.length (tokv X), pt ib #[.int .i64 3, .int .i64 0, .int .i64 0, .slice none 0 0, .slice none 0 0, .slice none 0 0] 25]) [pt rb #[.slice (some ⟨g, jx * 4, none⟩) (X.length - jx) (cap - jx), .int .i64 (((X.getD (toR X j).2 tz).a))] 62, own 77 4 (.slice ((some ⟨g, 0, none⟩)) X.length cap) X.length (tokv X)] w') ∨ ((toR X j).1 = 0 ∧ ∃ (at1 : Int) (gb : Nat) (rs : List OwR), ∃ n : Nat, ctN X j 24 = n ∧ 1 ≤ n ∧ n ≤ 24 ∧ rs.map (·.Y) = mat n (if (wordR (X.getD (j + 1) tz) W2).1 = 0 then rwI X (j + 2) n else hfI X (j + 2) n) ∧ Mem w (feet [pt rb #[.slice (some ⟨g, j * 4, none⟩) (X.length - j) (cap - j), .int .i64 at0] 62, own 77 4 (.slice ((some ⟨g, 0, none⟩)) X.length cap) X.length (tokv X), pt ib #[.int .i64 3, .int .i64 0, .int .i64 0, .slice none 0 0, .slice none 0 0, .slice none 0 0] 25]) [pt rb #[.slice (some ⟨g, (toR X j).2 * 4, none⟩) (X.length - (toR X j).2) (cap - (toR X j).2), .int .i64 at1] 62, own 77 4 (.slice ((some ⟨g, 0, none⟩)) X.length cap) X.length (tokv X), pt ib #[.int .i64 3, .int .i64 ((n : Int)), .int .i64 0, .slice none 0 0, .slice none 0 0, .slice ((some ⟨gb, 0, none⟩)) n n] 25, own 22 1 (.slice ((some ⟨gb, 0, none⟩)) n n) n ((rs.map orV)), bundle (rs.map (orC 3))] w')) := by
 have hbs := Below.refl (B := w.heap.size) w
 have hlX := hX.len
 refine Calls.of_ends (vs := [.pointer (some ⟨rb, 0, none⟩), .pointer (some ⟨ib, 0, none⟩)]) Tryd.func63 rfl Tryd.ntmps63 rfl ?_
 intro a hA
 replace hA : St 37 [(0, _), (1, _)] a := hA
 refine Ends.seq (Ends.region ?_)
 refine S.val hA (R.assign rfl) rfl ?_; clear hA a; intro a hA
 refine S.done ?_
 refine Ends.seq (Ends.region ?_)
 refine S.val hA (R.assign rfl) rfl ?_; clear hA a; intro a hA
 refine S.done ?_
 refine Ends.seq (Ends.seq (Ends.region ?_))
 refine S.val hA (R.move rfl) rfl ?_; clear hA a; intro a hA
 refine S.val hA (R.move rfl) rfl ?_; clear hA a; intro a hA
 refine S.call hA (R.callF Tryd.func64 rfl rfl rfl) rfl (count06 g rb j cap at0 X hX (by omega) hcap 24 _ (hM.hereN 2)) ?_; clear hA a
 rintro e w1 ⟨rfl, hn⟩
 replace hM : Mem _ _ [pt rb #[.slice (some ⟨g, (nxJ j (numR (X.getD j tz) 24)) * 4, none⟩) (X.length - (nxJ j (numR (X.getD j tz) 24))) (cap - (nxJ j (numR (X.getD j tz) 24))), .int .i64 ((X.getD j tz).a)] 62, own 77 4 (.slice ((some ⟨g, 0, none⟩)) X.length cap) X.length (tokv X), pt ib #[.int .i64 3, .int .i64 0, .int .i64 0, .slice none 0 0, .slice none 0 0, .slice none 0 0] 25] _ := hM.callL 2 hn; clear hn
 refine ⟨.tuple #[.int .i64 ((numN (X.getD j tz) 24)), .int .i64 ((cntR (X.getD j tz) 24))], rfl, fun a hA => ?_⟩
 refine S.val hA (R.move rfl) rfl ?_; clear hA a; intro a hA
 refine S.val hA (R.extract (v := .int .i64 ((numN (X.getD j tz) 24))) rfl rfl) rfl ?_; clear hA a; intro a hA
 refine S.val hA (R.extract (v := .int .i64 ((cntR (X.getD j tz) 24))) rfl rfl) rfl ?_; clear hA a; intro a hA
 refine S.val hA (R.nilCheck rfl) rfl ?_; clear hA a; intro a hA
 refine S.val hA (R.fieldAddr (q := 1) fi25_1 rfl rfl rfl) rfl ?_; clear hA a; intro a hA
 refine S.store (k := 2) hA hM sz3 rfl rfl rfl rfl rfl ?_; clear hM
 intro w2 hM
 replace hM : Mem _ _ [pt rb #[.slice (some ⟨g, (nxJ j (numR (X.getD j tz) 24)) * 4, none⟩) (X.length - (nxJ j (numR (X.getD j tz) 24))) (cap - (nxJ j (numR (X.getD j tz) 24))), .int .i64 ((X.getD j tz).a)] 62, own 77 4 (.slice ((some ⟨g, 0, none⟩)) X.length cap) X.length (tokv X), pt ib #[.int .i64 3, .int .i64 ((numN (X.getD j tz) 24)), .int .i64 0, .slice none 0 0, .slice none 0 0, .slice none 0 0] 25] _ := hM
 refine S.val hA (R.assign rfl) rfl ?_; clear hA a; intro a hA
 refine S.done ?_
 replace hA : St 37 [(0, _), (1, _), (5, _)] a := hA.sub ((.cons rfl (.cons rfl (.cons rfl .nil))))
 refine Ends.seq (Ends.region ?_)
 refine S.val hA (R.move rfl) rfl ?_; clear hA a; intro a hA
 refine S.val hA (R.neq rfl rfl) rfl ?_; clear hA a; intro a hA
 refine S.done ?_
 refine Ends.ite hA rfl (fun hc1 => ?_) (fun hc1 => ?_)
 ·
  refine Ends.seq (Ends.region ?_)
  refine S.val hA (R.move rfl) rfl ?_; clear hA a; intro a hA
  refine S.val hA (R.assign rfl) rfl ?_; clear hA a; intro a hA
  refine S.done ?_
  replace hA : St 37 [(0, _), (1, _), (4, _)] a := hA.sub ((.cons rfl (.cons rfl (.cons rfl .nil))))
  refine Ends.ret1 Tryd.func63 Tryd.results63 hA rfl ?_
  replace hM := hM.firstN 2
  replace hM : Mem _ _ [pt rb #[.slice (some ⟨g, (nxJ j (numR (X.getD j tz) 24)) * 4, none⟩) (X.length - (nxJ j (numR (X.getD j tz) 24))) (cap - (nxJ j (numR (X.getD j tz) 24))), .int .i64 ((X.getD j tz).a)] 62, own 77 4 (.slice ((some ⟨g, 0, none⟩)) X.length cap) X.length (tokv X)] _ := hM
  have e1 := toR_cnt hc1
  exact ⟨by rw [e1], .inl ⟨by rw [e1]; exact hc1, _, by rw [e1]; exact hM⟩⟩
 ·
  obtain ⟨n, hn, hcn, hn1, hn24_, hr0⟩ := hX.ct (Decidable.not_not.1 hc1)
  have hc0 := Decidable.not_not.1 hc1
  have hj1 := hX.ok hj hr0
  have hn24 : n ≤ 24 := by omega
  rw [hn] at hM
  rw [nxJ_ok hr0] at hM
  replace hM : Mem _ _ [pt rb #[.slice (some ⟨g, (j + 1) * 4, none⟩) (X.length - (j + 1)) (cap - (j + 1)), .int .i64 ((X.getD j tz).a)] 62, own 77 4 (.slice ((some ⟨g, 0, none⟩)) X.length cap) X.length (tokv X), pt ib #[.int .i64 3, .int .i64 ((n : Int)), .int .i64 0, .slice none 0 0, .slice none 0 0, .slice none 0 0] 25] _ := hM
  refine Ends.skip (Ends.seq (Ends.region ?_))
  refine S.val hA (R.move rfl) rfl ?_; clear hA a; intro a hA
  refine S.buildSl (cells := #[.string (⟨#[70, 85, 76, 76]⟩), .string (⟨#[85, 80, 80, 69, 82]⟩)]) hA hM Tryd.underlying34 info9 rfl rfl rfl rfl (by kernel_rfl) rfl ?_; clear hA hM a; intro b2 w3 hb3 hM a hA
  replace hM : Mem _ _ [pt b2 #[.string (⟨#[70, 85, 76, 76]⟩), .string (⟨#[85, 80, 80, 69, 82]⟩)] 9, pt rb #[.slice (some ⟨g, (j + 1) * 4, none⟩) (X.length - (j + 1)) (cap - (j + 1)), .int .i64 ((X.getD j tz).a)] 62, own 77 4 (.slice ((some ⟨g, 0, none⟩)) X.length cap) X.length (tokv X), pt ib #[.int .i64 3, .int .i64 ((n : Int)), .int .i64 0, .slice none 0 0, .slice none 0 0, .slice none 0 0] 25] _ := hM
  replace hM := hM.front (k := 2) rfl
  replace hM := hM.front (k := 2) rfl
  replace hM : Mem _ _ [pt rb #[.slice (some ⟨g, (j + 1) * 4, none⟩) (X.length - (j + 1)) (cap - (j + 1)), .int .i64 ((X.getD j tz).a)] 62, own 77 4 (.slice ((some ⟨g, 0, none⟩)) X.length cap) X.length (tokv X), pt b2 #[.string (⟨#[70, 85, 76, 76]⟩), .string (⟨#[85, 80, 80, 69, 82]⟩)] 9, pt ib #[.int .i64 3, .int .i64 ((n : Int)), .int .i64 0, .slice none 0 0, .slice none 0 0, .slice none 0 0] 25] _ := hM
  refine S.call hA (R.callF Tryd.func61 rfl rfl rfl) rfl (word06_2 g rb ((j + 1)) cap ((X.getD j tz).a) X hX (by omega) hcap b2 (⟨#[70, 85, 76, 76]⟩) (⟨#[85, 80, 80, 69, 82]⟩) _ (hM.hereN 3)) ?_; clear hA a
  rintro e w4 ⟨rfl, hn⟩
  replace hM : Mem _ _ [pt rb #[.slice (some ⟨g, (nxJ ((j + 1)) (wordR (X.getD ((j + 1)) tz) W2).2) * 4, none⟩) (X.length - (nxJ ((j + 1)) (wordR (X.getD ((j + 1)) tz) W2).2)) (cap - (nxJ ((j + 1)) (wordR (X.getD ((j + 1)) tz) W2).2)), .int .i64 ((X.getD ((j + 1)) tz).a)] 62, own 77 4 (.slice ((some ⟨g, 0, none⟩)) X.length cap) X.length (tokv X), pt b2 #[.string (⟨#[70, 85, 76, 76]⟩), .string (⟨#[85, 80, 80, 69, 82]⟩)] 9, pt ib #[.int .i64 3, .int .i64 ((n : Int)), .int .i64 0, .slice none 0 0, .slice none 0 0, .slice none 0 0] 25] _ := hM.callL 3 hn; clear hn
  refine ⟨.tuple #[.int .i64 ((wordR (X.getD ((j + 1)) tz) W2).1), .int .i64 ((wordR (X.getD ((j + 1)) tz) W2).2)], rfl, fun a hA => ?_⟩
  refine S.val hA (R.move rfl) rfl ?_; clear hA a; intro a hA
  refine S.val hA (R.extract (v := .int .i64 ((wordR (X.getD ((j + 1)) tz) W2).1)) rfl rfl) rfl ?_; clear hA a; intro a hA
  refine S.val hA (R.extract (v := .int .i64 ((wordR (X.getD ((j + 1)) tz) W2).2)) rfl rfl) rfl ?_; clear hA a; intro a hA
  refine S.val hA (R.assign rfl) rfl ?_; clear hA a; intro a hA
  refine S.val hA (R.assign rfl) rfl ?_; clear hA a; intro a hA
  refine S.done ?_
  replace hA : St 37 [(0, _), (1, _), (5, _), (6, _)] a := hA.sub ((.cons rfl (.cons rfl (.cons rfl (.cons rfl .nil)))))
  refine Ends.seq (Ends.block (Ends.seq (Ends.region ?_)))
  refine S.val hA (R.move rfl) rfl ?_; clear hA a; intro a hA
  refine S.val hA (R.neq rfl rfl) rfl ?_; clear hA a; intro a hA
  refine S.val hA (R.assign rfl) rfl ?_; clear hA a; intro a hA
  refine S.done ?_
  refine Ends.ite hA rfl (fun hc4 => ?_) (fun hc4 => ?_)
  ·
   refine Ends.seq (Ends.region ?_)
   refine S.val hA (R.move rfl) rfl ?_; clear hA a; intro a hA
   refine S.val hA (R.assign rfl) rfl ?_; clear hA a; intro a hA
   refine S.done ?_
   replace hA : St 37 [(0, _), (1, _), (4, _)] a := hA.sub ((.cons rfl (.cons rfl (.cons rfl .nil))))
   refine Ends.ret1 Tryd.func63 Tryd.results63 hA rfl ?_
   replace hM := hM.firstN 2
   replace hM : Mem _ _ [pt rb #[.slice (some ⟨g, (nxJ ((j + 1)) (wordR (X.getD ((j + 1)) tz) W2).2) * 4, none⟩) (X.length - (nxJ ((j + 1)) (wordR (X.getD ((j + 1)) tz) W2).2)) (cap - (nxJ ((j + 1)) (wordR (X.getD ((j + 1)) tz) W2).2)), .int .i64 ((X.getD ((j + 1)) tz).a)] 62, own 77 4 (.slice ((some ⟨g, 0, none⟩)) X.length cap) X.length (tokv X)] _ := hM
   have e1 := toR_word hc0 hc4
   exact ⟨by rw [e1], .inl ⟨by rw [e1]; exact hc4, _, by rw [e1]; exact hM⟩⟩
  ·
   have hw0 := Decidable.not_not.1 hc4
   have hj2 := hX.wok hj1 hw0
   rw [nxJ_ok hw0] at hM
   replace hM : Mem _ _ [pt rb #[.slice (some ⟨g, (j + 2) * 4, none⟩) (X.length - (j + 2)) (cap - (j + 2)), .int .i64 ((X.getD ((j + 1)) tz).a)] 62, own 77 4 (.slice ((some ⟨g, 0, none⟩)) X.length cap) X.length (tokv X), pt b2 #[.string (⟨#[70, 85, 76, 76]⟩), .string (⟨#[85, 80, 80, 69, 82]⟩)] 9, pt ib #[.int .i64 3, .int .i64 ((n : Int)), .int .i64 0, .slice none 0 0, .slice none 0 0, .slice none 0 0] 25] _ := hM
   refine Ends.seq (Ends.region ?_)
   refine S.val hA (R.move rfl) rfl ?_; clear hA a; intro a hA
   refine S.val hA (R.eql rfl rfl) rfl ?_; clear hA a; intro a hA
   refine S.val hA (R.assign rfl) rfl ?_; clear hA a; intro a hA
   refine S.done ?_
   replace hA : St 37 [(0, _), (1, _), (28, _)] a := hA.sub ((.cons rfl (.cons rfl (.cons rfl .nil))))
   refine Ends.ite hA rfl (fun hc5 => ?_) (fun hc5 => ?_)
   ·
    refine Ends.seq ?_
    by_cases hs6 : (nuR (dgk 3 n) X (j + 2) (n * n)).1 = 0
    ·
     refine Ends.region ?_
     refine S.val hA (R.move rfl) rfl ?_; clear hA a; intro a hA
     refine S.val hA (R.move rfl) rfl ?_; clear hA a; intro a hA
     replace hM := hM.front (k := 3) rfl
     replace hM := hM.front (k := 2) rfl
     replace hM := hM.front (k := 2) rfl
     replace hM : Mem _ _ [pt rb #[.slice (some ⟨g, (j + 2) * 4, none⟩) (X.length - (j + 2)) (cap - (j + 2)), .int .i64 ((X.getD ((j + 1)) tz).a)] 62, own 77 4 (.slice ((some ⟨g, 0, none⟩)) X.length cap) X.length (tokv X), pt ib #[.int .i64 3, .int .i64 ((n : Int)), .int .i64 0, .slice none 0 0, .slice none 0 0, .slice none 0 0] 25, pt b2 #[.string (⟨#[70, 85, 76, 76]⟩), .string (⟨#[85, 80, 80, 69, 82]⟩)] 9] _ := hM
     refine S.call hA (R.callF Tryd.func65 rfl rfl rfl) rfl (rows06_ok g rb ib ((j + 2)) cap ((X.getD ((j + 1)) tz).a) X hX (by omega) hcap 3 n hn1 hn24 hs6 _ (hM.hereN 3)) ?_; clear hA a
     rintro e w5 ⟨rfl, atx, gb, rs, hYs, hn⟩
     replace hM : Mem _ _ [pt rb #[.slice (some ⟨g, (nuR (dgk 3 n) X (j + 2) (n * n)).2 * 4, none⟩) (X.length - (nuR (dgk 3 n) X (j + 2) (n * n)).2) (cap - (nuR (dgk 3 n) X (j + 2) (n * n)).2), .int .i64 atx] 62, own 77 4 (.slice ((some ⟨g, 0, none⟩)) X.length cap) X.length (tokv X), pt ib #[.int .i64 3, .int .i64 ((n : Int)), .int .i64 0, .slice none 0 0, .slice none 0 0, .slice ((some ⟨gb, 0, none⟩)) n n] 25, own 22 1 (.slice ((some ⟨gb, 0, none⟩)) n n) n ((rs.map orV)), bundle (rs.map (orC 3)), pt b2 #[.string (⟨#[70, 85, 76, 76]⟩), .string (⟨#[85, 80, 80, 69, 82]⟩)] 9] _ := hM.callL 3 hn; clear hn
     refine ⟨.int .i64 0, rfl, fun a hA => ?_⟩
     refine S.val hA (R.assign rfl) rfl ?_; clear hA a; intro a hA
     refine S.done ?_
     replace hA : St 37 [(0, _), (1, _), (4, _)] a := hA.sub ((.cons rfl (.cons rfl (.cons rfl .nil))))
     refine Ends.ret1 Tryd.func63 Tryd.results63 hA rfl ?_
     replace hM := hM.firstN 5
     replace hM : Mem _ _ [pt rb #[.slice (some ⟨g, (nuR (dgk 3 n) X (j + 2) (n * n)).2 * 4, none⟩) (X.length - (nuR (dgk 3 n) X (j + 2) (n * n)).2) (cap - (nuR (dgk 3 n) X (j + 2) (n * n)).2), .int .i64 atx] 62, own 77 4 (.slice ((some ⟨g, 0, none⟩)) X.length cap) X.length (tokv X), pt ib #[.int .i64 3, .int .i64 ((n : Int)), .int .i64 0, .slice none 0 0, .slice none 0 0, .slice ((some ⟨gb, 0, none⟩)) n n] 25, own 22 1 (.slice ((some ⟨gb, 0, none⟩)) n n) n ((rs.map orV)), bundle (rs.map (orC 3))] _ := hM
     have e1 := toR_full hc0 hcn hw0 hc5
     exact ⟨by rw [e1, hs6], .inr ⟨by rw [e1]; exact hs6, _, gb, rs, n, hcn, hn1, hn24, by rw [if_pos hc5]; exact hYs, by rw [e1]; exact hM⟩⟩
    ·
     refine Ends.region ?_
     refine S.val hA (R.move rfl) rfl ?_; clear hA a; intro a hA
     refine S.val hA (R.move rfl) rfl ?_; clear hA a; intro a hA
     replace hM := hM.front (k := 3) rfl
     replace hM := hM.front (k := 2) rfl
     replace hM := hM.front (k := 2) rfl
     replace hM : Mem _ _ [pt rb #[.slice (some ⟨g, (j + 2) * 4, none⟩) (X.length - (j + 2)) (cap - (j + 2)), .int .i64 ((X.getD ((j + 1)) tz).a)] 62, own 77 4 (.slice ((some ⟨g, 0, none⟩)) X.length cap) X.length (tokv X), pt ib #[.int .i64 3, .int .i64 ((n : Int)), .int .i64 0, .slice none 0 0, .slice none 0 0, .slice none 0 0] 25, pt b2 #[.string (⟨#[70, 85, 76, 76]⟩), .string (⟨#[85, 80, 80, 69, 82]⟩)] 9] _ := hM
     refine S.call hA (R.callF Tryd.func65 rfl rfl rfl) rfl (rows06_bad g rb ib ((j + 2)) cap ((X.getD ((j + 1)) tz).a) X hX (by omega) hcap 3 n hn1 hn24 hs6 _ (hM.hereN 3)) ?_; clear hA a
     rintro e w6 ⟨rfl, jx7, hn⟩
     replace hM : Mem _ _ [pt rb #[.slice (some ⟨g, jx7 * 4, none⟩) (X.length - jx7) (cap - jx7), .int .i64 (((X.getD (nuR (dgk 3 n) X (j + 2) (n * n)).2 tz).a))] 62, own 77 4 (.slice ((some ⟨g, 0, none⟩)) X.length cap) X.length (tokv X), pt b2 #[.string (⟨#[70, 85, 76, 76]⟩), .string (⟨#[85, 80, 80, 69, 82]⟩)] 9] _ := hM.callL 3 hn; clear hn
     refine ⟨.int .i64 ((nuR (dgk 3 n) X (j + 2) (n * n)).1), rfl, fun a hA => ?_⟩
     refine S.val hA (R.assign rfl) rfl ?_; clear hA a; intro a hA
     refine S.done ?_
     replace hA : St 37 [(0, _), (1, _), (4, _)] a := hA.sub ((.cons rfl (.cons rfl (.cons rfl .nil))))
     refine Ends.ret1 Tryd.func63 Tryd.results63 hA rfl ?_
     replace hM := hM.firstN 2
     replace hM : Mem _ _ [pt rb #[.slice (some ⟨g, jx7 * 4, none⟩) (X.length - jx7) (cap - jx7), .int .i64 (((X.getD (nuR (dgk 3 n) X (j + 2) (n * n)).2 tz).a))] 62, own 77 4 (.slice ((some ⟨g, 0, none⟩)) X.length cap) X.length (tokv X)] _ := hM
     have e1 := toR_full hc0 hcn hw0 hc5
     exact ⟨by rw [e1], .inl ⟨by rw [e1]; exact hs6, _, by rw [e1]; exact hM⟩⟩
   ·
    refine Ends.skip (Ends.inBlock (Ends.seq ?_))
    by_cases hs8 : (nuR ff X (j + 2) (hlf n)).1 = 0
    ·
     refine Ends.region ?_
     refine S.val hA (R.move rfl) rfl ?_; clear hA a; intro a hA
     refine S.val hA (R.move rfl) rfl ?_; clear hA a; intro a hA
     replace hM := hM.front (k := 3) rfl
     replace hM := hM.front (k := 2) rfl
     replace hM := hM.front (k := 2) rfl
     replace hM : Mem _ _ [pt rb #[.slice (some ⟨g, (j + 2) * 4, none⟩) (X.length - (j + 2)) (cap - (j + 2)), .int .i64 ((X.getD ((j + 1)) tz).a)] 62, own 77 4 (.slice ((some ⟨g, 0, none⟩)) X.length cap) X.length (tokv X), pt ib #[.int .i64 3, .int .i64 ((n : Int)), .int .i64 0, .slice none 0 0, .slice none 0 0, .slice none 0 0] 25, pt b2 #[.string (⟨#[70, 85, 76, 76]⟩), .string (⟨#[85, 80, 80, 69, 82]⟩)] 9] _ := hM
     refine S.call hA (R.callF Tryd.func82 rfl rfl rfl) rfl (half06_ok g rb ib ((j + 2)) cap ((X.getD ((j + 1)) tz).a) X hX (by omega) hcap 3 n hn1 hn24 hs8 _ (hM.hereN 3)) ?_; clear hA a
     rintro e w7 ⟨rfl, atx, gb, rs, hYs, hn⟩
     replace hM : Mem _ _ [pt rb #[.slice (some ⟨g, (nuR ff X (j + 2) (hlf n)).2 * 4, none⟩) (X.length - (nuR ff X (j + 2) (hlf n)).2) (cap - (nuR ff X (j + 2) (hlf n)).2), .int .i64 atx] 62, own 77 4 (.slice ((some ⟨g, 0, none⟩)) X.length cap) X.length (tokv X), pt ib #[.int .i64 3, .int .i64 ((n : Int)), .int .i64 0, .slice none 0 0, .slice none 0 0, .slice ((some ⟨gb, 0, none⟩)) n n] 25, own 22 1 (.slice ((some ⟨gb, 0, none⟩)) n n) n ((rs.map orV)), bundle (rs.map (orC 3)), pt b2 #[.string (⟨#[70, 85, 76, 76]⟩), .string (⟨#[85, 80, 80, 69, 82]⟩)] 9] _ := hM.callL 3 hn; clear hn
     refine ⟨.int .i64 0, rfl, fun a hA => ?_⟩
     refine S.val hA (R.assign rfl) rfl ?_; clear hA a; intro a hA
     refine S.done ?_
     replace hA : St 37 [(4, _)] a := hA.sub ((.cons rfl .nil))
     refine Ends.ret1 Tryd.func63 Tryd.results63 hA rfl ?_
     replace hM := hM.firstN 5
     replace hM : Mem _ _ [pt rb #[.slice (some ⟨g, (nuR ff X (j + 2) (hlf n)).2 * 4, none⟩) (X.length - (nuR ff X (j + 2) (hlf n)).2) (cap - (nuR ff X (j + 2) (hlf n)).2), .int .i64 atx] 62, own 77 4 (.slice ((some ⟨g, 0, none⟩)) X.length cap) X.length (tokv X), pt ib #[.int .i64 3, .int .i64 ((n : Int)), .int .i64 0, .slice none 0 0, .slice none 0 0, .slice ((some ⟨gb, 0, none⟩)) n n] 25, own 22 1 (.slice ((some ⟨gb, 0, none⟩)) n n) n ((rs.map orV)), bundle (rs.map (orC 3))] _ := hM
     have e1 := toR_half hc0 hcn hw0 hc5
     exact ⟨by rw [e1, hs8], .inr ⟨by rw [e1]; exact hs8, _, gb, rs, n, hcn, hn1, hn24, by rw [if_neg hc5]; exact hYs, by rw [e1]; exact hM⟩⟩
    ·
     refine Ends.region ?_
     refine S.val hA (R.move rfl) rfl ?_; clear hA a; intro a hA
     refine S.val hA (R.move rfl) rfl ?_; clear hA a; intro a hA
     replace hM := hM.front (k := 3) rfl
     replace hM := hM.front (k := 2) rfl
     replace hM := hM.front (k := 2) rfl
     replace hM : Mem _ _ [pt rb #[.slice (some ⟨g, (j + 2) * 4, none⟩) (X.length - (j + 2)) (cap - (j + 2)), .int .i64 ((X.getD ((j + 1)) tz).a)] 62, own 77 4 (.slice ((some ⟨g, 0, none⟩)) X.length cap) X.length (tokv X), pt ib #[.int .i64 3, .int .i64 ((n : Int)), .int .i64 0, .slice none 0 0, .slice none 0 0, .slice none 0 0] 25, pt b2 #[.string (⟨#[70, 85, 76, 76]⟩), .string (⟨#[85, 80, 80, 69, 82]⟩)] 9] _ := hM
     refine S.call hA (R.callF Tryd.func82 rfl rfl rfl) rfl (half06_bad g rb ib ((j + 2)) cap ((X.getD ((j + 1)) tz).a) X hX (by omega) hcap 3 n hn1 hn24 hs8 _ (hM.hereN 3)) ?_; clear hA a
     rintro e w8 ⟨rfl, jx9, hn⟩
     replace hM : Mem _ _ [pt rb #[.slice (some ⟨g, jx9 * 4, none⟩) (X.length - jx9) (cap - jx9), .int .i64 (((X.getD (nuR ff X (j + 2) (hlf n)).2 tz).a))] 62, own 77 4 (.slice ((some ⟨g, 0, none⟩)) X.length cap) X.length (tokv X), pt b2 #[.string (⟨#[70, 85, 76, 76]⟩), .string (⟨#[85, 80, 80, 69, 82]⟩)] 9] _ := hM.callL 3 hn; clear hn
     refine ⟨.int .i64 ((nuR ff X (j + 2) (hlf n)).1), rfl, fun a hA => ?_⟩
     refine S.val hA (R.assign rfl) rfl ?_; clear hA a; intro a hA
     refine S.done ?_
     replace hA : St 37 [(4, _)] a := hA.sub ((.cons rfl .nil))
     refine Ends.ret1 Tryd.func63 Tryd.results63 hA rfl ?_
     replace hM := hM.firstN 2
     replace hM : Mem _ _ [pt rb #[.slice (some ⟨g, jx9 * 4, none⟩) (X.length - jx9) (cap - jx9), .int .i64 (((X.getD (nuR ff X (j + 2) (hlf n)).2 tz).a))] 62, own 77 4 (.slice ((some ⟨g, 0, none⟩)) X.length cap) X.length (tokv X)] _ := hM
     have e1 := toR_half hc0 hcn hw0 hc5
     exact ⟨by rw [e1], .inl ⟨by rw [e1]; exact hs8, _, by rw [e1]; exact hM⟩⟩
theorem tour06_bad (g rb ib j cap : Nat) (at0 : Int) (X : List Tok) (hX : Toks X) (hj : j < X.length) (hcap : X.length ≤ cap) (hE : (toR X j).1 ≠ 0) (w : World) (hM : Mem w (feet [pt rb #[.slice (some ⟨g, j * 4, none⟩) (X.length - j) (cap - j), .int .i64 at0] 62, own 77 4 (.slice ((some ⟨g, 0, none⟩)) X.length cap) X.length (tokv X), pt ib #[.int .i64 3, .int .i64 0, .int .i64 0, .slice none 0 0, .slice none 0 0, .slice none 0 0] 25]) [pt rb #[.slice (some ⟨g, j * 4, none⟩) (X.length - j) (cap - j), .int .i64 at0] 62, own 77 4 (.slice ((some ⟨g, 0, none⟩)) X.length cap) X.length (tokv X), pt ib #[.int .i64 3, .int .i64 0, .int .i64 0, .slice none 0 0, .slice none 0 0, .slice none 0 0] 25] w) :
    Calls Tryd.prog 63 #[.pointer (some ⟨rb, 0, none⟩), .pointer (some ⟨ib, 0, none⟩)] w fun e w' => e = .returned (.int .i64 (toR X j).1) ∧ ∃ jx, Mem w (feet [pt rb #[.slice (some ⟨g, j * 4, none⟩) (X.length - j) (cap - j), .int .i64 at0] 62, own 77 4 (.slice ((some ⟨g, 0, none⟩)) X.length cap) X.length (tokv X), pt ib #[.int .i64 3, .int .i64 0, .int .i64 0, .slice none 0 0, .slice none 0 0, .slice none 0 0] 25]) [pt rb #[.slice (some ⟨g, jx * 4, none⟩) (X.length - jx) (cap - jx), .int .i64 (((X.getD (toR X j).2 tz).a))] 62, own 77 4 (.slice ((some ⟨g, 0, none⟩)) X.length cap) X.length (tokv X)] w' :=
  (tour06 g rb ib j cap at0 X hX hj hcap w hM).mono (by rintro e w' ⟨h1, h2 | h2⟩; exact ⟨h1, h2.2⟩; exact absurd h2.1 hE)
theorem tour06_ok (g rb ib j cap : Nat) (at0 : Int) (X : List Tok) (hX : Toks X) (hj : j < X.length) (hcap : X.length ≤ cap) (hE : (toR X j).1 = 0) (w : World) (hM : Mem w (feet [pt rb #[.slice (some ⟨g, j * 4, none⟩) (X.length - j) (cap - j), .int .i64 at0] 62, own 77 4 (.slice ((some ⟨g, 0, none⟩)) X.length cap) X.length (tokv X), pt ib #[.int .i64 3, .int .i64 0, .int .i64 0, .slice none 0 0, .slice none 0 0, .slice none 0 0] 25]) [pt rb #[.slice (some ⟨g, j * 4, none⟩) (X.length - j) (cap - j), .int .i64 at0] 62, own 77 4 (.slice ((some ⟨g, 0, none⟩)) X.length cap) X.length (tokv X), pt ib #[.int .i64 3, .int .i64 0, .int .i64 0, .slice none 0 0, .slice none 0 0, .slice none 0 0] 25] w) :
    Calls Tryd.prog 63 #[.pointer (some ⟨rb, 0, none⟩), .pointer (some ⟨ib, 0, none⟩)] w fun e w' => e = .returned (.int .i64 0) ∧ ∃ (at1 : Int) (gb : Nat) (rs : List OwR), ∃ n : Nat, ctN X j 24 = n ∧ 1 ≤ n ∧ n ≤ 24 ∧ rs.map (·.Y) = mat n (if (wordR (X.getD (j + 1) tz) W2).1 = 0 then rwI X (j + 2) n else hfI X (j + 2) n) ∧ Mem w (feet [pt rb #[.slice (some ⟨g, j * 4, none⟩) (X.length - j) (cap - j), .int .i64 at0] 62, own 77 4 (.slice ((some ⟨g, 0, none⟩)) X.length cap) X.length (tokv X), pt ib #[.int .i64 3, .int .i64 0, .int .i64 0, .slice none 0 0, .slice none 0 0, .slice none 0 0] 25]) [pt rb #[.slice (some ⟨g, (toR X j).2 * 4, none⟩) (X.length - (toR X j).2) (cap - (toR X j).2), .int .i64 at1] 62, own 77 4 (.slice ((some ⟨g, 0, none⟩)) X.length cap) X.length (tokv X), pt ib #[.int .i64 3, .int .i64 ((n : Int)), .int .i64 0, .slice none 0 0, .slice none 0 0, .slice ((some ⟨gb, 0, none⟩)) n n] 25, own 22 1 (.slice ((some ⟨gb, 0, none⟩)) n n) n ((rs.map orV)), bundle (rs.map (orC 3))] w' :=
  (tour06 g rb ib j cap at0 X hX hj hcap w hM).mono (by rintro e w' ⟨h1, h2 | h2⟩; exact absurd hE h2.1; exact ⟨by rw [h1, hE], h2.2⟩)
theorem Toks.nuE {X : List Tok} (h : Toks X) {f : Nat → Bool} {j : Nat} (hj : j < X.length) : ∀ {m : Nat}, (nuR f X j m).1 = 0 → (nuR f X j m).2 < X.length := fun {m} e => by
  obtain ⟨h1, h2⟩ := nuR_zero e
  rw [h2]
  have key : ∀ q, q ≤ m → j + q < X.length := by
    intro q
    induction q with
    | zero => intro _; exact hj
    | succ q ih => intro hq; exact h.ok (ih (by omega)) (nuE_zero (h1 q (by omega))).1
  exact key m (Nat.le_refl m)
theorem Toks.itE {X : List Tok} (h : Toks X) {j : Nat} (hj : j < X.length) (e : (itR X j).1 = 0) : (itR X j).2 < X.length := by
  by_cases hc : cntR (X.getD j tz) 64 = 0
  · rw [itR_num hc rfl] at e ⊢
    obtain ⟨n, -, -, -, -, h0⟩ := h.ct hc
    exact h.nuE (h.ok hj h0) e
  · rw [itR_cnt hc] at e; exact absurd e hc
theorem Toks.toE {X : List Tok} (h : Toks X) {j : Nat} (hj : j < X.length) (e : (toR X j).1 = 0) : (toR X j).2 < X.length := by
  by_cases hc : cntR (X.getD j tz) 24 = 0
  · obtain ⟨n, -, -, -, -, h0⟩ := h.ct hc
    have hj1 := h.ok hj h0
    by_cases hw : (wordR (X.getD (j + 1) tz) W2).2 = 0
    · have hj2 := h.wok hj1 hw
      by_cases hl : (wordR (X.getD (j + 1) tz) W2).1 = 0
      · rw [toR_full hc rfl hw hl] at e ⊢; exact h.nuE hj2 e
      · rw [toR_half hc rfl hw hl] at e ⊢; exact h.nuE hj2 e
    · rw [toR_word hc hw] at e; exact absurd e hw
  · rw [toR_cnt hc] at e; exact absurd e hc
set_option maxRecDepth 100000 in
set_option maxHeartbeats 400000 in
theorem problem06 (g rb ib cap : Nat) (at0 : Int) (X : List Tok) (hX : Toks X) (hj : 0 < X.length) (hcap : X.length ≤ cap) (w : World) (hM : Mem w (feet [pt rb #[.slice (some ⟨g, 0 * 4, none⟩) (X.length - 0) (cap - 0), .int .i64 at0] 62, own 77 4 (.slice ((some ⟨g, 0, none⟩)) X.length cap) X.length (tokv X), pt ib cz0 25]) [pt rb #[.slice (some ⟨g, 0 * 4, none⟩) (X.length - 0) (cap - 0), .int .i64 at0] 62, own 77 4 (.slice ((some ⟨g, 0, none⟩)) X.length cap) X.length (tokv X), pt ib cz0 25] w) :
  Calls Tryd.prog 48 #[.pointer (some ⟨rb, 0, none⟩), .pointer (some ⟨ib, 0, none⟩)] w fun e w' => e = .returned (.int .i64 (pbR X).1) ∧ (((pbR X).1 ≠ 0 ∧ ∃ jx, Mem w (feet [pt rb #[.slice (some ⟨g, 0 * 4, none⟩) (X.length - 0) (cap - 0), .int .i64 at0] 62, own 77 4 (.slice ((some ⟨g, 0, none⟩)) X.length cap) X.length (tokv X), pt ib cz0 25]) [pt rb #[.slice (some ⟨g, jx * 4, none⟩) (X.length - jx) (cap - jx), .int .i64 (((X.getD (pbR X).2 tz).a))] 62, own 77 4 (.slice ((some ⟨g, 0, none⟩)) X.length cap) X.length (tokv X)] w') ∨ ((pbR X).1 = 0 ∧ ∃ jx at1 aw cw av cv ac cc, ∃ rs : List OwR, rs.map (·.Y) = (pbI X).cost ∧ Mem w (feet [pt rb #[.slice (some ⟨g, 0 * 4, none⟩) (X.length - 0) (cap - 0), .int .i64 at0] 62, own 77 4 (.slice ((some ⟨g, 0, none⟩)) X.length cap) X.length (tokv X), pt ib cz0 25]) [pt rb #[.slice (some ⟨g, jx * 4, none⟩) (X.length - jx) (cap - jx), .int .i64 at1] 62, own 77 4 (.slice ((some ⟨g, 0, none⟩)) X.length cap) X.length (tokv X), pt ib #[.int .i64 ((pbI X).kind), .int .i64 ((pbI X).n), .int .i64 ((pbI X).cap), .slice aw ((pbI X).wt.length) cw, .slice av ((pbI X).vl.length) cv, .slice ac rs.length cc] 25, bundle (insL 3 22 (pbI X) aw cw av cv ac cc rs)] w')) := by
 have hbs := Below.refl (B := w.heap.size) w
 have hlX := hX.len
 refine Calls.of_ends (vs := [.pointer (some ⟨rb, 0, none⟩), .pointer (some ⟨ib, 0, none⟩)]) Tryd.func48 rfl Tryd.ntmps48 rfl ?_
 intro a hA
 replace hA : St 56 [(0, _), (1, _)] a := hA
 refine Ends.seq (Ends.region ?_)
 refine S.val hA (R.assign rfl) rfl ?_; clear hA a; intro a hA
 refine S.done ?_
 refine Ends.seq (Ends.region ?_)
 refine S.val hA (R.move rfl) rfl ?_; clear hA a; intro a hA
 refine S.call hA (R.callF Tryd.func23 rfl rfl rfl) rfl (name05 1 _) ?_; clear hA a
 rintro e w1 ⟨rfl, hb⟩
 replace hM := hM.callB hb; clear hb
 refine ⟨.string (⟨#[75, 78, 65, 80, 83, 65, 67, 75]⟩), rfl, fun a hA => ?_⟩
 refine S.call hA (R.callF Tryd.func23 rfl rfl rfl) rfl (name05 2 _) ?_; clear hA a
 rintro e w2 ⟨rfl, hb⟩
 replace hM := hM.callB hb; clear hb
 refine ⟨.string (⟨#[65, 83, 83, 73, 71, 78, 77, 69, 78, 84]⟩), rfl, fun a hA => ?_⟩
 refine S.call hA (R.callF Tryd.func23 rfl rfl rfl) rfl (name05 3 _) ?_; clear hA a
 rintro e w3 ⟨rfl, hb⟩
 replace hM := hM.callB hb; clear hb
 refine ⟨.string (⟨#[84, 83, 80]⟩), rfl, fun a hA => ?_⟩
 refine S.buildSl (cells := #[.string (⟨#[75, 78, 65, 80, 83, 65, 67, 75]⟩), .string (⟨#[65, 83, 83, 73, 71, 78, 77, 69, 78, 84]⟩), .string (⟨#[84, 83, 80]⟩)]) hA hM Tryd.underlying34 info9 rfl rfl rfl rfl (by kernel_rfl) rfl ?_; clear hA hM a; intro b1 w4 hb2 hM a hA
 replace hM : Mem _ _ [pt b1 #[.string (⟨#[75, 78, 65, 80, 83, 65, 67, 75]⟩), .string (⟨#[65, 83, 83, 73, 71, 78, 77, 69, 78, 84]⟩), .string (⟨#[84, 83, 80]⟩)] 9, pt rb #[.slice (some ⟨g, 0 * 4, none⟩) (X.length - 0) (cap - 0), .int .i64 at0] 62, own 77 4 (.slice ((some ⟨g, 0, none⟩)) X.length cap) X.length (tokv X), pt ib cz0 25] _ := hM
 replace hM := hM.front (k := 2) rfl
 replace hM := hM.front (k := 2) rfl
 replace hM : Mem _ _ [pt rb #[.slice (some ⟨g, 0 * 4, none⟩) (X.length - 0) (cap - 0), .int .i64 at0] 62, own 77 4 (.slice ((some ⟨g, 0, none⟩)) X.length cap) X.length (tokv X), pt b1 #[.string (⟨#[75, 78, 65, 80, 83, 65, 67, 75]⟩), .string (⟨#[65, 83, 83, 73, 71, 78, 77, 69, 78, 84]⟩), .string (⟨#[84, 83, 80]⟩)] 9, pt ib cz0 25] _ := hM
 refine S.call hA (R.callF Tryd.func61 rfl rfl rfl) rfl (word06_3 g rb 0 cap at0 X hX (by omega) hcap b1 (⟨#[75, 78, 65, 80, 83, 65, 67, 75]⟩) (⟨#[65, 83, 83, 73, 71, 78, 77, 69, 78, 84]⟩) (⟨#[84, 83, 80]⟩) _ (hM.hereN 3)) ?_; clear hA a
 rintro e w5 ⟨rfl, hn⟩
 replace hM : Mem _ _ [pt rb #[.slice (some ⟨g, (nxJ 0 (wordR (X.getD 0 tz) W3).2) * 4, none⟩) (X.length - (nxJ 0 (wordR (X.getD 0 tz) W3).2)) (cap - (nxJ 0 (wordR (X.getD 0 tz) W3).2)), .int .i64 ((X.getD 0 tz).a)] 62, own 77 4 (.slice ((some ⟨g, 0, none⟩)) X.length cap) X.length (tokv X), pt b1 #[.string (⟨#[75, 78, 65, 80, 83, 65, 67, 75]⟩), .string (⟨#[65, 83, 83, 73, 71, 78, 77, 69, 78, 84]⟩), .string (⟨#[84, 83, 80]⟩)] 9, pt ib cz0 25] _ := hM.callL 3 hn; clear hn
 refine ⟨.tuple #[.int .i64 ((wordR (X.getD 0 tz) W3).1), .int .i64 ((wordR (X.getD 0 tz) W3).2)], rfl, fun a hA => ?_⟩
 refine S.val hA (R.move rfl) rfl ?_; clear hA a; intro a hA
 refine S.val hA (R.extract (v := .int .i64 ((wordR (X.getD 0 tz) W3).1)) rfl rfl) rfl ?_; clear hA a; intro a hA
 refine S.val hA (R.extract (v := .int .i64 ((wordR (X.getD 0 tz) W3).2)) rfl rfl) rfl ?_; clear hA a; intro a hA
 refine S.val hA (R.assign rfl) rfl ?_; clear hA a; intro a hA
 refine S.val hA (R.assign rfl) rfl ?_; clear hA a; intro a hA
 refine S.done ?_
 replace hA : St 56 [(0, _), (1, _), (5, _), (6, _)] a := hA.sub ((.cons rfl (.cons rfl (.cons rfl (.cons rfl .nil)))))
 refine Ends.seq (Ends.seq (Ends.region ?_))
 refine S.val hA (R.move rfl) rfl ?_; clear hA a; intro a hA
 refine S.val hA (R.neq rfl rfl) rfl ?_; clear hA a; intro a hA
 refine S.done ?_
 refine Ends.ite hA rfl (fun hc3 => ?_) (fun hc3 => ?_)
 ·
  refine Ends.seq (Ends.region ?_)
  refine S.val hA (R.move rfl) rfl ?_; clear hA a; intro a hA
  refine S.val hA (R.assign rfl) rfl ?_; clear hA a; intro a hA
  refine S.done ?_
  refine Ends.ret1 Tryd.func48 Tryd.results48 hA rfl ?_
  replace hM := hM.firstN 2
  replace hM : Mem _ _ [pt rb #[.slice (some ⟨g, (nxJ 0 (wordR (X.getD 0 tz) W3).2) * 4, none⟩) (X.length - (nxJ 0 (wordR (X.getD 0 tz) W3).2)) (cap - (nxJ 0 (wordR (X.getD 0 tz) W3).2)), .int .i64 ((X.getD 0 tz).a)] 62, own 77 4 (.slice ((some ⟨g, 0, none⟩)) X.length cap) X.length (tokv X)] _ := hM
  have e1 := pbR_word hc3
  exact ⟨by rw [e1], .inl ⟨by rw [e1]; exact hc3, _, by rw [e1]; exact hM⟩⟩
 ·
  have hw0 := Decidable.not_not.1 hc3
  have hrg := wordR_rng _ _ hw0
  rw [show W3.length = 3 from rfl] at hrg
  have hj1 := hX.wok hj hw0
  rw [nxJ_ok hw0] at hM
  obtain ⟨kd, hkd⟩ : ∃ kd, (wordR (X.getD 0 tz) W3).1 + 1 = kd := ⟨_, rfl⟩
  replace hM : Mem _ _ [pt rb #[.slice (some ⟨g, 1 * 4, none⟩) (X.length - 1) (cap - 1), .int .i64 ((X.getD 0 tz).a)] 62, own 77 4 (.slice ((some ⟨g, 0, none⟩)) X.length cap) X.length (tokv X), pt b1 #[.string (⟨#[75, 78, 65, 80, 83, 65, 67, 75]⟩), .string (⟨#[65, 83, 83, 73, 71, 78, 77, 69, 78, 84]⟩), .string (⟨#[84, 83, 80]⟩)] 9, pt ib cz0 25] _ := hM
  refine Ends.skip (Ends.seq (Ends.region ?_))
  refine S.val hA (R.move rfl) rfl ?_; clear hA a; intro a hA
  refine S.val hA (R.move rfl) rfl ?_; clear hA a; intro a hA
  refine S.val hA (R.addI rfl rfl (r := kd) hkd (by omega)) rfl ?_; clear hA a; intro a hA
  refine S.val hA (R.nilCheck rfl) rfl ?_; clear hA a; intro a hA
  refine S.val hA (R.fieldAddr (q := 0) fi25_0 rfl rfl rfl) rfl ?_; clear hA a; intro a hA
  refine S.store (k := 3) hA hM sz3 rfl rfl rfl rfl rfl ?_; clear hM
  intro w6 hM
  replace hM : Mem _ _ [pt rb #[.slice (some ⟨g, 1 * 4, none⟩) (X.length - 1) (cap - 1), .int .i64 ((X.getD 0 tz).a)] 62, own 77 4 (.slice ((some ⟨g, 0, none⟩)) X.length cap) X.length (tokv X), pt b1 #[.string (⟨#[75, 78, 65, 80, 83, 65, 67, 75]⟩), .string (⟨#[65, 83, 83, 73, 71, 78, 77, 69, 78, 84]⟩), .string (⟨#[84, 83, 80]⟩)] 9, pt ib #[.int .i64 kd, .int .i64 0, .int .i64 0, .slice none 0 0, .slice none 0 0, .slice none 0 0] 25] _ := hM
  refine S.done ?_
  replace hA : St 56 [(0, _), (1, _), (6, _)] a := hA.sub ((.cons rfl (.cons rfl (.cons rfl .nil))))
  refine Ends.seq (Ends.seq (Ends.region ?_))
  refine S.val hA (R.move rfl) rfl ?_; clear hA a; intro a hA
  refine S.val hA (R.nilCheck rfl) rfl ?_; clear hA a; intro a hA
  refine S.val hA (R.fieldAddr (q := 0) fi25_0 rfl rfl rfl) rfl ?_; clear hA a; intro a hA
  refine S.val hA (R.load sz3 rfl (hM.cell (k := 3) rfl rfl)) rfl ?_; clear hA a; intro a hA
  refine S.done ?_
  refine Ends.block (Ends.seq (Ends.region ?_))
  refine S.val hA (R.eql rfl rfl) rfl ?_; clear hA a; intro a hA
  refine S.val hA (R.assign rfl) rfl ?_; clear hA a; intro a hA
  refine S.done ?_
  replace hA : St 56 [(0, _), (1, _), (27, _), (41, _)] a := hA.sub ((.cons rfl (.cons rfl (.cons rfl (.cons rfl .nil)))))
  refine Ends.ite hA rfl (fun hc4 => ?_) (fun hc4 => ?_)
  ·
   have hk1 : kd = 1 := hc4
   subst hk1
   replace hM : Mem _ _ [pt rb #[.slice (some ⟨g, 1 * 4, none⟩) (X.length - 1) (cap - 1), .int .i64 ((X.getD 0 tz).a)] 62, own 77 4 (.slice ((some ⟨g, 0, none⟩)) X.length cap) X.length (tokv X), pt b1 #[.string (⟨#[75, 78, 65, 80, 83, 65, 67, 75]⟩), .string (⟨#[65, 83, 83, 73, 71, 78, 77, 69, 78, 84]⟩), .string (⟨#[84, 83, 80]⟩)] 9, pt ib #[.int .i64 1, .int .i64 0, .int .i64 0, .slice none 0 0, .slice none 0 0, .slice none 0 0] 25] _ := hM
   by_cases hs5 : (itR X 1).1 = 0
   ·
    refine Ends.region ?_
    refine S.val hA (R.move rfl) rfl ?_; clear hA a; intro a hA
    refine S.val hA (R.move rfl) rfl ?_; clear hA a; intro a hA
    replace hM := hM.front (k := 3) rfl
    replace hM := hM.front (k := 2) rfl
    replace hM := hM.front (k := 2) rfl
    replace hM : Mem _ _ [pt rb #[.slice (some ⟨g, 1 * 4, none⟩) (X.length - 1) (cap - 1), .int .i64 ((X.getD 0 tz).a)] 62, own 77 4 (.slice ((some ⟨g, 0, none⟩)) X.length cap) X.length (tokv X), pt ib #[.int .i64 1, .int .i64 0, .int .i64 0, .slice none 0 0, .slice none 0 0, .slice none 0 0] 25, pt b1 #[.string (⟨#[75, 78, 65, 80, 83, 65, 67, 75]⟩), .string (⟨#[65, 83, 83, 73, 71, 78, 77, 69, 78, 84]⟩), .string (⟨#[84, 83, 80]⟩)] 9] _ := hM
    refine S.call hA (R.callF Tryd.func62 rfl rfl rfl) rfl (items06_ok g rb ib 1 cap ((X.getD 0 tz).a) X hX (by omega) hcap 1 hs5 _ (hM.hereN 3)) ?_; clear hA a
    rintro e w7 ⟨rfl, atx, wa, wc, va, vc, n, hcn, hn1, hn64, hn⟩
    replace hM : Mem _ _ [pt rb #[.slice (some ⟨g, (itR X 1).2 * 4, none⟩) (X.length - (itR X 1).2) (cap - (itR X 1).2), .int .i64 atx] 62, own 77 4 (.slice ((some ⟨g, 0, none⟩)) X.length cap) X.length (tokv X), pt ib #[.int .i64 1, .int .i64 ((n : Int)), .int .i64 ((X.getD 2 tz).n), .slice wa ((itI X 3 n).length) wc, .slice va ((itI X 4 n).length) vc, .slice none 0 0] 25, own 3 1 (.slice wa (((itI X 3 n)).length) wc) (((itI X 3 n)).length) (((itI X 3 n)).map (Value.int .i64)), own 3 1 (.slice va (((itI X 4 n)).length) vc) (((itI X 4 n)).length) (((itI X 4 n)).map (Value.int .i64)), pt b1 #[.string (⟨#[75, 78, 65, 80, 83, 65, 67, 75]⟩), .string (⟨#[65, 83, 83, 73, 71, 78, 77, 69, 78, 84]⟩), .string (⟨#[84, 83, 80]⟩)] 9] _ := hM.callL 3 hn; clear hn
    refine ⟨.int .i64 0, rfl, fun a hA => ?_⟩
    refine S.val hA (R.assign rfl) rfl ?_; clear hA a; intro a hA
    refine S.done ?_
    replace hA : St 56 [(0, _), (6, _)] a := hA.sub ((.cons rfl (.cons rfl .nil)))
    refine Ends.inBlock (Ends.seq (Ends.seq (Ends.region ?_)))
    refine S.val hA (R.move rfl) rfl ?_; clear hA a; intro a hA
    refine S.val hA (R.ff (R.neq rfl rfl) (by first | decide | simp | omega)) rfl ?_; clear hA a; intro a hA
    refine S.done ?_
    refine Ends.condF hA rfl ?_
    refine Ends.skip (Ends.seq ?_)
    have hjq : (itR X 1).2 < X.length := hX.itE hj1 hs5
    refine Ends.region ?_
    refine S.val hA (R.move rfl) rfl ?_; clear hA a; intro a hA
    refine S.call hA (R.callF Tryd.func66 rfl rfl rfl) rfl (end06 g rb ((itR X 1).2) cap atx X hX (by omega) hcap _ (hM.hereN 2)) ?_; clear hA a
    rintro e w8 ⟨rfl, hn⟩
    replace hM : Mem _ _ [pt rb #[.slice (some ⟨g, (itR X 1).2 * 4, none⟩) (X.length - (itR X 1).2) (cap - (itR X 1).2), .int .i64 ((X.getD ((itR X 1).2) tz).a)] 62, own 77 4 (.slice ((some ⟨g, 0, none⟩)) X.length cap) X.length (tokv X), pt ib #[.int .i64 1, .int .i64 ((n : Int)), .int .i64 ((X.getD 2 tz).n), .slice wa ((itI X 3 n).length) wc, .slice va ((itI X 4 n).length) vc, .slice none 0 0] 25, own 3 1 (.slice wa (((itI X 3 n)).length) wc) (((itI X 3 n)).length) (((itI X 3 n)).map (Value.int .i64)), own 3 1 (.slice va (((itI X 4 n)).length) vc) (((itI X 4 n)).length) (((itI X 4 n)).map (Value.int .i64)), pt b1 #[.string (⟨#[75, 78, 65, 80, 83, 65, 67, 75]⟩), .string (⟨#[65, 83, 83, 73, 71, 78, 77, 69, 78, 84]⟩), .string (⟨#[84, 83, 80]⟩)] 9] _ := hM.callL 2 hn; clear hn
    refine ⟨.int .i64 ((endR (X.getD ((itR X 1).2) tz))), rfl, fun a hA => ?_⟩
    refine S.val hA (R.assign rfl) rfl ?_; clear hA a; intro a hA
    refine S.done ?_
    replace hA : St 56 [(4, _)] a := hA.sub ((.cons rfl .nil))
    refine Ends.ret1 Tryd.func48 Tryd.results48 hA rfl ?_
    have e1 := (pbR_in hw0 hkd).trans ((congrArg (finR X) (bodR_it)).trans (finR_end hs5))
    have hM1 := hM
    replace hM := (hM.bundleNil (e := 3)).ownNil 22 1
    replace hM : Mem _ _ [own 22 1 (.slice none 0 0) 0 ((([] : List OwR).map orV)), bundle (([] : List OwR).map (orC 3)), pt rb #[.slice (some ⟨g, (itR X 1).2 * 4, none⟩) (X.length - (itR X 1).2) (cap - (itR X 1).2), .int .i64 ((X.getD ((itR X 1).2) tz).a)] 62, own 77 4 (.slice ((some ⟨g, 0, none⟩)) X.length cap) X.length (tokv X), pt ib #[.int .i64 1, .int .i64 ((n : Int)), .int .i64 ((X.getD 2 tz).n), .slice wa ((itI X 3 n).length) wc, .slice va ((itI X 4 n).length) vc, .slice none 0 0] 25, own 3 1 (.slice wa (((itI X 3 n)).length) wc) (((itI X 3 n)).length) (((itI X 3 n)).map (Value.int .i64)), own 3 1 (.slice va (((itI X 4 n)).length) vc) (((itI X 4 n)).length) (((itI X 4 n)).map (Value.int .i64)), pt b1 #[.string (⟨#[75, 78, 65, 80, 83, 65, 67, 75]⟩), .string (⟨#[65, 83, 83, 73, 71, 78, 77, 69, 78, 84]⟩), .string (⟨#[84, 83, 80]⟩)] 9] _ := hM
    replace hM := hM.front (k := 1) rfl
    replace hM := hM.front (k := 1) rfl
    replace hM := hM.front (k := 6) rfl
    replace hM := hM.front (k := 6) rfl
    replace hM := hM.front (k := 6) rfl
    replace hM := hM.front (k := 6) rfl
    replace hM := hM.front (k := 6) rfl
    replace hM : Mem _ _ [pt rb #[.slice (some ⟨g, (itR X 1).2 * 4, none⟩) (X.length - (itR X 1).2) (cap - (itR X 1).2), .int .i64 ((X.getD ((itR X 1).2) tz).a)] 62, own 77 4 (.slice ((some ⟨g, 0, none⟩)) X.length cap) X.length (tokv X), pt ib #[.int .i64 1, .int .i64 ((n : Int)), .int .i64 ((X.getD 2 tz).n), .slice wa ((itI X 3 n).length) wc, .slice va ((itI X 4 n).length) vc, .slice none 0 0] 25, own 3 1 (.slice wa (((itI X 3 n)).length) wc) (((itI X 3 n)).length) (((itI X 3 n)).map (Value.int .i64)), own 3 1 (.slice va (((itI X 4 n)).length) vc) (((itI X 4 n)).length) (((itI X 4 n)).map (Value.int .i64)), own 22 1 (.slice none 0 0) 0 ((([] : List OwR).map orV)), bundle (([] : List OwR).map (orC 3)), pt b1 #[.string (⟨#[75, 78, 65, 80, 83, 65, 67, 75]⟩), .string (⟨#[65, 83, 83, 73, 71, 78, 77, 69, 78, 84]⟩), .string (⟨#[84, 83, 80]⟩)] 9] _ := hM
    replace hM := hM.firstN 7
    replace hM : Mem _ _ [pt rb #[.slice (some ⟨g, (itR X 1).2 * 4, none⟩) (X.length - (itR X 1).2) (cap - (itR X 1).2), .int .i64 ((X.getD ((itR X 1).2) tz).a)] 62, own 77 4 (.slice ((some ⟨g, 0, none⟩)) X.length cap) X.length (tokv X), pt ib #[.int .i64 1, .int .i64 ((n : Int)), .int .i64 ((X.getD 2 tz).n), .slice wa ((itI X 3 n).length) wc, .slice va ((itI X 4 n).length) vc, .slice none 0 0] 25, own 3 1 (.slice wa (((itI X 3 n)).length) wc) (((itI X 3 n)).length) (((itI X 3 n)).map (Value.int .i64)), own 3 1 (.slice va (((itI X 4 n)).length) vc) (((itI X 4 n)).length) (((itI X 4 n)).map (Value.int .i64)), own 22 1 (.slice none 0 0) 0 ((([] : List OwR).map orV)), bundle (([] : List OwR).map (orC 3))] _ := hM
    replace hM := Mem.packI (G0 := (⟨1, (n : Int), (X.getD 2 tz).n, itI X 3 n, itI X 4 n, []⟩ : Ins)) (eI := 3) (eR := 22) (aw := wa) (cw := wc) (av := va) (cv := vc) (ac := none) (cc := 0) (rs := []) (pbI_it hkd hcn) hM
    by_cases h9 : (endR (X.getD ((itR X 1).2) tz)) = 0
    · exact ⟨by rw [e1], .inr ⟨by rw [e1]; exact h9, _, _, wa, wc, va, vc, none, 0, [], by rw [← pbI_it hkd hcn]; rfl, hM⟩⟩
    ·
     replace hM1 := hM1.firstN 2
     exact ⟨by rw [e1], .inl ⟨by rw [e1]; exact h9, _, by rw [e1]; exact hM1⟩⟩
   ·
    refine Ends.region ?_
    refine S.val hA (R.move rfl) rfl ?_; clear hA a; intro a hA
    refine S.val hA (R.move rfl) rfl ?_; clear hA a; intro a hA
    replace hM := hM.front (k := 3) rfl
    replace hM := hM.front (k := 2) rfl
    replace hM := hM.front (k := 2) rfl
    replace hM : Mem _ _ [pt rb #[.slice (some ⟨g, 1 * 4, none⟩) (X.length - 1) (cap - 1), .int .i64 ((X.getD 0 tz).a)] 62, own 77 4 (.slice ((some ⟨g, 0, none⟩)) X.length cap) X.length (tokv X), pt ib #[.int .i64 1, .int .i64 0, .int .i64 0, .slice none 0 0, .slice none 0 0, .slice none 0 0] 25, pt b1 #[.string (⟨#[75, 78, 65, 80, 83, 65, 67, 75]⟩), .string (⟨#[65, 83, 83, 73, 71, 78, 77, 69, 78, 84]⟩), .string (⟨#[84, 83, 80]⟩)] 9] _ := hM
    refine S.call hA (R.callF Tryd.func62 rfl rfl rfl) rfl (items06_bad g rb ib 1 cap ((X.getD 0 tz).a) X hX (by omega) hcap 1 hs5 _ (hM.hereN 3)) ?_; clear hA a
    rintro e w9 ⟨rfl, jx6, hn⟩
    replace hM : Mem _ _ [pt rb #[.slice (some ⟨g, jx6 * 4, none⟩) (X.length - jx6) (cap - jx6), .int .i64 (((X.getD (itR X 1).2 tz).a))] 62, own 77 4 (.slice ((some ⟨g, 0, none⟩)) X.length cap) X.length (tokv X), pt b1 #[.string (⟨#[75, 78, 65, 80, 83, 65, 67, 75]⟩), .string (⟨#[65, 83, 83, 73, 71, 78, 77, 69, 78, 84]⟩), .string (⟨#[84, 83, 80]⟩)] 9] _ := hM.callL 3 hn; clear hn
    refine ⟨.int .i64 ((itR X 1).1), rfl, fun a hA => ?_⟩
    refine S.val hA (R.assign rfl) rfl ?_; clear hA a; intro a hA
    refine S.done ?_
    replace hA : St 56 [(0, _), (6, _)] a := hA.sub ((.cons rfl (.cons rfl .nil)))
    refine Ends.inBlock (Ends.seq (Ends.seq (Ends.region ?_)))
    refine S.val hA (R.move rfl) rfl ?_; clear hA a; intro a hA
    refine S.val hA (R.neq rfl rfl) rfl ?_; clear hA a; intro a hA
    refine S.done ?_
    refine Ends.ite hA rfl (fun hc7 => ?_) (fun hc7 => ?_)
    ·
     refine Ends.seq (Ends.region ?_)
     refine S.val hA (R.move rfl) rfl ?_; clear hA a; intro a hA
     refine S.val hA (R.assign rfl) rfl ?_; clear hA a; intro a hA
     refine S.done ?_
     replace hA : St 56 [(0, _), (4, _)] a := hA.sub ((.cons rfl (.cons rfl .nil)))
     refine Ends.ret1 Tryd.func48 Tryd.results48 hA rfl ?_
     replace hM := hM.firstN 2
     replace hM : Mem _ _ [pt rb #[.slice (some ⟨g, jx6 * 4, none⟩) (X.length - jx6) (cap - jx6), .int .i64 (((X.getD (itR X 1).2 tz).a))] 62, own 77 4 (.slice ((some ⟨g, 0, none⟩)) X.length cap) X.length (tokv X)] _ := hM
     have e1 := (pbR_in hw0 hkd).trans ((congrArg (finR X) (bodR_it)).trans (finR_err hs5))
     exact ⟨by rw [e1], .inl ⟨by rw [e1]; exact hs5, _, by rw [e1]; exact hM⟩⟩
    · exact absurd (by assumption) hc7
  ·
   have hk1 : ¬ kd = 1 := hc4
   refine Ends.seq (Ends.region ?_)
   refine S.val hA (R.eql rfl rfl) rfl ?_; clear hA a; intro a hA
   refine S.val hA (R.assign rfl) rfl ?_; clear hA a; intro a hA
   refine S.done ?_
   refine Ends.ite hA rfl (fun hc8 => ?_) (fun hc8 => ?_)
   ·
    have hk3 : kd = 3 := hc8
    subst hk3
    replace hM : Mem _ _ [pt rb #[.slice (some ⟨g, 1 * 4, none⟩) (X.length - 1) (cap - 1), .int .i64 ((X.getD 0 tz).a)] 62, own 77 4 (.slice ((some ⟨g, 0, none⟩)) X.length cap) X.length (tokv X), pt b1 #[.string (⟨#[75, 78, 65, 80, 83, 65, 67, 75]⟩), .string (⟨#[65, 83, 83, 73, 71, 78, 77, 69, 78, 84]⟩), .string (⟨#[84, 83, 80]⟩)] 9, pt ib #[.int .i64 3, .int .i64 0, .int .i64 0, .slice none 0 0, .slice none 0 0, .slice none 0 0] 25] _ := hM
    by_cases hs9 : (toR X 1).1 = 0
    ·
     refine Ends.region ?_
     refine S.val hA (R.move rfl) rfl ?_; clear hA a; intro a hA
     refine S.val hA (R.move rfl) rfl ?_; clear hA a; intro a hA
     replace hM := hM.front (k := 3) rfl
     replace hM := hM.front (k := 2) rfl
     replace hM := hM.front (k := 2) rfl
     replace hM : Mem _ _ [pt rb #[.slice (some ⟨g, 1 * 4, none⟩) (X.length - 1) (cap - 1), .int .i64 ((X.getD 0 tz).a)] 62, own 77 4 (.slice ((some ⟨g, 0, none⟩)) X.length cap) X.length (tokv X), pt ib #[.int .i64 3, .int .i64 0, .int .i64 0, .slice none 0 0, .slice none 0 0, .slice none 0 0] 25, pt b1 #[.string (⟨#[75, 78, 65, 80, 83, 65, 67, 75]⟩), .string (⟨#[65, 83, 83, 73, 71, 78, 77, 69, 78, 84]⟩), .string (⟨#[84, 83, 80]⟩)] 9] _ := hM
     refine S.call hA (R.callF Tryd.func63 rfl rfl rfl) rfl (tour06_ok g rb ib 1 cap ((X.getD 0 tz).a) X hX (by omega) hcap hs9 _ (hM.hereN 3)) ?_; clear hA a
     rintro e w10 ⟨rfl, atx, gb, rs, n, hcn, hn1, hn24, hYs, hn⟩
     replace hM : Mem _ _ [pt rb #[.slice (some ⟨g, (toR X 1).2 * 4, none⟩) (X.length - (toR X 1).2) (cap - (toR X 1).2), .int .i64 atx] 62, own 77 4 (.slice ((some ⟨g, 0, none⟩)) X.length cap) X.length (tokv X), pt ib #[.int .i64 3, .int .i64 ((n : Int)), .int .i64 0, .slice none 0 0, .slice none 0 0, .slice ((some ⟨gb, 0, none⟩)) n n] 25, own 22 1 (.slice ((some ⟨gb, 0, none⟩)) n n) n ((rs.map orV)), bundle (rs.map (orC 3)), pt b1 #[.string (⟨#[75, 78, 65, 80, 83, 65, 67, 75]⟩), .string (⟨#[65, 83, 83, 73, 71, 78, 77, 69, 78, 84]⟩), .string (⟨#[84, 83, 80]⟩)] 9] _ := hM.callL 3 hn; clear hn
     refine ⟨.int .i64 0, rfl, fun a hA => ?_⟩
     refine S.val hA (R.assign rfl) rfl ?_; clear hA a; intro a hA
     refine S.done ?_
     replace hA : St 56 [(0, _), (6, _)] a := hA.sub ((.cons rfl (.cons rfl .nil)))
     refine Ends.inBlock (Ends.seq (Ends.seq (Ends.region ?_)))
     refine S.val hA (R.move rfl) rfl ?_; clear hA a; intro a hA
     refine S.val hA (R.ff (R.neq rfl rfl) (by first | decide | simp | omega)) rfl ?_; clear hA a; intro a hA
     refine S.done ?_
     refine Ends.condF hA rfl ?_
     refine Ends.skip (Ends.seq ?_)
     have hjq : (toR X 1).2 < X.length := hX.toE hj1 hs9
     refine Ends.region ?_
     refine S.val hA (R.move rfl) rfl ?_; clear hA a; intro a hA
     refine S.call hA (R.callF Tryd.func66 rfl rfl rfl) rfl (end06 g rb ((toR X 1).2) cap atx X hX (by omega) hcap _ (hM.hereN 2)) ?_; clear hA a
     rintro e w11 ⟨rfl, hn⟩
     replace hM : Mem _ _ [pt rb #[.slice (some ⟨g, (toR X 1).2 * 4, none⟩) (X.length - (toR X 1).2) (cap - (toR X 1).2), .int .i64 ((X.getD ((toR X 1).2) tz).a)] 62, own 77 4 (.slice ((some ⟨g, 0, none⟩)) X.length cap) X.length (tokv X), pt ib #[.int .i64 3, .int .i64 ((n : Int)), .int .i64 0, .slice none 0 0, .slice none 0 0, .slice ((some ⟨gb, 0, none⟩)) n n] 25, own 22 1 (.slice ((some ⟨gb, 0, none⟩)) n n) n ((rs.map orV)), bundle (rs.map (orC 3)), pt b1 #[.string (⟨#[75, 78, 65, 80, 83, 65, 67, 75]⟩), .string (⟨#[65, 83, 83, 73, 71, 78, 77, 69, 78, 84]⟩), .string (⟨#[84, 83, 80]⟩)] 9] _ := hM.callL 2 hn; clear hn
     refine ⟨.int .i64 ((endR (X.getD ((toR X 1).2) tz))), rfl, fun a hA => ?_⟩
     refine S.val hA (R.assign rfl) rfl ?_; clear hA a; intro a hA
     refine S.done ?_
     replace hA : St 56 [(4, _)] a := hA.sub ((.cons rfl .nil))
     refine Ends.ret1 Tryd.func48 Tryd.results48 hA rfl ?_
     have e1 := (pbR_in hw0 hkd).trans ((congrArg (finR X) (bodR_to)).trans (finR_end hs9))
     have hM1 := hM
     replace hM := (hM.ownNil 3 1).ownNil 3 1
     replace hM : Mem _ _ [own 3 1 (.slice none ((([] : List Int)).length) 0) ((([] : List Int)).length) ((([] : List Int)).map (Value.int .i64)), own 3 1 (.slice none ((([] : List Int)).length) 0) ((([] : List Int)).length) ((([] : List Int)).map (Value.int .i64)), pt rb #[.slice (some ⟨g, (toR X 1).2 * 4, none⟩) (X.length - (toR X 1).2) (cap - (toR X 1).2), .int .i64 ((X.getD ((toR X 1).2) tz).a)] 62, own 77 4 (.slice ((some ⟨g, 0, none⟩)) X.length cap) X.length (tokv X), pt ib #[.int .i64 3, .int .i64 ((n : Int)), .int .i64 0, .slice none 0 0, .slice none 0 0, .slice ((some ⟨gb, 0, none⟩)) n n] 25, own 22 1 (.slice ((some ⟨gb, 0, none⟩)) n n) n ((rs.map orV)), bundle (rs.map (orC 3)), pt b1 #[.string (⟨#[75, 78, 65, 80, 83, 65, 67, 75]⟩), .string (⟨#[65, 83, 83, 73, 71, 78, 77, 69, 78, 84]⟩), .string (⟨#[84, 83, 80]⟩)] 9] _ := hM
     replace hM := hM.front (k := 6) rfl
     replace hM := hM.front (k := 6) rfl
     replace hM := hM.front (k := 3) rfl
     replace hM := hM.front (k := 3) rfl
     replace hM := hM.front (k := 6) rfl
     replace hM := hM.front (k := 6) rfl
     replace hM := hM.front (k := 6) rfl
     replace hM : Mem _ _ [pt rb #[.slice (some ⟨g, (toR X 1).2 * 4, none⟩) (X.length - (toR X 1).2) (cap - (toR X 1).2), .int .i64 ((X.getD ((toR X 1).2) tz).a)] 62, own 77 4 (.slice ((some ⟨g, 0, none⟩)) X.length cap) X.length (tokv X), pt ib #[.int .i64 3, .int .i64 ((n : Int)), .int .i64 0, .slice none 0 0, .slice none 0 0, .slice ((some ⟨gb, 0, none⟩)) n n] 25, own 3 1 (.slice none ((([] : List Int)).length) 0) ((([] : List Int)).length) ((([] : List Int)).map (Value.int .i64)), own 3 1 (.slice none ((([] : List Int)).length) 0) ((([] : List Int)).length) ((([] : List Int)).map (Value.int .i64)), own 22 1 (.slice ((some ⟨gb, 0, none⟩)) n n) n ((rs.map orV)), bundle (rs.map (orC 3)), pt b1 #[.string (⟨#[75, 78, 65, 80, 83, 65, 67, 75]⟩), .string (⟨#[65, 83, 83, 73, 71, 78, 77, 69, 78, 84]⟩), .string (⟨#[84, 83, 80]⟩)] 9] _ := hM
     replace hM := hM.firstN 7
     replace hM : Mem _ _ [pt rb #[.slice (some ⟨g, (toR X 1).2 * 4, none⟩) (X.length - (toR X 1).2) (cap - (toR X 1).2), .int .i64 ((X.getD ((toR X 1).2) tz).a)] 62, own 77 4 (.slice ((some ⟨g, 0, none⟩)) X.length cap) X.length (tokv X), pt ib #[.int .i64 3, .int .i64 ((n : Int)), .int .i64 0, .slice none 0 0, .slice none 0 0, .slice ((some ⟨gb, 0, none⟩)) n n] 25, own 3 1 (.slice none ((([] : List Int)).length) 0) ((([] : List Int)).length) ((([] : List Int)).map (Value.int .i64)), own 3 1 (.slice none ((([] : List Int)).length) 0) ((([] : List Int)).length) ((([] : List Int)).map (Value.int .i64)), own 22 1 (.slice ((some ⟨gb, 0, none⟩)) n n) n ((rs.map orV)), bundle (rs.map (orC 3))] _ := hM
     have hlr := rows_len hYs
     rw [← hlr] at hM
     have hpf := pbI_full hkd hcn hYs
     rw [← hlr] at hpf
     replace hM := Mem.packI (G0 := (⟨3, (rs.length : Int), 0, [], [], rs.map (·.Y)⟩ : Ins)) (eI := 3) (eR := 22) (aw := none) (cw := 0) (av := none) (cv := 0) (ac := some ⟨gb, 0, none⟩) (cc := rs.length) (rs := rs) hpf hM
     by_cases h9 : (endR (X.getD ((toR X 1).2) tz)) = 0
     · exact ⟨by rw [e1], .inr ⟨by rw [e1]; exact h9, _, _, none, 0, none, 0, _, _, rs, by rw [← hpf], hM⟩⟩
     ·
      replace hM1 := hM1.firstN 2
      exact ⟨by rw [e1], .inl ⟨by rw [e1]; exact h9, _, by rw [e1]; exact hM1⟩⟩
    ·
     refine Ends.region ?_
     refine S.val hA (R.move rfl) rfl ?_; clear hA a; intro a hA
     refine S.val hA (R.move rfl) rfl ?_; clear hA a; intro a hA
     replace hM := hM.front (k := 3) rfl
     replace hM := hM.front (k := 2) rfl
     replace hM := hM.front (k := 2) rfl
     replace hM : Mem _ _ [pt rb #[.slice (some ⟨g, 1 * 4, none⟩) (X.length - 1) (cap - 1), .int .i64 ((X.getD 0 tz).a)] 62, own 77 4 (.slice ((some ⟨g, 0, none⟩)) X.length cap) X.length (tokv X), pt ib #[.int .i64 3, .int .i64 0, .int .i64 0, .slice none 0 0, .slice none 0 0, .slice none 0 0] 25, pt b1 #[.string (⟨#[75, 78, 65, 80, 83, 65, 67, 75]⟩), .string (⟨#[65, 83, 83, 73, 71, 78, 77, 69, 78, 84]⟩), .string (⟨#[84, 83, 80]⟩)] 9] _ := hM
     refine S.call hA (R.callF Tryd.func63 rfl rfl rfl) rfl (tour06_bad g rb ib 1 cap ((X.getD 0 tz).a) X hX (by omega) hcap hs9 _ (hM.hereN 3)) ?_; clear hA a
     rintro e w12 ⟨rfl, jx10, hn⟩
     replace hM : Mem _ _ [pt rb #[.slice (some ⟨g, jx10 * 4, none⟩) (X.length - jx10) (cap - jx10), .int .i64 (((X.getD (toR X 1).2 tz).a))] 62, own 77 4 (.slice ((some ⟨g, 0, none⟩)) X.length cap) X.length (tokv X), pt b1 #[.string (⟨#[75, 78, 65, 80, 83, 65, 67, 75]⟩), .string (⟨#[65, 83, 83, 73, 71, 78, 77, 69, 78, 84]⟩), .string (⟨#[84, 83, 80]⟩)] 9] _ := hM.callL 3 hn; clear hn
     refine ⟨.int .i64 ((toR X 1).1), rfl, fun a hA => ?_⟩
     refine S.val hA (R.assign rfl) rfl ?_; clear hA a; intro a hA
     refine S.done ?_
     replace hA : St 56 [(0, _), (6, _)] a := hA.sub ((.cons rfl (.cons rfl .nil)))
     refine Ends.inBlock (Ends.seq (Ends.seq (Ends.region ?_)))
     refine S.val hA (R.move rfl) rfl ?_; clear hA a; intro a hA
     refine S.val hA (R.neq rfl rfl) rfl ?_; clear hA a; intro a hA
     refine S.done ?_
     refine Ends.ite hA rfl (fun hc11 => ?_) (fun hc11 => ?_)
     ·
      refine Ends.seq (Ends.region ?_)
      refine S.val hA (R.move rfl) rfl ?_; clear hA a; intro a hA
      refine S.val hA (R.assign rfl) rfl ?_; clear hA a; intro a hA
      refine S.done ?_
      replace hA : St 56 [(0, _), (4, _)] a := hA.sub ((.cons rfl (.cons rfl .nil)))
      refine Ends.ret1 Tryd.func48 Tryd.results48 hA rfl ?_
      replace hM := hM.firstN 2
      replace hM : Mem _ _ [pt rb #[.slice (some ⟨g, jx10 * 4, none⟩) (X.length - jx10) (cap - jx10), .int .i64 (((X.getD (toR X 1).2 tz).a))] 62, own 77 4 (.slice ((some ⟨g, 0, none⟩)) X.length cap) X.length (tokv X)] _ := hM
      have e1 := (pbR_in hw0 hkd).trans ((congrArg (finR X) (bodR_to)).trans (finR_err hs9))
      exact ⟨by rw [e1], .inl ⟨by rw [e1]; exact hs9, _, by rw [e1]; exact hM⟩⟩
     · exact absurd (by assumption) hc11
   ·
    have hk3 : ¬ kd = 3 := hc8
    refine Ends.seq (Ends.region ?_)
    refine S.val hA (R.move rfl) rfl ?_; clear hA a; intro a hA
    refine S.val hA (R.move rfl) rfl ?_; clear hA a; intro a hA
    refine S.call hA (R.callF Tryd.func64 rfl rfl rfl) rfl (count06 g rb 1 cap ((X.getD 0 tz).a) X hX (by omega) hcap 24 _ (hM.hereN 2)) ?_; clear hA a
    rintro e w13 ⟨rfl, hn⟩
    replace hM : Mem _ _ [pt rb #[.slice (some ⟨g, (nxJ 1 (numR (X.getD 1 tz) 24)) * 4, none⟩) (X.length - (nxJ 1 (numR (X.getD 1 tz) 24))) (cap - (nxJ 1 (numR (X.getD 1 tz) 24))), .int .i64 ((X.getD 1 tz).a)] 62, own 77 4 (.slice ((some ⟨g, 0, none⟩)) X.length cap) X.length (tokv X), pt b1 #[.string (⟨#[75, 78, 65, 80, 83, 65, 67, 75]⟩), .string (⟨#[65, 83, 83, 73, 71, 78, 77, 69, 78, 84]⟩), .string (⟨#[84, 83, 80]⟩)] 9, pt ib #[.int .i64 kd, .int .i64 0, .int .i64 0, .slice none 0 0, .slice none 0 0, .slice none 0 0] 25] _ := hM.callL 2 hn; clear hn
    refine ⟨.tuple #[.int .i64 ((numN (X.getD 1 tz) 24)), .int .i64 ((cntR (X.getD 1 tz) 24))], rfl, fun a hA => ?_⟩
    refine S.val hA (R.move rfl) rfl ?_; clear hA a; intro a hA
    refine S.val hA (R.extract (v := .int .i64 ((numN (X.getD 1 tz) 24))) rfl rfl) rfl ?_; clear hA a; intro a hA
    refine S.val hA (R.extract (v := .int .i64 ((cntR (X.getD 1 tz) 24))) rfl rfl) rfl ?_; clear hA a; intro a hA
    refine S.val hA (R.nilCheck rfl) rfl ?_; clear hA a; intro a hA
    refine S.val hA (R.fieldAddr (q := 1) fi25_1 rfl rfl rfl) rfl ?_; clear hA a; intro a hA
    refine S.store (k := 3) hA hM sz3 rfl rfl rfl rfl rfl ?_; clear hM
    intro w14 hM
    replace hM : Mem _ _ [pt rb #[.slice (some ⟨g, (nxJ 1 (numR (X.getD 1 tz) 24)) * 4, none⟩) (X.length - (nxJ 1 (numR (X.getD 1 tz) 24))) (cap - (nxJ 1 (numR (X.getD 1 tz) 24))), .int .i64 ((X.getD 1 tz).a)] 62, own 77 4 (.slice ((some ⟨g, 0, none⟩)) X.length cap) X.length (tokv X), pt b1 #[.string (⟨#[75, 78, 65, 80, 83, 65, 67, 75]⟩), .string (⟨#[65, 83, 83, 73, 71, 78, 77, 69, 78, 84]⟩), .string (⟨#[84, 83, 80]⟩)] 9, pt ib #[.int .i64 kd, .int .i64 ((numN (X.getD 1 tz) 24)), .int .i64 0, .slice none 0 0, .slice none 0 0, .slice none 0 0] 25] _ := hM
    refine S.val hA (R.assign rfl) rfl ?_; clear hA a; intro a hA
    refine S.done ?_
    replace hA : St 56 [(0, _), (1, _), (6, _)] a := hA.sub ((.cons rfl (.cons rfl (.cons rfl .nil))))
    refine Ends.seq (Ends.region ?_)
    refine S.val hA (R.move rfl) rfl ?_; clear hA a; intro a hA
    refine S.val hA (R.eql rfl rfl) rfl ?_; clear hA a; intro a hA
    refine S.done ?_
    refine Ends.ite hA rfl (fun hc12 => ?_) (fun hc12 => ?_)
    ·
     obtain ⟨n, hn, hcn, hn1, hn24_, hr0⟩ := hX.ct hc12
     have hc0 := hc12
     have hj2 := hX.ok hj1 hr0
     have hn24 : n ≤ 24 := by omega
     rw [hn] at hM
     have hdk := dgk_no (n := n) hk3
     rw [nxJ_ok hr0] at hM
     replace hM : Mem _ _ [pt rb #[.slice (some ⟨g, 2 * 4, none⟩) (X.length - 2) (cap - 2), .int .i64 ((X.getD 1 tz).a)] 62, own 77 4 (.slice ((some ⟨g, 0, none⟩)) X.length cap) X.length (tokv X), pt b1 #[.string (⟨#[75, 78, 65, 80, 83, 65, 67, 75]⟩), .string (⟨#[65, 83, 83, 73, 71, 78, 77, 69, 78, 84]⟩), .string (⟨#[84, 83, 80]⟩)] 9, pt ib #[.int .i64 kd, .int .i64 ((n : Int)), .int .i64 0, .slice none 0 0, .slice none 0 0, .slice none 0 0] 25] _ := hM
     by_cases hs13 : (nuR (dgk kd n) X 2 (n * n)).1 = 0
     ·
      refine Ends.region ?_
      refine S.val hA (R.move rfl) rfl ?_; clear hA a; intro a hA
      refine S.val hA (R.move rfl) rfl ?_; clear hA a; intro a hA
      replace hM := hM.front (k := 3) rfl
      replace hM := hM.front (k := 2) rfl
      replace hM := hM.front (k := 2) rfl
      replace hM : Mem _ _ [pt rb #[.slice (some ⟨g, 2 * 4, none⟩) (X.length - 2) (cap - 2), .int .i64 ((X.getD 1 tz).a)] 62, own 77 4 (.slice ((some ⟨g, 0, none⟩)) X.length cap) X.length (tokv X), pt ib #[.int .i64 kd, .int .i64 ((n : Int)), .int .i64 0, .slice none 0 0, .slice none 0 0, .slice none 0 0] 25, pt b1 #[.string (⟨#[75, 78, 65, 80, 83, 65, 67, 75]⟩), .string (⟨#[65, 83, 83, 73, 71, 78, 77, 69, 78, 84]⟩), .string (⟨#[84, 83, 80]⟩)] 9] _ := hM
      refine S.call hA (R.callF Tryd.func65 rfl rfl rfl) rfl (rows06_ok g rb ib 2 cap ((X.getD 1 tz).a) X hX (by omega) hcap kd n hn1 hn24 hs13 _ (hM.hereN 3)) ?_; clear hA a
      rintro e w15 ⟨rfl, atx, gb, rs, hYs, hn⟩
      replace hM : Mem _ _ [pt rb #[.slice (some ⟨g, (nuR (dgk kd n) X 2 (n * n)).2 * 4, none⟩) (X.length - (nuR (dgk kd n) X 2 (n * n)).2) (cap - (nuR (dgk kd n) X 2 (n * n)).2), .int .i64 atx] 62, own 77 4 (.slice ((some ⟨g, 0, none⟩)) X.length cap) X.length (tokv X), pt ib #[.int .i64 kd, .int .i64 ((n : Int)), .int .i64 0, .slice none 0 0, .slice none 0 0, .slice ((some ⟨gb, 0, none⟩)) n n] 25, own 22 1 (.slice ((some ⟨gb, 0, none⟩)) n n) n ((rs.map orV)), bundle (rs.map (orC 3)), pt b1 #[.string (⟨#[75, 78, 65, 80, 83, 65, 67, 75]⟩), .string (⟨#[65, 83, 83, 73, 71, 78, 77, 69, 78, 84]⟩), .string (⟨#[84, 83, 80]⟩)] 9] _ := hM.callL 3 hn; clear hn
      refine ⟨.int .i64 0, rfl, fun a hA => ?_⟩
      refine S.val hA (R.assign rfl) rfl ?_; clear hA a; intro a hA
      refine S.done ?_
      replace hA : St 56 [(0, _), (6, _)] a := hA.sub ((.cons rfl (.cons rfl .nil)))
      refine Ends.inBlock (Ends.seq (Ends.seq (Ends.region ?_)))
      refine S.val hA (R.move rfl) rfl ?_; clear hA a; intro a hA
      refine S.val hA (R.ff (R.neq rfl rfl) (by first | decide | simp | omega)) rfl ?_; clear hA a; intro a hA
      refine S.done ?_
      refine Ends.condF hA rfl ?_
      refine Ends.skip (Ends.seq ?_)
      have hjq : (nuR (dgk kd n) X 2 (n * n)).2 < X.length := hX.nuE hj2 hs13
      refine Ends.region ?_
      refine S.val hA (R.move rfl) rfl ?_; clear hA a; intro a hA
      refine S.call hA (R.callF Tryd.func66 rfl rfl rfl) rfl (end06 g rb ((nuR (dgk kd n) X 2 (n * n)).2) cap atx X hX (by omega) hcap _ (hM.hereN 2)) ?_; clear hA a
      rintro e w16 ⟨rfl, hn⟩
      replace hM : Mem _ _ [pt rb #[.slice (some ⟨g, (nuR (dgk kd n) X 2 (n * n)).2 * 4, none⟩) (X.length - (nuR (dgk kd n) X 2 (n * n)).2) (cap - (nuR (dgk kd n) X 2 (n * n)).2), .int .i64 ((X.getD ((nuR (dgk kd n) X 2 (n * n)).2) tz).a)] 62, own 77 4 (.slice ((some ⟨g, 0, none⟩)) X.length cap) X.length (tokv X), pt ib #[.int .i64 kd, .int .i64 ((n : Int)), .int .i64 0, .slice none 0 0, .slice none 0 0, .slice ((some ⟨gb, 0, none⟩)) n n] 25, own 22 1 (.slice ((some ⟨gb, 0, none⟩)) n n) n ((rs.map orV)), bundle (rs.map (orC 3)), pt b1 #[.string (⟨#[75, 78, 65, 80, 83, 65, 67, 75]⟩), .string (⟨#[65, 83, 83, 73, 71, 78, 77, 69, 78, 84]⟩), .string (⟨#[84, 83, 80]⟩)] 9] _ := hM.callL 2 hn; clear hn
      refine ⟨.int .i64 ((endR (X.getD ((nuR (dgk kd n) X 2 (n * n)).2) tz))), rfl, fun a hA => ?_⟩
      refine S.val hA (R.assign rfl) rfl ?_; clear hA a; intro a hA
      refine S.done ?_
      replace hA : St 56 [(4, _)] a := hA.sub ((.cons rfl .nil))
      refine Ends.ret1 Tryd.func48 Tryd.results48 hA rfl ?_
      have e1 := (pbR_in hw0 hkd).trans ((congrArg (finR X) ((bodR_as hk1 hk3).trans ((asR_num hc0 hcn).trans (congrArg (fun f => nuR f X 2 (n * n)) hdk.symm)))).trans (finR_end hs13))
      have hM1 := hM
      replace hM := (hM.ownNil 3 1).ownNil 3 1
      replace hM : Mem _ _ [own 3 1 (.slice none ((([] : List Int)).length) 0) ((([] : List Int)).length) ((([] : List Int)).map (Value.int .i64)), own 3 1 (.slice none ((([] : List Int)).length) 0) ((([] : List Int)).length) ((([] : List Int)).map (Value.int .i64)), pt rb #[.slice (some ⟨g, (nuR (dgk kd n) X 2 (n * n)).2 * 4, none⟩) (X.length - (nuR (dgk kd n) X 2 (n * n)).2) (cap - (nuR (dgk kd n) X 2 (n * n)).2), .int .i64 ((X.getD ((nuR (dgk kd n) X 2 (n * n)).2) tz).a)] 62, own 77 4 (.slice ((some ⟨g, 0, none⟩)) X.length cap) X.length (tokv X), pt ib #[.int .i64 kd, .int .i64 ((n : Int)), .int .i64 0, .slice none 0 0, .slice none 0 0, .slice ((some ⟨gb, 0, none⟩)) n n] 25, own 22 1 (.slice ((some ⟨gb, 0, none⟩)) n n) n ((rs.map orV)), bundle (rs.map (orC 3)), pt b1 #[.string (⟨#[75, 78, 65, 80, 83, 65, 67, 75]⟩), .string (⟨#[65, 83, 83, 73, 71, 78, 77, 69, 78, 84]⟩), .string (⟨#[84, 83, 80]⟩)] 9] _ := hM
      replace hM := hM.front (k := 6) rfl
      replace hM := hM.front (k := 6) rfl
      replace hM := hM.front (k := 3) rfl
      replace hM := hM.front (k := 3) rfl
      replace hM := hM.front (k := 6) rfl
      replace hM := hM.front (k := 6) rfl
      replace hM := hM.front (k := 6) rfl
      replace hM : Mem _ _ [pt rb #[.slice (some ⟨g, (nuR (dgk kd n) X 2 (n * n)).2 * 4, none⟩) (X.length - (nuR (dgk kd n) X 2 (n * n)).2) (cap - (nuR (dgk kd n) X 2 (n * n)).2), .int .i64 ((X.getD ((nuR (dgk kd n) X 2 (n * n)).2) tz).a)] 62, own 77 4 (.slice ((some ⟨g, 0, none⟩)) X.length cap) X.length (tokv X), pt ib #[.int .i64 kd, .int .i64 ((n : Int)), .int .i64 0, .slice none 0 0, .slice none 0 0, .slice ((some ⟨gb, 0, none⟩)) n n] 25, own 3 1 (.slice none ((([] : List Int)).length) 0) ((([] : List Int)).length) ((([] : List Int)).map (Value.int .i64)), own 3 1 (.slice none ((([] : List Int)).length) 0) ((([] : List Int)).length) ((([] : List Int)).map (Value.int .i64)), own 22 1 (.slice ((some ⟨gb, 0, none⟩)) n n) n ((rs.map orV)), bundle (rs.map (orC 3)), pt b1 #[.string (⟨#[75, 78, 65, 80, 83, 65, 67, 75]⟩), .string (⟨#[65, 83, 83, 73, 71, 78, 77, 69, 78, 84]⟩), .string (⟨#[84, 83, 80]⟩)] 9] _ := hM
      replace hM := hM.firstN 7
      replace hM : Mem _ _ [pt rb #[.slice (some ⟨g, (nuR (dgk kd n) X 2 (n * n)).2 * 4, none⟩) (X.length - (nuR (dgk kd n) X 2 (n * n)).2) (cap - (nuR (dgk kd n) X 2 (n * n)).2), .int .i64 ((X.getD ((nuR (dgk kd n) X 2 (n * n)).2) tz).a)] 62, own 77 4 (.slice ((some ⟨g, 0, none⟩)) X.length cap) X.length (tokv X), pt ib #[.int .i64 kd, .int .i64 ((n : Int)), .int .i64 0, .slice none 0 0, .slice none 0 0, .slice ((some ⟨gb, 0, none⟩)) n n] 25, own 3 1 (.slice none ((([] : List Int)).length) 0) ((([] : List Int)).length) ((([] : List Int)).map (Value.int .i64)), own 3 1 (.slice none ((([] : List Int)).length) 0) ((([] : List Int)).length) ((([] : List Int)).map (Value.int .i64)), own 22 1 (.slice ((some ⟨gb, 0, none⟩)) n n) n ((rs.map orV)), bundle (rs.map (orC 3))] _ := hM
      have hlr := rows_len hYs
      rw [← hlr] at hM
      have hpf := pbI_as hkd (by omega) hcn hYs
      rw [← hlr] at hpf
      replace hM := Mem.packI (G0 := (⟨kd, (rs.length : Int), 0, [], [], rs.map (·.Y)⟩ : Ins)) (eI := 3) (eR := 22) (aw := none) (cw := 0) (av := none) (cv := 0) (ac := some ⟨gb, 0, none⟩) (cc := rs.length) (rs := rs) hpf hM
      by_cases h9 : (endR (X.getD ((nuR (dgk kd n) X 2 (n * n)).2) tz)) = 0
      · exact ⟨by rw [e1], .inr ⟨by rw [e1]; exact h9, _, _, none, 0, none, 0, _, _, rs, by rw [← hpf], hM⟩⟩
      ·
       replace hM1 := hM1.firstN 2
       exact ⟨by rw [e1], .inl ⟨by rw [e1]; exact h9, _, by rw [e1]; exact hM1⟩⟩
     ·
      refine Ends.region ?_
      refine S.val hA (R.move rfl) rfl ?_; clear hA a; intro a hA
      refine S.val hA (R.move rfl) rfl ?_; clear hA a; intro a hA
      replace hM := hM.front (k := 3) rfl
      replace hM := hM.front (k := 2) rfl
      replace hM := hM.front (k := 2) rfl
      replace hM : Mem _ _ [pt rb #[.slice (some ⟨g, 2 * 4, none⟩) (X.length - 2) (cap - 2), .int .i64 ((X.getD 1 tz).a)] 62, own 77 4 (.slice ((some ⟨g, 0, none⟩)) X.length cap) X.length (tokv X), pt ib #[.int .i64 kd, .int .i64 ((n : Int)), .int .i64 0, .slice none 0 0, .slice none 0 0, .slice none 0 0] 25, pt b1 #[.string (⟨#[75, 78, 65, 80, 83, 65, 67, 75]⟩), .string (⟨#[65, 83, 83, 73, 71, 78, 77, 69, 78, 84]⟩), .string (⟨#[84, 83, 80]⟩)] 9] _ := hM
      refine S.call hA (R.callF Tryd.func65 rfl rfl rfl) rfl (rows06_bad g rb ib 2 cap ((X.getD 1 tz).a) X hX (by omega) hcap kd n hn1 hn24 hs13 _ (hM.hereN 3)) ?_; clear hA a
      rintro e w17 ⟨rfl, jx14, hn⟩
      replace hM : Mem _ _ [pt rb #[.slice (some ⟨g, jx14 * 4, none⟩) (X.length - jx14) (cap - jx14), .int .i64 (((X.getD (nuR (dgk kd n) X 2 (n * n)).2 tz).a))] 62, own 77 4 (.slice ((some ⟨g, 0, none⟩)) X.length cap) X.length (tokv X), pt b1 #[.string (⟨#[75, 78, 65, 80, 83, 65, 67, 75]⟩), .string (⟨#[65, 83, 83, 73, 71, 78, 77, 69, 78, 84]⟩), .string (⟨#[84, 83, 80]⟩)] 9] _ := hM.callL 3 hn; clear hn
      refine ⟨.int .i64 ((nuR (dgk kd n) X 2 (n * n)).1), rfl, fun a hA => ?_⟩
      refine S.val hA (R.assign rfl) rfl ?_; clear hA a; intro a hA
      refine S.done ?_
      replace hA : St 56 [(0, _), (6, _)] a := hA.sub ((.cons rfl (.cons rfl .nil)))
      refine Ends.inBlock (Ends.seq (Ends.seq (Ends.region ?_)))
      refine S.val hA (R.move rfl) rfl ?_; clear hA a; intro a hA
      refine S.val hA (R.neq rfl rfl) rfl ?_; clear hA a; intro a hA
      refine S.done ?_
      refine Ends.ite hA rfl (fun hc15 => ?_) (fun hc15 => ?_)
      ·
       refine Ends.seq (Ends.region ?_)
       refine S.val hA (R.move rfl) rfl ?_; clear hA a; intro a hA
       refine S.val hA (R.assign rfl) rfl ?_; clear hA a; intro a hA
       refine S.done ?_
       replace hA : St 56 [(0, _), (4, _)] a := hA.sub ((.cons rfl (.cons rfl .nil)))
       refine Ends.ret1 Tryd.func48 Tryd.results48 hA rfl ?_
       replace hM := hM.firstN 2
       replace hM : Mem _ _ [pt rb #[.slice (some ⟨g, jx14 * 4, none⟩) (X.length - jx14) (cap - jx14), .int .i64 (((X.getD (nuR (dgk kd n) X 2 (n * n)).2 tz).a))] 62, own 77 4 (.slice ((some ⟨g, 0, none⟩)) X.length cap) X.length (tokv X)] _ := hM
       have e1 := (pbR_in hw0 hkd).trans ((congrArg (finR X) ((bodR_as hk1 hk3).trans ((asR_num hc0 hcn).trans (congrArg (fun f => nuR f X 2 (n * n)) hdk.symm)))).trans (finR_err hs13))
       exact ⟨by rw [e1], .inl ⟨by rw [e1]; exact hs13, _, by rw [e1]; exact hM⟩⟩
      · exact absurd (by assumption) hc15
    ·
     refine Ends.skip (Ends.inBlock (Ends.seq (Ends.seq (Ends.region ?_))))
     refine S.val hA (R.move rfl) rfl ?_; clear hA a; intro a hA
     refine S.val hA (R.neq rfl rfl) rfl ?_; clear hA a; intro a hA
     refine S.done ?_
     replace hA : St 56 [(0, _), (6, _), (52, _)] a := hA.sub ((.cons rfl (.cons rfl (.cons rfl .nil))))
     refine Ends.ite hA rfl (fun hc16 => ?_) (fun hc16 => ?_)
     ·
      refine Ends.seq (Ends.region ?_)
      refine S.val hA (R.move rfl) rfl ?_; clear hA a; intro a hA
      refine S.val hA (R.assign rfl) rfl ?_; clear hA a; intro a hA
      refine S.done ?_
      refine Ends.ret1 Tryd.func48 Tryd.results48 hA rfl ?_
      replace hM := hM.firstN 2
      replace hM : Mem _ _ [pt rb #[.slice (some ⟨g, (nxJ 1 (numR (X.getD 1 tz) 24)) * 4, none⟩) (X.length - (nxJ 1 (numR (X.getD 1 tz) 24))) (cap - (nxJ 1 (numR (X.getD 1 tz) 24))), .int .i64 ((X.getD 1 tz).a)] 62, own 77 4 (.slice ((some ⟨g, 0, none⟩)) X.length cap) X.length (tokv X)] _ := hM
      have e1 := (pbR_in hw0 hkd).trans ((congrArg (finR X) ((bodR_as hk1 hk3).trans (asR_cnt hc12))).trans (finR_err hc12))
      exact ⟨by rw [e1], .inl ⟨by rw [e1]; exact hc12, _, by rw [e1]; exact hM⟩⟩
     · exact absurd (by assumption) hc16
theorem problem06_bad (g rb ib cap : Nat) (at0 : Int) (X : List Tok) (hX : Toks X) (hj : 0 < X.length) (hcap : X.length ≤ cap) (hE : (pbR X).1 ≠ 0) (w : World) (hM : Mem w (feet [pt rb #[.slice (some ⟨g, 0 * 4, none⟩) (X.length - 0) (cap - 0), .int .i64 at0] 62, own 77 4 (.slice ((some ⟨g, 0, none⟩)) X.length cap) X.length (tokv X), pt ib cz0 25]) [pt rb #[.slice (some ⟨g, 0 * 4, none⟩) (X.length - 0) (cap - 0), .int .i64 at0] 62, own 77 4 (.slice ((some ⟨g, 0, none⟩)) X.length cap) X.length (tokv X), pt ib cz0 25] w) :
    Calls Tryd.prog 48 #[.pointer (some ⟨rb, 0, none⟩), .pointer (some ⟨ib, 0, none⟩)] w fun e w' => e = .returned (.int .i64 (pbR X).1) ∧ ∃ jx, Mem w (feet [pt rb #[.slice (some ⟨g, 0 * 4, none⟩) (X.length - 0) (cap - 0), .int .i64 at0] 62, own 77 4 (.slice ((some ⟨g, 0, none⟩)) X.length cap) X.length (tokv X), pt ib cz0 25]) [pt rb #[.slice (some ⟨g, jx * 4, none⟩) (X.length - jx) (cap - jx), .int .i64 (((X.getD (pbR X).2 tz).a))] 62, own 77 4 (.slice ((some ⟨g, 0, none⟩)) X.length cap) X.length (tokv X)] w' :=
  (problem06 g rb ib cap at0 X hX hj hcap w hM).mono (by rintro e w' ⟨h1, h2 | h2⟩; exact ⟨h1, h2.2⟩; exact absurd h2.1 hE)
theorem problem06_ok (g rb ib cap : Nat) (at0 : Int) (X : List Tok) (hX : Toks X) (hj : 0 < X.length) (hcap : X.length ≤ cap) (hE : (pbR X).1 = 0) (w : World) (hM : Mem w (feet [pt rb #[.slice (some ⟨g, 0 * 4, none⟩) (X.length - 0) (cap - 0), .int .i64 at0] 62, own 77 4 (.slice ((some ⟨g, 0, none⟩)) X.length cap) X.length (tokv X), pt ib cz0 25]) [pt rb #[.slice (some ⟨g, 0 * 4, none⟩) (X.length - 0) (cap - 0), .int .i64 at0] 62, own 77 4 (.slice ((some ⟨g, 0, none⟩)) X.length cap) X.length (tokv X), pt ib cz0 25] w) :
    Calls Tryd.prog 48 #[.pointer (some ⟨rb, 0, none⟩), .pointer (some ⟨ib, 0, none⟩)] w fun e w' => e = .returned (.int .i64 0) ∧ ∃ jx at1 aw cw av cv ac cc, ∃ rs : List OwR, rs.map (·.Y) = (pbI X).cost ∧ Mem w (feet [pt rb #[.slice (some ⟨g, 0 * 4, none⟩) (X.length - 0) (cap - 0), .int .i64 at0] 62, own 77 4 (.slice ((some ⟨g, 0, none⟩)) X.length cap) X.length (tokv X), pt ib cz0 25]) [pt rb #[.slice (some ⟨g, jx * 4, none⟩) (X.length - jx) (cap - jx), .int .i64 at1] 62, own 77 4 (.slice ((some ⟨g, 0, none⟩)) X.length cap) X.length (tokv X), pt ib #[.int .i64 ((pbI X).kind), .int .i64 ((pbI X).n), .int .i64 ((pbI X).cap), .slice aw ((pbI X).wt.length) cw, .slice av ((pbI X).vl.length) cv, .slice ac rs.length cc] 25, bundle (insL 3 22 (pbI X) aw cw av cv ac cc rs)] w' :=
  (problem06 g rb ib cap at0 X hX hj hcap w hM).mono (by rintro e w' ⟨h1, h2 | h2⟩; exact absurd hE h2.1; exact ⟨by rw [h1, hE], h2.2⟩)
end Go.Proofs.YtakfcekfmdjklaaDoor
namespace Go.Proofs.YtakfcekfmdjklaaDoor
open Go.RowKit
set_option maxRecDepth 100000 in
set_option maxHeartbeats 400000 in
theorem parse06 (s : ByteArray) (hs : s.size ≤ 9223372036854775807) (w : World) (htab : U8T w) :
  Calls Tryd.prog 28 #[.string s] w fun e w' => ∃ a3 c3 a4 c4 a5 c5, e = .returned (.tuple #[.agg #[.int .i64 (prs s).1.kind, .int .i64 (prs s).1.n, .int .i64 (prs s).1.cap, .slice a3 (prs s).1.wt.length c3, .slice a4 (prs s).1.vl.length c4, .slice a5 (prs s).1.cost.length c5], .int .i64 (prs s).2.1, .int .i64 (prs s).2.2]) ∧ (IntSl w' (.slice a3 (prs s).1.wt.length c3) (prs s).1.wt ∧ IntSl w' (.slice a4 (prs s).1.vl.length c4) (prs s).1.vl ∧ RowsV w' (.slice a5 (prs s).1.cost.length c5) (prs s).1.cost) ∧ Below w.heap.size w w' := by
 have hbs := Below.refl (B := w.heap.size) w
 have hlen := scan_len s
 have hM := Mem.start w
 refine Calls.of_ends (vs := [.string s]) Tryd.func28 rfl Tryd.ntmps28 rfl ?_
 intro a hA
 replace hA : St 36 [(0, _)] a := hA
 refine Ends.seq (Ends.region ?_)
 refine S.alloc hA hM info25 rfl rfl ?_; clear hA hM a; intro b1 w1 hb2 hM a hA
 replace hM : Mem _ _ [pt b1 cz0 25] _ := hM
 refine S.val hA (R.assign rfl) rfl ?_; clear hA a; intro a hA
 refine S.val hA (R.assign rfl) rfl ?_; clear hA a; intro a hA
 refine S.done ?_
 refine Ends.seq (Ends.region ?_)
 refine S.val hA (R.move rfl) rfl ?_; clear hA a; intro a hA
 refine S.call hA (R.callF Tryd.func33 rfl rfl rfl) rfl (scan_any s (by omega) _ (htab.mem hM OffT.nof)) ?_; clear hA a
 rintro e w2 ⟨a3, c4, rfl, hn⟩
 replace hM : Mem _ _ [own 77 4 (.slice a3 (((scan s).1).length) c4) (((scan s).1).length) (tokv ((scan s).1)), pt b1 cz0 25] _ := hM.call hn; clear hn
 refine ⟨.tuple #[.slice a3 ((scan s).1.length) c4, .int .i64 ((scan s).2.1), .int .i64 ((scan s).2.2)], rfl, fun a hA => ?_⟩
 refine S.val hA (R.move rfl) rfl ?_; clear hA a; intro a hA
 refine S.val hA (R.extract (v := .slice a3 ((scan s).1.length) c4) rfl rfl) rfl ?_; clear hA a; intro a hA
 refine S.val hA (R.extract (v := .int .i64 ((scan s).2.1)) rfl rfl) rfl ?_; clear hA a; intro a hA
 refine S.val hA (R.extract (v := .int .i64 ((scan s).2.2)) rfl rfl) rfl ?_; clear hA a; intro a hA
 refine S.val hA (R.assign rfl) rfl ?_; clear hA a; intro a hA
 refine S.val hA (R.assign rfl) rfl ?_; clear hA a; intro a hA
 refine S.val hA (R.assign rfl) rfl ?_; clear hA a; intro a hA
 refine S.done ?_
 replace hA : St 36 [(2, _), (5, _), (6, _), (7, _)] a := hA.sub ((.cons rfl (.cons rfl (.cons rfl (.cons rfl .nil)))))
 refine Ends.seq (Ends.seq (Ends.region ?_))
 refine S.val hA (R.move rfl) rfl ?_; clear hA a; intro a hA
 refine S.val hA (R.neq rfl rfl) rfl ?_; clear hA a; intro a hA
 refine S.done ?_
 refine Ends.ite hA rfl (fun hc5 => ?_) (fun hc5 => ?_)
 ·
  refine Ends.seq (Ends.region ?_)
  refine S.val hA (R.build (cells := cz0) rfl (by kernel_rfl)) rfl ?_; clear hA a; intro a hA
  refine S.val hA (R.move rfl) rfl ?_; clear hA a; intro a hA
  refine S.val hA (R.move rfl) rfl ?_; clear hA a; intro a hA
  refine S.storeA (k := 1) hA hM sz25 rfl rfl rfl rfl rfl rfl ?_; clear hM
  intro w3 hM
  replace hM : Mem _ _ [own 77 4 (.slice a3 (((scan s).1).length) c4) (((scan s).1).length) (tokv ((scan s).1)), pt b1 cz0 25] _ := hM
  refine S.val hA (R.assign rfl) rfl ?_; clear hA a; intro a hA
  refine S.val hA (R.assign rfl) rfl ?_; clear hA a; intro a hA
  refine S.done ?_
  replace hA : St 36 [(2, _), (3, _), (4, _), (5, _)] a := hA.sub ((.cons rfl (.cons rfl (.cons rfl (.cons rfl .nil)))))
  refine Ends.retC3 (k := 1) Tryd.func28 Tryd.results28 hA hM rfl rfl rfl rfl sz25 rfl ?_
  rw [prs_scan hc5]
  exact ⟨none, 0, none, 0, none, 0, rfl, nilI _, Mem.trans0 hbs hM.nilL⟩
 ·
  have hs0 := Decidable.not_not.1 hc5
  have hX := scan_toks hs0 hlen
  have hX0 := hX.pos
  have hcap_ := (hM.ownLe (k := 0) rfl).1
  obtain ⟨g6, hg6⟩ := hM.ownAt (k := 0) rfl hX.pos
  subst hg6
  replace hM : Mem _ _ [own 77 4 (.slice (some ⟨g6, 0, none⟩) (((scan s).1).length) c4) (((scan s).1).length) (tokv ((scan s).1)), pt b1 cz0 25] _ := hM
  refine Ends.skip (Ends.seq (Ends.region ?_))
  refine S.val hA (R.move rfl) rfl ?_; clear hA a; intro a hA
  refine S.val hA (R.build (cells := #[.slice (some ⟨g6, 0, none⟩) ((scan s).1.length) c4, .int .i64 0]) rfl (by kernel_rfl)) rfl ?_; clear hA a; intro a hA
  refine S.box hA hM rfl rfl ?_; clear hA hM a; intro b7 w4 hb8 hM a hA
  replace hM : Mem _ _ [pt b7 #[.slice (some ⟨g6, 0, none⟩) ((scan s).1.length) c4, .int .i64 0] 62, own 77 4 (.slice (some ⟨g6, 0, none⟩) (((scan s).1).length) c4) (((scan s).1).length) (tokv ((scan s).1)), pt b1 cz0 25] _ := hM
  refine S.val hA (R.assign rfl) rfl ?_; clear hA a; intro a hA
  refine S.done ?_
  replace hA : St 36 [(2, _), (8, _)] a := hA.sub ((.cons rfl (.cons rfl .nil)))
  refine Ends.seq (Ends.region ?_)
  refine S.alloc hA hM info25 rfl rfl ?_; clear hA hM a; intro b9 w5 hb10 hM a hA
  replace hM : Mem _ _ [pt b9 cz0 25, pt b7 #[.slice (some ⟨g6, 0, none⟩) ((scan s).1.length) c4, .int .i64 0] 62, own 77 4 (.slice (some ⟨g6, 0, none⟩) (((scan s).1).length) c4) (((scan s).1).length) (tokv ((scan s).1)), pt b1 cz0 25] _ := hM
  refine S.done ?_
  refine Ends.seq (Ends.seq ?_)
  by_cases hs11 : (pbR (scan s).1).1 = 0
  ·
   refine Ends.region ?_
   refine S.val hA (R.move rfl) rfl ?_; clear hA a; intro a hA
   replace hM := hM.front (k := 2) rfl
   replace hM := hM.front (k := 2) rfl
   replace hM : Mem _ _ [pt b7 #[.slice (some ⟨g6, 0, none⟩) ((scan s).1.length) c4, .int .i64 0] 62, own 77 4 (.slice (some ⟨g6, 0, none⟩) (((scan s).1).length) c4) (((scan s).1).length) (tokv ((scan s).1)), pt b9 cz0 25, pt b1 cz0 25] _ := hM
   refine S.call hA (R.callF Tryd.func48 rfl rfl rfl) rfl (problem06_ok g6 b7 b9 c4 0 (scan s).1 hX hX.pos hcap_ hs11 _ (hM.hereN 3)) ?_; clear hA a
   rintro e w6 ⟨rfl, jx, atx, aw, cw, av, cv, ac, cc, rs, hYs, hn⟩
   replace hM : Mem _ _ [pt b7 #[.slice (some ⟨g6, jx * 4, none⟩) ((scan s).1.length - jx) (c4 - jx), .int .i64 atx] 62, own 77 4 (.slice (some ⟨g6, 0, none⟩) (((scan s).1).length) c4) (((scan s).1).length) (tokv ((scan s).1)), pt b9 #[.int .i64 ((pbI (scan s).1).kind), .int .i64 ((pbI (scan s).1).n), .int .i64 ((pbI (scan s).1).cap), .slice aw ((pbI (scan s).1).wt.length) cw, .slice av ((pbI (scan s).1).vl.length) cv, .slice ac rs.length cc] 25, bundle (insL 3 22 (pbI (scan s).1) aw cw av cv ac cc rs), pt b1 cz0 25] _ := hM.callL 3 hn; clear hn
   refine ⟨.int .i64 0, rfl, fun a hA => ?_⟩
   refine S.val hA (R.assign rfl) rfl ?_; clear hA a; intro a hA
   refine S.done ?_
   refine Ends.seq (Ends.region ?_)
   refine S.val hA (R.move rfl) rfl ?_; clear hA a; intro a hA
   refine S.val hA (R.ff (R.neq rfl rfl) (by first | decide | simp | omega)) rfl ?_; clear hA a; intro a hA
   refine S.done ?_
   refine Ends.condF hA rfl ?_
   refine Ends.skip (Ends.seq (Ends.region ?_))
   refine S.val hA (R.loadA sz25 rfl (hM.range (k := 2) rfl) rfl) rfl ?_; clear hA a; intro a hA
   refine S.storeA (k := 4) hA hM sz25 rfl rfl rfl rfl rfl rfl ?_; clear hM
   intro w7 hM
   replace hM : Mem _ _ [pt b7 #[.slice (some ⟨g6, jx * 4, none⟩) ((scan s).1.length - jx) (c4 - jx), .int .i64 atx] 62, own 77 4 (.slice (some ⟨g6, 0, none⟩) (((scan s).1).length) c4) (((scan s).1).length) (tokv ((scan s).1)), pt b9 #[.int .i64 ((pbI (scan s).1).kind), .int .i64 ((pbI (scan s).1).n), .int .i64 ((pbI (scan s).1).cap), .slice aw ((pbI (scan s).1).wt.length) cw, .slice av ((pbI (scan s).1).vl.length) cv, .slice ac rs.length cc] 25, bundle (insL 3 22 (pbI (scan s).1) aw cw av cv ac cc rs), pt b1 #[.int .i64 ((pbI (scan s).1).kind), .int .i64 ((pbI (scan s).1).n), .int .i64 ((pbI (scan s).1).cap), .slice aw ((pbI (scan s).1).wt.length) cw, .slice av ((pbI (scan s).1).vl.length) cv, .slice ac rs.length cc] 25] _ := hM
   refine S.val hA (R.assign rfl) rfl ?_; clear hA a; intro a hA
   refine S.val hA (R.assign rfl) rfl ?_; clear hA a; intro a hA
   refine S.done ?_
   replace hA : St 36 [(2, _), (3, _), (4, _)] a := hA.sub ((.cons rfl (.cons rfl (.cons rfl .nil))))
   refine Ends.retC3 (k := 4) Tryd.func28 Tryd.results28 hA hM rfl rfl rfl rfl sz25 rfl ?_
   obtain ⟨-, g3, g4, g5⟩ := insR_of hM (k := 3) rfl hYs
   have hlr : rs.length = (pbI (scan s).1).cost.length := by rw [← hYs, List.length_map]
   rw [prs_ok hs0 hs11]
   exact ⟨aw, cw, av, cv, ac, cc, by rw [hlr], ⟨g3, g4, g5⟩, Mem.trans0 hbs hM.nilL⟩
  ·
   refine Ends.region ?_
   refine S.val hA (R.move rfl) rfl ?_; clear hA a; intro a hA
   replace hM := hM.front (k := 2) rfl
   replace hM := hM.front (k := 2) rfl
   replace hM : Mem _ _ [pt b7 #[.slice (some ⟨g6, 0, none⟩) ((scan s).1.length) c4, .int .i64 0] 62, own 77 4 (.slice (some ⟨g6, 0, none⟩) (((scan s).1).length) c4) (((scan s).1).length) (tokv ((scan s).1)), pt b9 cz0 25, pt b1 cz0 25] _ := hM
   refine S.call hA (R.callF Tryd.func48 rfl rfl rfl) rfl (problem06_bad g6 b7 b9 c4 0 (scan s).1 hX hX.pos hcap_ hs11 _ (hM.hereN 3)) ?_; clear hA a
   rintro e w8 ⟨rfl, jx12, hn⟩
   replace hM : Mem _ _ [pt b7 #[.slice (some ⟨g6, jx12 * 4, none⟩) ((scan s).1.length - jx12) (c4 - jx12), .int .i64 (((scan s).1.getD (pbR (scan s).1).2 tz).a)] 62, own 77 4 (.slice (some ⟨g6, 0, none⟩) (((scan s).1).length) c4) (((scan s).1).length) (tokv ((scan s).1)), pt b1 cz0 25] _ := hM.callL 3 hn; clear hn
   refine ⟨.int .i64 ((pbR (scan s).1).1), rfl, fun a hA => ?_⟩
   refine S.val hA (R.assign rfl) rfl ?_; clear hA a; intro a hA
   refine S.done ?_
   refine Ends.seq (Ends.region ?_)
   refine S.val hA (R.move rfl) rfl ?_; clear hA a; intro a hA
   refine S.val hA (R.neq rfl rfl) rfl ?_; clear hA a; intro a hA
   refine S.done ?_
   refine Ends.ite hA rfl (fun hc13 => ?_) (fun hc13 => ?_)
   ·
    refine Ends.seq ?_
    refine Ends.drawn (Mem w nof [pt b7 #[.slice (some ⟨g6, jx12 * 4, none⟩) ((scan s).1.length - jx12) (c4 - jx12), .int .i64 (((scan s).1.getD (pbR (scan s).1).2 tz).a)] 62]) (.cons (0, true) (.cons (1, true) (.cons (2, true) (.cons (3, true) (.cons (4, true) (.cons (5, true) (.cons (6, false) (.cons (7, true) (.cons (8, true) .nil))))))))) 9 mixed (by kernel_rfl) (by kernel_rfl) (by kernel_rfl) ((hM.drop 2).drop 1).drew ?_
    replace hM := hM.drew
    refine D.valF hA rfl (fun _ => R.build (cells := cz0) rfl (by kernel_rfl)) rfl ?_; clear hA a; intro a hA
    refine D.valF hA rfl (fun _ => R.move rfl) rfl ?_; clear hA a; intro a hA
    refine D.valF hA rfl (fun _ => R.nilCheck rfl) rfl ?_; clear hA a; intro a hA
    refine D.valF hA rfl (fun _ => R.fieldAddr (q := 1) fi62_1 rfl rfl rfl) rfl ?_; clear hA a; intro a hA
    refine D.val hA rfl (by kernel_rfl) (fun _ hM => R.load sz3 rfl (hM.cell (k := 0) rfl rfl)) rfl ?_; clear hA a; intro a hA
    refine D.valF hA rfl (fun _ => R.move rfl) rfl ?_; clear hA a; intro a hA
    refine D.storeA (k := 2) hA hM rfl sz25 rfl rfl rfl rfl rfl rfl ?_; clear hM
    intro w9 hM; refine ⟨fun _ _ => ((hM.drop 2).drop 1), ?_⟩
    replace hM : Mem _ _ [pt b7 #[.slice (some ⟨g6, jx12 * 4, none⟩) ((scan s).1.length - jx12) (c4 - jx12), .int .i64 (((scan s).1.getD (pbR (scan s).1).2 tz).a)] 62, own 77 4 (.slice (some ⟨g6, 0, none⟩) (((scan s).1).length) c4) (((scan s).1).length) (tokv ((scan s).1)), pt b1 cz0 25] _ := hM
    refine D.valF hA rfl (fun _ => R.assign rfl) rfl ?_; clear hA a; intro a hA
    refine D.valF hA rfl (fun _ => R.assign rfl) rfl ?_; clear hA a; intro a hA
    refine D.done ?_
    replace hA : St 36 [(2, _), (3, _), (4, _), (9, _)] a := hA.sub ((.cons rfl (.cons rfl (.cons rfl (.cons rfl .nil)))))
    refine Ends.retC3 (k := 2) Tryd.func28 Tryd.results28 hA hM rfl rfl rfl rfl sz25 rfl ?_
    rw [prs_bad hs0 hs11]
    exact ⟨none, 0, none, 0, none, 0, rfl, nilI _, Mem.trans0 hbs hM.nilL⟩
   · exact absurd (by assumption) hc13
end Go.Proofs.YtakfcekfmdjklaaDoor
namespace Go.Proofs.YtakfcekfmdjklaaDoor
open Go.RowKit
theorem callsNil {P : Program} {f : FuncId} {vs : Array Value} {w : World} {R : Ending → World → Prop} (h : Calls P f vs w R) : Calls P f (vs ++ #[]) w R := by rwa [Array.append_empty]
set_option maxRecDepth 100000 in
set_option maxHeartbeats 400000 in
theorem eqI05 (ax : Option Addr) (X : List Int) (cx : Nat) (ay : Option Addr) (Y : List Int) (cy : Nat) (w : World) (hx : IntSl w (.slice ax X.length cx) X) (hy : IntSl w (.slice ay Y.length cy) Y) :
  Calls Tryd.prog 46 #[.slice ax X.length cx, .slice ay Y.length cy] w fun e w' => e = .returned (.bool (decide (X = Y))) ∧ Below w.heap.size w w' := by
 have hbs := Below.refl (B := w.heap.size) w
 have hlx := hx.lenB
 have hM := Mem.start w
 refine Calls.of_ends (vs := [.slice ax X.length cx, .slice ay Y.length cy]) Tryd.func46 rfl Tryd.ntmps46 rfl ?_
 intro a hA
 replace hA : St 26 [(0, _), (1, _)] a := hA
 refine Ends.seq (Ends.region ?_)
 refine S.val hA (R.assign rfl) rfl ?_; clear hA a; intro a hA
 refine S.done ?_
 refine Ends.seq (Ends.seq (Ends.region ?_))
 refine S.val hA (R.move rfl) rfl ?_; clear hA a; intro a hA
 refine S.val hA (R.lenS Tryd.underlying22 rfl rfl) rfl ?_; clear hA a; intro a hA
 refine S.val hA (R.move rfl) rfl ?_; clear hA a; intro a hA
 refine S.val hA (R.lenS Tryd.underlying22 rfl rfl) rfl ?_; clear hA a; intro a hA
 refine S.val hA (R.neq rfl rfl) rfl ?_; clear hA a; intro a hA
 refine S.done ?_
 replace hA : St 26 [(0, _), (1, _), (10, _)] a := hA.sub ((.cons rfl (.cons rfl (.cons rfl .nil))))
 refine Ends.ite hA rfl (fun hc1 => ?_) (fun hc1 => ?_)
 ·
  refine Ends.seq (Ends.region ?_)
  refine S.val hA (R.assign rfl) rfl ?_; clear hA a; intro a hA
  refine S.done ?_
  refine Ends.ret1 Tryd.func46 Tryd.results46 hA rfl ?_
  exact ⟨by rw [decide_eq_false (fun e => by subst e; omega)], Mem.trans0 hbs hM.nilL⟩
 ·
  have hln : X.length = Y.length := by omega
  refine Ends.skip (Ends.seq (Ends.seq (Ends.region ?_)))
  refine S.val hA (R.move rfl) rfl ?_; clear hA a; intro a hA
  refine S.val hA (R.lenS Tryd.underlying22 rfl rfl) rfl ?_; clear hA a; intro a hA
  refine S.val hA (R.move rfl) rfl ?_; clear hA a; intro a hA
  refine S.done ?_
  refine Ends.block ?_
  refine Ends.loop (σ := Nat) (fun k (a : Act) (wv : World) => St 26 [(0, .slice ax X.length cx), (1, .slice ay Y.length cy), (12, .int .i64 ((X.length : Int))), (13, .int .i64 ((k : Int)))] a ∧ Mem w nof [] wv ∧ (k ≤ X.length) ∧ (X.take k = Y.take k)) (fun k => X.length - k) 0 ⟨hA.sub ((.cons rfl (.cons rfl (.cons rfl (.cons rfl .nil))))), hM, (Nat.zero_le _), rfl⟩ ?_
  clear hA hM a
  rintro k a w1 ⟨hA, hM, hk, hk2⟩ hNext
  refine Ends.seq (Ends.region ?_)
  refine S.val hA (R.lss rfl rfl) rfl ?_; clear hA a; intro a hA
  refine S.done ?_
  refine Ends.seq ?_
  refine Ends.ite hA rfl (fun hc2 => ?_) (fun hc2 => ?_)
  ·
   refine Ends.skip (Ends.seq (Ends.block (Ends.seq (Ends.region ?_))))
   refine S.val hA (R.move rfl) rfl ?_; clear hA a; intro a hA
   refine S.val hA (R.assign rfl) rfl ?_; clear hA a; intro a hA
   refine S.done ?_
   refine Ends.seq ?_
   refine Ends.drawn (Mem w nof []) (.cons (0, true) (.cons (1, true) (.cons (2, true) (.cons (3, true) (.cons (4, true) (.cons (5, true) (.cons (6, true) (.cons (7, true) (.cons (8, true) .nil))))))))) 9 mixed (by kernel_rfl) (by kernel_rfl) (by kernel_rfl) hM.drew ?_
   replace hM := hM.drew
   refine D.valF hA rfl (fun _ => R.move rfl) rfl ?_; clear hA a; intro a hA
   refine D.valF hA rfl (fun _ => R.move rfl) rfl ?_; clear hA a; intro a hA
   refine D.valF hA rfl (fun _ => R.idxI hx (j := k) sl22 rfl rfl (by omega) (rfl)) rfl ?_; clear hA a; intro a hA
   refine D.val hA rfl (by kernel_rfl) (fun _ hM => R.loadI (hx.mem hM) sz3 rfl (by omega)) rfl ?_; clear hA a; intro a hA
   refine D.valF hA rfl (fun _ => R.move rfl) rfl ?_; clear hA a; intro a hA
   refine D.valF hA rfl (fun _ => R.move rfl) rfl ?_; clear hA a; intro a hA
   refine D.valF hA rfl (fun _ => R.idxI hy (j := k) sl22 rfl rfl (by omega) (rfl)) rfl ?_; clear hA a; intro a hA
   refine D.val hA rfl (by kernel_rfl) (fun _ hM => R.loadI (hy.mem hM) sz3 rfl (by omega)) rfl ?_; clear hA a; intro a hA
   refine D.valF hA rfl (fun _ => R.neq rfl rfl) rfl ?_; clear hA a; intro a hA
   refine D.done ?_
   replace hA : St 26 [(0, _), (1, _), (12, _), (13, _), (24, _)] a := hA.sub ((.cons rfl (.cons rfl (.cons rfl (.cons rfl (.cons rfl .nil))))))
   refine Ends.ite hA rfl (fun hc3 => ?_) (fun hc3 => ?_)
   ·
    refine Ends.seq (Ends.region ?_)
    refine S.val hA (R.assign rfl) rfl ?_; clear hA a; intro a hA
    refine S.done ?_
    refine Ends.ret1 Tryd.func46 Tryd.results46 hA rfl ?_
    exact ⟨by rw [decide_eq_false (fun e => by subst e; exact hc3 rfl)], Mem.trans0 hbs hM.nilL⟩
   ·
    refine Ends.skip (Ends.inBlock (Ends.region ?_))
    refine S.val hA (R.addI rfl rfl (r := ((k : Int)) + 1) rfl (by omega)) rfl ?_; clear hA a; intro a hA
    refine S.val hA (R.move rfl) rfl ?_; clear hA a; intro a hA
    refine S.done ?_
    exact hNext ((k + 1)) _ _ ((by show X.length - (k + 1) < X.length - k; omega)) ⟨hA.sub ((.cons rfl (.cons rfl (.cons rfl (.cons rfl .nil))))), hM, (by omega), (by rw [take_succ_getD X k (by omega), take_succ_getD Y k (by omega), hk2, show X.getD k 0 = Y.getD k 0 from Decidable.not_not.1 hc3])⟩
  ·
   refine Ends.exit rfl ?_
   replace hA : St 26 [] a := hA.sub (.nil)
   refine Ends.seq (Ends.region ?_)
   refine S.val hA (R.assign rfl) rfl ?_; clear hA a; intro a hA
   refine S.done ?_
   refine Ends.ret1 Tryd.func46 Tryd.results46 hA rfl ?_
   have hkl : k = X.length := by omega
   have hXY : X = Y := by rw [hkl, List.take_length, hln, List.take_length] at hk2; exact hk2
   exact ⟨by rw [decide_eq_true hXY], Mem.trans0 hbs hM.nilL⟩
set_option maxRecDepth 100000 in
set_option maxHeartbeats 400000 in
theorem eqR05 (ax : Option Addr) (X : List (List Int)) (cx : Nat) (ay : Option Addr) (Y : List (List Int)) (cy : Nat) (w : World) (hx : RowsV w (.slice ax X.length cx) X) (hy : RowsV w (.slice ay Y.length cy) Y) :
  Calls Tryd.prog 47 #[.slice ax X.length cx, .slice ay Y.length cy, .func (.func 46) #[] #[]] w fun e w' => e = .returned (.bool (decide (X = Y))) ∧ Below w.heap.size w w' := by
 have hbs := Below.refl (B := w.heap.size) w
 have hlx := hx.lenB
 have hM := Mem.start w
 refine Calls.of_ends (vs := [.slice ax X.length cx, .slice ay Y.length cy, .func (.func 46) #[] #[]]) Tryd.func47 rfl Tryd.ntmps47 rfl ?_
 intro a hA
 replace hA : St 32 [(0, _), (1, _), (2, _)] a := hA
 refine Ends.seq (Ends.region ?_)
 refine S.val hA (R.assign rfl) rfl ?_; clear hA a; intro a hA
 refine S.done ?_
 refine Ends.seq (Ends.seq (Ends.region ?_))
 refine S.val hA (R.move rfl) rfl ?_; clear hA a; intro a hA
 refine S.val hA (R.lenS Tryd.underlying23 rfl rfl) rfl ?_; clear hA a; intro a hA
 refine S.val hA (R.move rfl) rfl ?_; clear hA a; intro a hA
 refine S.val hA (R.lenS Tryd.underlying23 rfl rfl) rfl ?_; clear hA a; intro a hA
 refine S.val hA (R.neq rfl rfl) rfl ?_; clear hA a; intro a hA
 refine S.done ?_
 replace hA : St 32 [(0, _), (1, _), (2, _), (14, _)] a := hA.sub ((.cons rfl (.cons rfl (.cons rfl (.cons rfl .nil)))))
 refine Ends.ite hA rfl (fun hc1 => ?_) (fun hc1 => ?_)
 ·
  refine Ends.seq (Ends.region ?_)
  refine S.val hA (R.assign rfl) rfl ?_; clear hA a; intro a hA
  refine S.done ?_
  refine Ends.ret1 Tryd.func47 Tryd.results47 hA rfl ?_
  exact ⟨by rw [decide_eq_false (fun e => by subst e; omega)], Mem.trans0 hbs hM.nilL⟩
 ·
  have hln : X.length = Y.length := by omega
  refine Ends.skip (Ends.seq (Ends.seq (Ends.region ?_)))
  refine S.val hA (R.move rfl) rfl ?_; clear hA a; intro a hA
  refine S.val hA (R.lenS Tryd.underlying23 rfl rfl) rfl ?_; clear hA a; intro a hA
  refine S.val hA (R.move rfl) rfl ?_; clear hA a; intro a hA
  refine S.done ?_
  refine Ends.block ?_
  refine Ends.loop (σ := Nat) (fun k (a : Act) (wv : World) => St 32 [(1, .slice ay Y.length cy), (2, .func (.func 46) #[] #[]), (15, .slice ax X.length cx), (16, .int .i64 ((X.length : Int))), (17, .int .i64 ((k : Int)))] a ∧ Mem w nof [] wv ∧ (k ≤ X.length) ∧ (X.take k = Y.take k)) (fun k => X.length - k) 0 ⟨hA.sub ((.cons rfl (.cons rfl (.cons rfl (.cons rfl (.cons rfl .nil)))))), hM, (Nat.zero_le _), rfl⟩ ?_
  clear hA hM a
  rintro k a w1 ⟨hA, hM, hk, hk2⟩ hNext
  refine Ends.seq (Ends.region ?_)
  refine S.val hA (R.lss rfl rfl) rfl ?_; clear hA a; intro a hA
  refine S.done ?_
  refine Ends.seq ?_
  refine Ends.ite hA rfl (fun hc2 => ?_) (fun hc2 => ?_)
  ·
   refine Ends.skip (Ends.seq (Ends.block (Ends.seq (Ends.region ?_))))
   refine S.val hA (R.move rfl) rfl ?_; clear hA a; intro a hA
   refine S.val hA (R.idxR hx (j := k) sl23 rfl rfl (by omega) (rfl)) rfl ?_; clear hA a; intro a hA
   obtain ⟨ra3, rc4, hrow5, hld6⟩ := hx.atP (i := k) (by omega)
   refine S.val hA (hld6 _ _ _ _ _ _ hM sz22 rfl) rfl ?_; clear hA a; intro a hA
   refine S.val hA (R.assign rfl) rfl ?_; clear hA a; intro a hA
   refine S.val hA (R.assign rfl) rfl ?_; clear hA a; intro a hA
   refine S.done ?_
   replace hA : St 32 [(1, _), (2, _), (7, _), (8, _), (15, _), (16, _), (17, _)] a := hA.sub ((.cons rfl (.cons rfl (.cons rfl (.cons rfl (.cons rfl (.cons rfl (.cons rfl .nil))))))))
   refine Ends.seq (Ends.region ?_)
   refine S.val hA (R.move rfl) rfl ?_; clear hA a; intro a hA
   refine S.val hA (R.move rfl) rfl ?_; clear hA a; intro a hA
   refine S.val hA (R.idxR hy (j := k) sl23 rfl rfl (by omega) (rfl)) rfl ?_; clear hA a; intro a hA
   obtain ⟨ra7, rc8, hrow9, hld10⟩ := hy.atP (i := k) (by omega)
   refine S.val hA (hld10 _ _ _ _ _ _ hM sz22 rfl) rfl ?_; clear hA a; intro a hA
   refine S.val hA (R.assign rfl) rfl ?_; clear hA a; intro a hA
   refine S.done ?_
   replace hA : St 32 [(1, _), (2, _), (8, _), (9, _), (15, _), (16, _), (17, _)] a := hA.sub ((.cons rfl (.cons rfl (.cons rfl (.cons rfl (.cons rfl (.cons rfl (.cons rfl .nil))))))))
   refine Ends.seq (Ends.region ?_)
   refine S.val hA (R.move rfl) rfl ?_; clear hA a; intro a hA
   refine S.val hA (R.move rfl) rfl ?_; clear hA a; intro a hA
   refine S.val hA (R.move rfl) rfl ?_; clear hA a; intro a hA
   refine S.call hA (R.callV Tryd.func46 (by kernel_rfl) rfl rfl rfl) rfl (callsNil (eqI05 ra3 ((X.getD k [])) rc4 ra7 ((Y.getD k [])) rc8 _ (hrow5.mem hM) (hrow9.mem hM))) ?_; clear hA a
   rintro e w2 ⟨rfl, hb⟩
   replace hM := hM.callB hb; clear hb
   refine ⟨.bool (decide (((X.getD k [])) = ((Y.getD k [])))), rfl, fun a hA => ?_⟩
   refine S.val hA (R.notD rfl) rfl ?_; clear hA a; intro a hA
   refine S.done ?_
   replace hA : St 32 [(1, _), (2, _), (15, _), (16, _), (17, _), (30, _)] a := hA.sub ((.cons rfl (.cons rfl (.cons rfl (.cons rfl (.cons rfl (.cons rfl .nil)))))))
   refine Ends.ite hA rfl (fun hc11 => ?_) (fun hc11 => ?_)
   ·
    refine Ends.seq (Ends.region ?_)
    refine S.val hA (R.assign rfl) rfl ?_; clear hA a; intro a hA
    refine S.done ?_
    refine Ends.ret1 Tryd.func47 Tryd.results47 hA rfl ?_
    exact ⟨by rw [decide_eq_false (fun e => by subst e; exact hc11 rfl)], Mem.trans0 hbs hM.nilL⟩
   ·
    refine Ends.skip (Ends.inBlock (Ends.region ?_))
    refine S.val hA (R.addI rfl rfl (r := ((k : Int)) + 1) rfl (by omega)) rfl ?_; clear hA a; intro a hA
    refine S.val hA (R.move rfl) rfl ?_; clear hA a; intro a hA
    refine S.done ?_
    exact hNext ((k + 1)) _ _ ((by show X.length - (k + 1) < X.length - k; omega)) ⟨hA.sub ((.cons rfl (.cons rfl (.cons rfl (.cons rfl (.cons rfl .nil)))))), hM, (by omega), (by rw [takeR_succ X k (by omega), takeR_succ Y k (by omega), hk2, show X.getD k [] = Y.getD k [] from Decidable.not_not.1 hc11])⟩
  ·
   refine Ends.exit rfl ?_
   replace hA : St 32 [] a := hA.sub (.nil)
   refine Ends.seq (Ends.region ?_)
   refine S.val hA (R.assign rfl) rfl ?_; clear hA a; intro a hA
   refine S.done ?_
   refine Ends.ret1 Tryd.func47 Tryd.results47 hA rfl ?_
   have hkl : k = X.length := by omega
   have hXY : X = Y := by rw [hkl, List.take_length, hln, List.take_length] at hk2; exact hk2
   exact ⟨by rw [decide_eq_true hXY], Mem.trans0 hbs hM.nilL⟩
set_option maxRecDepth 100000 in
set_option maxHeartbeats 400000 in
theorem iSame (i : Ins) (ax3 : Option Addr) (cx3 : Nat) (ax4 : Option Addr) (cx4 : Nat) (ax5 : Option Addr) (cx5 : Nat) (j : Ins) (ay3 : Option Addr) (cy3 : Nat) (ay4 : Option Addr) (cy4 : Nat) (ay5 : Option Addr) (cy5 : Nat) (w : World) (hx3 : IntSl w (.slice ax3 i.wt.length cx3) i.wt) (hx4 : IntSl w (.slice ax4 i.vl.length cx4) i.vl) (hx5 : RowsV w (.slice ax5 i.cost.length cx5) i.cost) (hy3 : IntSl w (.slice ay3 j.wt.length cy3) j.wt) (hy4 : IntSl w (.slice ay4 j.vl.length cy4) j.vl) (hy5 : RowsV w (.slice ay5 j.cost.length cy5) j.cost) :
  Calls Tryd.prog 26 #[.agg #[.int .i64 i.kind, .int .i64 i.n, .int .i64 i.cap, .slice ax3 i.wt.length cx3, .slice ax4 i.vl.length cx4, .slice ax5 i.cost.length cx5], .agg #[.int .i64 j.kind, .int .i64 j.n, .int .i64 j.cap, .slice ay3 j.wt.length cy3, .slice ay4 j.vl.length cy4, .slice ay5 j.cost.length cy5]] w fun e w' => e = .returned (.bool (decide (i = j))) ∧ Below w.heap.size w w' := by
 have hbs := Below.refl (B := w.heap.size) w
 have hM := Mem.start w
 refine Calls.of_ends (vs := [.agg #[.int .i64 i.kind, .int .i64 i.n, .int .i64 i.cap, .slice ax3 i.wt.length cx3, .slice ax4 i.vl.length cx4, .slice ax5 i.cost.length cx5], .agg #[.int .i64 j.kind, .int .i64 j.n, .int .i64 j.cap, .slice ay3 j.wt.length cy3, .slice ay4 j.vl.length cy4, .slice ay5 j.cost.length cy5]]) Tryd.func26 rfl Tryd.ntmps26 rfl ?_
 intro a hA
 replace hA : St 45 [(0, _), (1, _)] a := hA
 refine Ends.seq (Ends.region ?_)
 refine S.box hA hM rfl rfl ?_; clear hA hM a; intro b1 w1 hb2 hM a hA
 replace hM : Mem _ _ [pt b1 #[.int .i64 i.kind, .int .i64 i.n, .int .i64 i.cap, .slice ax3 i.wt.length cx3, .slice ax4 i.vl.length cx4, .slice ax5 i.cost.length cx5] 25] _ := hM
 refine S.box hA hM rfl rfl ?_; clear hA hM a; intro b3 w2 hb4 hM a hA
 replace hM : Mem _ _ [pt b3 #[.int .i64 j.kind, .int .i64 j.n, .int .i64 j.cap, .slice ay3 j.wt.length cy3, .slice ay4 j.vl.length cy4, .slice ay5 j.cost.length cy5] 25, pt b1 #[.int .i64 i.kind, .int .i64 i.n, .int .i64 i.cap, .slice ax3 i.wt.length cx3, .slice ax4 i.vl.length cx4, .slice ax5 i.cost.length cx5] 25] _ := hM
 refine S.val hA (R.assign rfl) rfl ?_; clear hA a; intro a hA
 refine S.done ?_
 refine Ends.seq ?_
 refine Ends.cut (fun (a : Act) (wv : World) => St 45 [(4, .bool (decide ((((((i.kind = j.kind ∧ i.n = j.n) ∧ i.cap = j.cap) ∧ i.wt = j.wt) ∧ i.vl = j.vl) ∧ i.cost = j.cost))))] a ∧ Mem w nof [pt b3 #[.int .i64 j.kind, .int .i64 j.n, .int .i64 j.cap, .slice ay3 j.wt.length cy3, .slice ay4 j.vl.length cy4, .slice ay5 j.cost.length cy5] 25, pt b1 #[.int .i64 i.kind, .int .i64 i.n, .int .i64 i.cap, .slice ax3 i.wt.length cx3, .slice ax4 i.vl.length cx4, .slice ax5 i.cost.length cx5] 25] wv) ?_ (fun k2 hJ => ?_)
 ·
  clear hA hM a; rintro a w3 ⟨hA, hM⟩
  refine Ends.ret1 Tryd.func26 Tryd.results26 hA rfl ?_
  exact ⟨congrArg (fun b => Ending.returned (.bool b)) (decide_eq_decide.2 ⟨fun h => Ins.ext h.1.1.1.1.1 h.1.1.1.1.2 h.1.1.1.2 h.1.1.2 h.1.2 h.2, fun e => by subst e; exact ⟨⟨⟨⟨⟨rfl, rfl⟩, rfl⟩, rfl⟩, rfl⟩, rfl⟩⟩), Mem.trans0 hbs hM.nilL⟩
 ·
  refine Ends.region ?_
  refine S.val hA (R.fieldAddr (q := 0) fi25_0 rfl rfl rfl) rfl ?_; clear hA a; intro a hA
  refine S.val hA (R.load sz3 rfl (hM.cell (k := 1) rfl rfl)) rfl ?_; clear hA a; intro a hA
  refine S.val hA (R.fieldAddr (q := 0) fi25_0 rfl rfl rfl) rfl ?_; clear hA a; intro a hA
  refine S.val hA (R.load sz3 rfl (hM.cell (k := 0) rfl rfl)) rfl ?_; clear hA a; intro a hA
  refine S.val hA (R.eql rfl rfl) rfl ?_; clear hA a; intro a hA
  refine S.val hA (R.move rfl) rfl ?_; clear hA a; intro a hA
  refine hA.split (d := 10) rfl ?_ ?_
  ·
   clear hA; intro hg5 hA
   refine S.valg (dj := 10) hA (by kernel_rfl) rfl (R.fieldAddr (q := 1) fi25_1 rfl rfl rfl) rfl ?_; clear hA a; intro a hA
   refine S.valg (dj := 10) hA (by kernel_rfl) rfl (R.load sz3 rfl (hM.cell (k := 1) rfl rfl)) rfl ?_; clear hA a; intro a hA
   refine S.valg (dj := 10) hA (by kernel_rfl) rfl (R.fieldAddr (q := 1) fi25_1 rfl rfl rfl) rfl ?_; clear hA a; intro a hA
   refine S.valg (dj := 10) hA (by kernel_rfl) rfl (R.load sz3 rfl (hM.cell (k := 0) rfl rfl)) rfl ?_; clear hA a; intro a hA
   refine S.valg (dj := 10) hA (by kernel_rfl) rfl (R.eql rfl rfl) rfl ?_; clear hA a; intro a hA
   refine S.val hA (R.pickT rfl rfl) rfl ?_; clear hA a; intro a hA
   refine S.val hA (R.move rfl) rfl ?_; clear hA a; intro a hA
   refine hA.split (d := 17) rfl ?_ ?_
   ·
    clear hA; intro hg6 hA
    refine S.valg (dj := 17) hA (by kernel_rfl) rfl (R.fieldAddr (q := 2) fi25_2 rfl rfl rfl) rfl ?_; clear hA a; intro a hA
    refine S.valg (dj := 17) hA (by kernel_rfl) rfl (R.load sz3 rfl (hM.cell (k := 1) rfl rfl)) rfl ?_; clear hA a; intro a hA
    refine S.valg (dj := 17) hA (by kernel_rfl) rfl (R.fieldAddr (q := 2) fi25_2 rfl rfl rfl) rfl ?_; clear hA a; intro a hA
    refine S.valg (dj := 17) hA (by kernel_rfl) rfl (R.load sz3 rfl (hM.cell (k := 0) rfl rfl)) rfl ?_; clear hA a; intro a hA
    refine S.valg (dj := 17) hA (by kernel_rfl) rfl (R.eql rfl rfl) rfl ?_; clear hA a; intro a hA
    refine S.val hA (R.pickT rfl rfl) rfl ?_; clear hA a; intro a hA
    refine S.val hA (R.move rfl) rfl ?_; clear hA a; intro a hA
    refine hA.split (d := 24) rfl ?_ ?_
    ·
     clear hA; intro hg7 hA
     refine S.valg (dj := 24) hA (by kernel_rfl) rfl (R.fieldAddr (q := 3) fi25_3 rfl rfl rfl) rfl ?_; clear hA a; intro a hA
     refine S.valg (dj := 24) hA (by kernel_rfl) rfl (R.load sz22 rfl (hM.cell (k := 1) rfl rfl)) rfl ?_; clear hA a; intro a hA
     refine S.valg (dj := 24) hA (by kernel_rfl) rfl (R.fieldAddr (q := 3) fi25_3 rfl rfl rfl) rfl ?_; clear hA a; intro a hA
     refine S.valg (dj := 24) hA (by kernel_rfl) rfl (R.load sz22 rfl (hM.cell (k := 0) rfl rfl)) rfl ?_; clear hA a; intro a hA
     refine S.callg (dj := 24) hA (by kernel_rfl) rfl (R.callF Tryd.func46 rfl rfl rfl) rfl (eqI05 ax3 i.wt cx3 ay3 j.wt cy3 _ (hx3.mem hM) (hy3.mem hM)) ?_; clear hA a
     rintro e w4 ⟨rfl, hb⟩
     replace hM := hM.callB hb; clear hb
     refine ⟨.bool (decide (i.wt = j.wt)), rfl, fun a hA => ?_⟩
     refine S.val hA (R.pickT rfl rfl) rfl ?_; clear hA a; intro a hA
     refine S.val hA (R.move rfl) rfl ?_; clear hA a; intro a hA
     refine hA.split (d := 31) rfl ?_ ?_
     ·
      clear hA; intro hg8 hA
      refine S.valg (dj := 31) hA (by kernel_rfl) rfl (R.fieldAddr (q := 4) fi25_4 rfl rfl rfl) rfl ?_; clear hA a; intro a hA
      refine S.valg (dj := 31) hA (by kernel_rfl) rfl (R.load sz22 rfl (hM.cell (k := 1) rfl rfl)) rfl ?_; clear hA a; intro a hA
      refine S.valg (dj := 31) hA (by kernel_rfl) rfl (R.fieldAddr (q := 4) fi25_4 rfl rfl rfl) rfl ?_; clear hA a; intro a hA
      refine S.valg (dj := 31) hA (by kernel_rfl) rfl (R.load sz22 rfl (hM.cell (k := 0) rfl rfl)) rfl ?_; clear hA a; intro a hA
      refine S.callg (dj := 31) hA (by kernel_rfl) rfl (R.callF Tryd.func46 rfl rfl rfl) rfl (eqI05 ax4 i.vl cx4 ay4 j.vl cy4 _ (hx4.mem hM) (hy4.mem hM)) ?_; clear hA a
      rintro e w5 ⟨rfl, hb⟩
      replace hM := hM.callB hb; clear hb
      refine ⟨.bool (decide (i.vl = j.vl)), rfl, fun a hA => ?_⟩
      refine S.val hA (R.pickT rfl rfl) rfl ?_; clear hA a; intro a hA
      refine S.val hA (R.move rfl) rfl ?_; clear hA a; intro a hA
      refine hA.split (d := 38) rfl ?_ ?_
      ·
       clear hA; intro hg9 hA
       refine S.valg (dj := 38) hA (by kernel_rfl) rfl (R.fieldAddr (q := 5) fi25_5 rfl rfl rfl) rfl ?_; clear hA a; intro a hA
       refine S.valg (dj := 38) hA (by kernel_rfl) rfl (R.load sz23 rfl (hM.cell (k := 1) rfl rfl)) rfl ?_; clear hA a; intro a hA
       refine S.valg (dj := 38) hA (by kernel_rfl) rfl (R.fieldAddr (q := 5) fi25_5 rfl rfl rfl) rfl ?_; clear hA a; intro a hA
       refine S.valg (dj := 38) hA (by kernel_rfl) rfl (R.load sz23 rfl (hM.cell (k := 0) rfl rfl)) rfl ?_; clear hA a; intro a hA
       refine S.callg (dj := 38) hA (by kernel_rfl) rfl (R.callF Tryd.func47 rfl rfl rfl) rfl (eqR05 ax5 i.cost cx5 ay5 j.cost cy5 _ (hx5.mem hM) (hy5.mem hM)) ?_; clear hA a
       rintro e w6 ⟨rfl, hb⟩
       replace hM := hM.callB hb; clear hb
       refine ⟨.bool (decide (i.cost = j.cost)), rfl, fun a hA => ?_⟩
       refine S.val hA (R.pickT rfl rfl) rfl ?_; clear hA a; intro a hA
       refine S.val hA (R.assign rfl) rfl ?_; clear hA a; intro a hA
       refine S.done ?_
       replace hA : St 45 [(4, _)] a := hA.sub ((.cons rfl .nil))
       exact hJ _ _ ⟨hA.sub (.cons (by first | rfl | exact congrArg (fun b => some (Value.bool b)) (by first | exact decide_eq_decide.2 (by omega) | exact or_bool (by omega) | exact and_bool (by omega) | (simp; done) | (simp [hg5, hg6, hg7, hg8, hg9]; done) | (have h80 := hg5; (try simp at h80); have h81 := hg6; (try simp at h81); have h82 := hg7; (try simp at h82); have h83 := hg8; (try simp at h83); have h84 := hg9; (try simp at h84); simp [h80, h81, h82, h83, h84]; done) | exact (decide_eq_false (fun h9 => hg5 h9.1)).symm | exact (decide_eq_false (fun h9 => hg6 h9.1)).symm | exact (decide_eq_false (fun h9 => hg7 h9.1)).symm | exact (decide_eq_false (fun h9 => hg8 h9.1)).symm | exact (decide_eq_false (fun h9 => hg9 h9.1)).symm)) .nil), hM⟩
      ·
       clear hA; intro hg9 hA
       refine S.no (dj := 38) hA (by kernel_rfl) rfl rfl rfl ?_; clear hA a; intro a hA
       refine S.no (dj := 38) hA (by kernel_rfl) rfl rfl rfl ?_; clear hA a; intro a hA
       refine S.no (dj := 38) hA (by kernel_rfl) rfl rfl rfl ?_; clear hA a; intro a hA
       refine S.no (dj := 38) hA (by kernel_rfl) rfl rfl rfl ?_; clear hA a; intro a hA
       refine S.no (dj := 38) hA (by kernel_rfl) rfl rfl rfl ?_; clear hA a; intro a hA
       refine S.val hA (R.pickF rfl rfl) rfl ?_; clear hA a; intro a hA
       refine S.val hA (R.assign rfl) rfl ?_; clear hA a; intro a hA
       refine S.done ?_
       replace hA : St 45 [(4, _)] a := hA.sub ((.cons rfl .nil))
       exact hJ _ _ ⟨hA.sub (.cons (by first | rfl | exact congrArg (fun b => some (Value.bool b)) (by first | exact decide_eq_decide.2 (by omega) | exact or_bool (by omega) | exact and_bool (by omega) | (simp; done) | (simp [hg5, hg6, hg7, hg8, hg9]; done) | (have h80 := hg5; (try simp at h80); have h81 := hg6; (try simp at h81); have h82 := hg7; (try simp at h82); have h83 := hg8; (try simp at h83); have h84 := hg9; (try simp at h84); simp [h80, h81, h82, h83, h84]; done) | exact (decide_eq_false (fun h9 => hg5 h9.1)).symm | exact (decide_eq_false (fun h9 => hg6 h9.1)).symm | exact (decide_eq_false (fun h9 => hg7 h9.1)).symm | exact (decide_eq_false (fun h9 => hg8 h9.1)).symm | exact (decide_eq_false (fun h9 => hg9 h9.1)).symm)) .nil), hM⟩
     ·
      clear hA; intro hg8 hA
      refine S.no (dj := 31) hA (by kernel_rfl) rfl rfl rfl ?_; clear hA a; intro a hA
      refine S.no (dj := 31) hA (by kernel_rfl) rfl rfl rfl ?_; clear hA a; intro a hA
      refine S.no (dj := 31) hA (by kernel_rfl) rfl rfl rfl ?_; clear hA a; intro a hA
      refine S.no (dj := 31) hA (by kernel_rfl) rfl rfl rfl ?_; clear hA a; intro a hA
      refine S.no (dj := 31) hA (by kernel_rfl) rfl rfl rfl ?_; clear hA a; intro a hA
      refine S.val hA (R.pickF rfl rfl) rfl ?_; clear hA a; intro a hA
      refine S.val hA (R.move rfl) rfl ?_; clear hA a; intro a hA
      refine S.no (dj := 38) hA (by kernel_rfl) rfl rfl rfl ?_; clear hA a; intro a hA
      refine S.no (dj := 38) hA (by kernel_rfl) rfl rfl rfl ?_; clear hA a; intro a hA
      refine S.no (dj := 38) hA (by kernel_rfl) rfl rfl rfl ?_; clear hA a; intro a hA
      refine S.no (dj := 38) hA (by kernel_rfl) rfl rfl rfl ?_; clear hA a; intro a hA
      refine S.no (dj := 38) hA (by kernel_rfl) rfl rfl rfl ?_; clear hA a; intro a hA
      refine S.val hA (R.pickF rfl rfl) rfl ?_; clear hA a; intro a hA
      refine S.val hA (R.assign rfl) rfl ?_; clear hA a; intro a hA
      refine S.done ?_
      replace hA : St 45 [(4, _)] a := hA.sub ((.cons rfl .nil))
      exact hJ _ _ ⟨hA.sub (.cons (by first | rfl | exact congrArg (fun b => some (Value.bool b)) (by first | exact decide_eq_decide.2 (by omega) | exact or_bool (by omega) | exact and_bool (by omega) | (simp; done) | (simp [hg5, hg6, hg7, hg8]; done) | (have h80 := hg5; (try simp at h80); have h81 := hg6; (try simp at h81); have h82 := hg7; (try simp at h82); have h83 := hg8; (try simp at h83); simp [h80, h81, h82, h83]; done) | exact (decide_eq_false (fun h9 => hg5 h9.1)).symm | exact (decide_eq_false (fun h9 => hg6 h9.1)).symm | exact (decide_eq_false (fun h9 => hg7 h9.1)).symm | exact (decide_eq_false (fun h9 => hg8 h9.1)).symm)) .nil), hM⟩
    ·
     clear hA; intro hg7 hA
     refine S.no (dj := 24) hA (by kernel_rfl) rfl rfl rfl ?_; clear hA a; intro a hA
     refine S.no (dj := 24) hA (by kernel_rfl) rfl rfl rfl ?_; clear hA a; intro a hA
     refine S.no (dj := 24) hA (by kernel_rfl) rfl rfl rfl ?_; clear hA a; intro a hA
     refine S.no (dj := 24) hA (by kernel_rfl) rfl rfl rfl ?_; clear hA a; intro a hA
     refine S.no (dj := 24) hA (by kernel_rfl) rfl rfl rfl ?_; clear hA a; intro a hA
     refine S.val hA (R.pickF rfl rfl) rfl ?_; clear hA a; intro a hA
     refine S.val hA (R.move rfl) rfl ?_; clear hA a; intro a hA
     refine S.no (dj := 31) hA (by kernel_rfl) rfl rfl rfl ?_; clear hA a; intro a hA
     refine S.no (dj := 31) hA (by kernel_rfl) rfl rfl rfl ?_; clear hA a; intro a hA
     refine S.no (dj := 31) hA (by kernel_rfl) rfl rfl rfl ?_; clear hA a; intro a hA
     refine S.no (dj := 31) hA (by kernel_rfl) rfl rfl rfl ?_; clear hA a; intro a hA
     refine S.no (dj := 31) hA (by kernel_rfl) rfl rfl rfl ?_; clear hA a; intro a hA
     refine S.val hA (R.pickF rfl rfl) rfl ?_; clear hA a; intro a hA
     refine S.val hA (R.move rfl) rfl ?_; clear hA a; intro a hA
     refine S.no (dj := 38) hA (by kernel_rfl) rfl rfl rfl ?_; clear hA a; intro a hA
     refine S.no (dj := 38) hA (by kernel_rfl) rfl rfl rfl ?_; clear hA a; intro a hA
     refine S.no (dj := 38) hA (by kernel_rfl) rfl rfl rfl ?_; clear hA a; intro a hA
     refine S.no (dj := 38) hA (by kernel_rfl) rfl rfl rfl ?_; clear hA a; intro a hA
     refine S.no (dj := 38) hA (by kernel_rfl) rfl rfl rfl ?_; clear hA a; intro a hA
     refine S.val hA (R.pickF rfl rfl) rfl ?_; clear hA a; intro a hA
     refine S.val hA (R.assign rfl) rfl ?_; clear hA a; intro a hA
     refine S.done ?_
     replace hA : St 45 [(4, _)] a := hA.sub ((.cons rfl .nil))
     exact hJ _ _ ⟨hA.sub (.cons (by first | rfl | exact congrArg (fun b => some (Value.bool b)) (by first | exact decide_eq_decide.2 (by omega) | exact or_bool (by omega) | exact and_bool (by omega) | (simp; done) | (simp [hg5, hg6, hg7]; done) | (have h80 := hg5; (try simp at h80); have h81 := hg6; (try simp at h81); have h82 := hg7; (try simp at h82); simp [h80, h81, h82]; done) | exact (decide_eq_false (fun h9 => hg5 h9.1)).symm | exact (decide_eq_false (fun h9 => hg6 h9.1)).symm | exact (decide_eq_false (fun h9 => hg7 h9.1)).symm)) .nil), hM⟩
   ·
    clear hA; intro hg6 hA
    refine S.no (dj := 17) hA (by kernel_rfl) rfl rfl rfl ?_; clear hA a; intro a hA
    refine S.no (dj := 17) hA (by kernel_rfl) rfl rfl rfl ?_; clear hA a; intro a hA
    refine S.no (dj := 17) hA (by kernel_rfl) rfl rfl rfl ?_; clear hA a; intro a hA
    refine S.no (dj := 17) hA (by kernel_rfl) rfl rfl rfl ?_; clear hA a; intro a hA
    refine S.no (dj := 17) hA (by kernel_rfl) rfl rfl rfl ?_; clear hA a; intro a hA
    refine S.val hA (R.pickF rfl rfl) rfl ?_; clear hA a; intro a hA
    refine S.val hA (R.move rfl) rfl ?_; clear hA a; intro a hA
    refine S.no (dj := 24) hA (by kernel_rfl) rfl rfl rfl ?_; clear hA a; intro a hA
    refine S.no (dj := 24) hA (by kernel_rfl) rfl rfl rfl ?_; clear hA a; intro a hA
    refine S.no (dj := 24) hA (by kernel_rfl) rfl rfl rfl ?_; clear hA a; intro a hA
    refine S.no (dj := 24) hA (by kernel_rfl) rfl rfl rfl ?_; clear hA a; intro a hA
    refine S.no (dj := 24) hA (by kernel_rfl) rfl rfl rfl ?_; clear hA a; intro a hA
    refine S.val hA (R.pickF rfl rfl) rfl ?_; clear hA a; intro a hA
    refine S.val hA (R.move rfl) rfl ?_; clear hA a; intro a hA
    refine S.no (dj := 31) hA (by kernel_rfl) rfl rfl rfl ?_; clear hA a; intro a hA
    refine S.no (dj := 31) hA (by kernel_rfl) rfl rfl rfl ?_; clear hA a; intro a hA
    refine S.no (dj := 31) hA (by kernel_rfl) rfl rfl rfl ?_; clear hA a; intro a hA
    refine S.no (dj := 31) hA (by kernel_rfl) rfl rfl rfl ?_; clear hA a; intro a hA
    refine S.no (dj := 31) hA (by kernel_rfl) rfl rfl rfl ?_; clear hA a; intro a hA
    refine S.val hA (R.pickF rfl rfl) rfl ?_; clear hA a; intro a hA
    refine S.val hA (R.move rfl) rfl ?_; clear hA a; intro a hA
    refine S.no (dj := 38) hA (by kernel_rfl) rfl rfl rfl ?_; clear hA a; intro a hA
    refine S.no (dj := 38) hA (by kernel_rfl) rfl rfl rfl ?_; clear hA a; intro a hA
    refine S.no (dj := 38) hA (by kernel_rfl) rfl rfl rfl ?_; clear hA a; intro a hA
    refine S.no (dj := 38) hA (by kernel_rfl) rfl rfl rfl ?_; clear hA a; intro a hA
    refine S.no (dj := 38) hA (by kernel_rfl) rfl rfl rfl ?_; clear hA a; intro a hA
    refine S.val hA (R.pickF rfl rfl) rfl ?_; clear hA a; intro a hA
    refine S.val hA (R.assign rfl) rfl ?_; clear hA a; intro a hA
    refine S.done ?_
    replace hA : St 45 [(4, _)] a := hA.sub ((.cons rfl .nil))
    exact hJ _ _ ⟨hA.sub (.cons (by first | rfl | exact congrArg (fun b => some (Value.bool b)) (by first | exact decide_eq_decide.2 (by omega) | exact or_bool (by omega) | exact and_bool (by omega) | (simp; done) | (simp [hg5, hg6]; done) | (have h80 := hg5; (try simp at h80); have h81 := hg6; (try simp at h81); simp [h80, h81]; done) | exact (decide_eq_false (fun h9 => hg5 h9.1)).symm | exact (decide_eq_false (fun h9 => hg6 h9.1)).symm)) .nil), hM⟩
  ·
   clear hA; intro hg5 hA
   refine S.no (dj := 10) hA (by kernel_rfl) rfl rfl rfl ?_; clear hA a; intro a hA
   refine S.no (dj := 10) hA (by kernel_rfl) rfl rfl rfl ?_; clear hA a; intro a hA
   refine S.no (dj := 10) hA (by kernel_rfl) rfl rfl rfl ?_; clear hA a; intro a hA
   refine S.no (dj := 10) hA (by kernel_rfl) rfl rfl rfl ?_; clear hA a; intro a hA
   refine S.no (dj := 10) hA (by kernel_rfl) rfl rfl rfl ?_; clear hA a; intro a hA
   refine S.val hA (R.pickF rfl rfl) rfl ?_; clear hA a; intro a hA
   refine S.val hA (R.move rfl) rfl ?_; clear hA a; intro a hA
   refine S.no (dj := 17) hA (by kernel_rfl) rfl rfl rfl ?_; clear hA a; intro a hA
   refine S.no (dj := 17) hA (by kernel_rfl) rfl rfl rfl ?_; clear hA a; intro a hA
   refine S.no (dj := 17) hA (by kernel_rfl) rfl rfl rfl ?_; clear hA a; intro a hA
   refine S.no (dj := 17) hA (by kernel_rfl) rfl rfl rfl ?_; clear hA a; intro a hA
   refine S.no (dj := 17) hA (by kernel_rfl) rfl rfl rfl ?_; clear hA a; intro a hA
   refine S.val hA (R.pickF rfl rfl) rfl ?_; clear hA a; intro a hA
   refine S.val hA (R.move rfl) rfl ?_; clear hA a; intro a hA
   refine S.no (dj := 24) hA (by kernel_rfl) rfl rfl rfl ?_; clear hA a; intro a hA
   refine S.no (dj := 24) hA (by kernel_rfl) rfl rfl rfl ?_; clear hA a; intro a hA
   refine S.no (dj := 24) hA (by kernel_rfl) rfl rfl rfl ?_; clear hA a; intro a hA
   refine S.no (dj := 24) hA (by kernel_rfl) rfl rfl rfl ?_; clear hA a; intro a hA
   refine S.no (dj := 24) hA (by kernel_rfl) rfl rfl rfl ?_; clear hA a; intro a hA
   refine S.val hA (R.pickF rfl rfl) rfl ?_; clear hA a; intro a hA
   refine S.val hA (R.move rfl) rfl ?_; clear hA a; intro a hA
   refine S.no (dj := 31) hA (by kernel_rfl) rfl rfl rfl ?_; clear hA a; intro a hA
   refine S.no (dj := 31) hA (by kernel_rfl) rfl rfl rfl ?_; clear hA a; intro a hA
   refine S.no (dj := 31) hA (by kernel_rfl) rfl rfl rfl ?_; clear hA a; intro a hA
   refine S.no (dj := 31) hA (by kernel_rfl) rfl rfl rfl ?_; clear hA a; intro a hA
   refine S.no (dj := 31) hA (by kernel_rfl) rfl rfl rfl ?_; clear hA a; intro a hA
   refine S.val hA (R.pickF rfl rfl) rfl ?_; clear hA a; intro a hA
   refine S.val hA (R.move rfl) rfl ?_; clear hA a; intro a hA
   refine S.no (dj := 38) hA (by kernel_rfl) rfl rfl rfl ?_; clear hA a; intro a hA
   refine S.no (dj := 38) hA (by kernel_rfl) rfl rfl rfl ?_; clear hA a; intro a hA
   refine S.no (dj := 38) hA (by kernel_rfl) rfl rfl rfl ?_; clear hA a; intro a hA
   refine S.no (dj := 38) hA (by kernel_rfl) rfl rfl rfl ?_; clear hA a; intro a hA
   refine S.no (dj := 38) hA (by kernel_rfl) rfl rfl rfl ?_; clear hA a; intro a hA
   refine S.val hA (R.pickF rfl rfl) rfl ?_; clear hA a; intro a hA
   refine S.val hA (R.assign rfl) rfl ?_; clear hA a; intro a hA
   refine S.done ?_
   replace hA : St 45 [(4, _)] a := hA.sub ((.cons rfl .nil))
   exact hJ _ _ ⟨hA.sub (.cons (by first | rfl | exact congrArg (fun b => some (Value.bool b)) (by first | exact decide_eq_decide.2 (by omega) | exact or_bool (by omega) | exact and_bool (by omega) | (simp; done) | (simp [hg5]; done) | (have h80 := hg5; (try simp at h80); simp [h80]; done) | exact (decide_eq_false (fun h9 => hg5 h9.1)).symm)) .nil), hM⟩
end Go.Proofs.YtakfcekfmdjklaaDoor
namespace Go.Proofs.YtakfcekfmdjklaaDoor
open Go.RowKit
theorem U8T.below {w w' : World} (h : U8T w) (hb : Below w.heap.size w w') : U8T w' := by
  have h1 := hb.block _ h.lt.1
  have h2 := hb.block _ h.lt.2
  exact ⟨fun c hc => by rw [cell_eq h1]; exact h.1 c hc, fun i hi => by rw [cell_eq h2, cell_eq h2]; exact h.2 i hi⟩
theorem parse_eq (s : ByteArray) (hs : s.size ≤ 9223372036854775807) (G : Ins) (p e0 : Int) (h : prs s = (G, p, e0)) (w : World) (htab : U8T w) : Calls Tryd.prog 28 #[.string s] w fun e w' => ∃ a3 c3 a4 c4 a5 c5, e = .returned (.tuple #[.agg #[.int .i64 G.kind, .int .i64 G.n, .int .i64 G.cap, .slice a3 G.wt.length c3, .slice a4 G.vl.length c4, .slice a5 G.cost.length c5], .int .i64 p, .int .i64 e0]) ∧ (IntSl w' (.slice a3 G.wt.length c3) G.wt ∧ IntSl w' (.slice a4 G.vl.length c4) G.vl ∧ RowsV w' (.slice a5 G.cost.length c5) G.cost) ∧ Below w.heap.size w w' := by
  have h1 := parse06 s hs w htab
  rwa [h] at h1
end Go.Proofs.YtakfcekfmdjklaaDoor
namespace Go.Proofs.YtakfcekfmdjklaaDoor
theorem lst_pos {u : ByteArray} {q z : Nat} {e : Int} {t : Tok} (h : lst u q = (e, z, [t])) : t.a = q := by
  rcases kb_rng u q with hk | hk | hk | hk | hk
  · rw [lst_0 hk] at h; simp at h
  · rw [lst_1 hk] at h; simp at h
  · rw [lst_2 hk] at h
    split at h
    · simp at h
    · split at h
      · simp at h
      · simp only [Prod.mk.injEq, List.cons.injEq, and_true] at h; rw [← h.2.2]
  · rw [lst_3 hk] at h
    split at h
    · simp at h
    · simp only [Prod.mk.injEq, List.cons.injEq, and_true] at h; rw [← h.2.2]
  · rw [lst_4 hk] at h; simp at h
def ScB (l : List UInt8) (T : List Tok) : Prop := ∀ r : List UInt8, Going (bs (l ++ r)) 0 [] l.length T
def okN (r : List UInt8) : Prop := kb (bs r) 0 ≠ 2 ∧ kb (bs r) 0 ≠ 3
def ScN (l : List UInt8) (T : List Tok) : Prop := ∀ r : List UInt8, okN r → Going (bs (l ++ r)) 0 [] l.length T
theorem ScB.nil : ScB [] [] := fun _ => Going.refl _ _ _
theorem kb_mid (l r : List UInt8) (j : Nat) : kb (bs (l ++ r)) (l.length + j) = kb (bs r) j := by
  rw [← bs_app, show l.length = (bs l).size from (bs_size l).symm, kb_r]
theorem byt_mid {l r : List UInt8} {j : Nat} (h : j < r.length) : byt (bs (l ++ r)) (l.length + j) = byt (bs r) j := by
  rw [← bs_app, show l.length = (bs l).size from (bs_size l).symm, byt_r (by rw [bs_size]; exact h)]
theorem byt_left {l r : List UInt8} {j : Nat} (h : j < l.length) : byt (bs (l ++ r)) j = byt (bs l) j := by
  rw [← bs_app, byt_l (by rw [bs_size]; exact h)]
theorem kb_cons (c : UInt8) (r : List UInt8) : kb (bs (c :: r)) 0 = kindI (c.toNat : Int) := by
  rw [kb_in (by rw [bs_size]; simp), show bs (c :: r) = ⟨(c :: r).toArray⟩ from rfl, byt_mk (by simp)]; rfl
def blk1 (c : UInt8) : Prop := kindI (c.toNat : Int) = 1
theorem blk1_k {c : UInt8} (h : blk1 c) : kindI (c.toNat : Int) = 1 := h
theorem b32 : blk1 32 := by unfold blk1; decide
theorem b10 : blk1 10 := by unfold blk1; decide
theorem okN_blk {c : UInt8} (h : blk1 c) (r : List UInt8) : okN (c :: r) := by unfold okN; rw [kb_cons, blk1_k h]; decide
theorem ScN.blank {l : List UInt8} {T : List Tok} {c : UInt8} (h : ScN l T) (hc : blk1 c) : ScB (l ++ [c]) T := fun r => by
  have h1 := h (c :: r) (okN_blk hc r)
  have e : (l ++ [c]) ++ r = l ++ (c :: r) := by simp
  rw [e, List.length_append]
  refine h1.trans (Going.blank (by rw [bs_size]; simp) ?_)
  have := kb_mid l (c :: r) 0
  rw [Nat.add_zero] at this
  rw [this, kb_cons, blk1_k hc]
theorem ScB.tok {l p : List UInt8} {T : List Tok} {k n : Int} {x : ByteArray} (h : ScB l T) (ht : TK (bs p) ⟨k, x, n, 0⟩ 0 p.length) : ScN (l ++ p) (T ++ [⟨k, x, n, l.length⟩]) := fun r hr => by
  have hd := ht.2.1
  have e : (l ++ p) ++ r = l ++ (p ++ r) := List.append_assoc ..
  rw [e]
  refine (h (p ++ r)).trans ?_
  obtain ⟨t', he, h1, h2, h3⟩ := lst_copy (u := bs (l ++ (p ++ r))) (q := l.length) ht (fun j hj => ⟨by rw [bs_size]; simp; omega, by rw [byt_mid (by simp; omega), byt_left hj, Nat.zero_add]⟩) (by rw [kb_mid, show p.length = p.length + 0 from rfl, kb_mid]; exact hr)
  have hp := lst_pos he
  have ht' : t' = ⟨k, x, n, l.length⟩ := by cases t'; simp only at h1 h2 h3 hp; rw [h1, h2, h3, hp]
  rw [ht'] at he
  have := Going.step (X := T) (by rw [bs_size]; simp; omega) he
  rwa [show (l ++ p).length = l.length + p.length from List.length_append]
structure Pc where
  b : List UInt8
  k : Int
  x : ByteArray
  n : Int
  s : UInt8
def pz : Pc := ⟨[], 0, ⟨#[]⟩, 0, 0⟩
def gd (p : Pc) : Prop := TK (bs p.b) ⟨p.k, p.x, p.n, 0⟩ 0 p.b.length ∧ blk1 p.s
def txt (ps : List Pc) : List UInt8 := ps.flatMap fun p => p.b ++ [p.s]
def toks : Nat → List Pc → List Tok
  | _, [] => []
  | o, p :: ps => ⟨p.k, p.x, p.n, o⟩ :: toks (o + (p.b.length + 1)) ps
theorem txt_app (a b : List Pc) : txt (a ++ b) = txt a ++ txt b := List.flatMap_append
theorem txt_cons (p : Pc) (b : List Pc) : txt (p :: b) = (p.b ++ [p.s]) ++ txt b := rfl
theorem toks_len : ∀ (o : Nat) (ps : List Pc), (toks o ps).length = ps.length
  | _, [] => rfl
  | o, p :: ps => by rw [toks, List.length_cons, toks_len, List.length_cons]
theorem ScB.txt : ∀ (ps : List Pc) {l : List UInt8} {T : List Tok}, ScB l T → (∀ p ∈ ps, gd p) → ScB (l ++ Go.Proofs.YtakfcekfmdjklaaDoor.txt ps) (T ++ toks l.length ps)
  | [], l, T, h, _ => by simpa [Go.Proofs.YtakfcekfmdjklaaDoor.txt, toks] using h
  | p :: ps, l, T, h, hg => by
    obtain ⟨h1, h2⟩ := hg p (.head _)
    have h3 := ScB.txt ps ((h.tok h1).blank h2) (fun q hq => hg q (.tail _ hq))
    have e1 : l ++ Go.Proofs.YtakfcekfmdjklaaDoor.txt (p :: ps) = ((l ++ p.b) ++ [p.s]) ++ Go.Proofs.YtakfcekfmdjklaaDoor.txt ps := by rw [txt_cons]; simp only [List.append_assoc]
    have e2 : T ++ toks l.length (p :: ps) = (T ++ [⟨p.k, p.x, p.n, l.length⟩]) ++ toks ((l ++ p.b) ++ [p.s]).length ps := by
      rw [toks, List.append_assoc]; simp
    rw [e1, e2]; exact h3
theorem toks_get : ∀ (ps : List Pc) (o j : Nat), j < ps.length → ((toks o ps).getD j tz).k = (ps.getD j pz).k ∧ ((toks o ps).getD j tz).x = (ps.getD j pz).x ∧ ((toks o ps).getD j tz).n = (ps.getD j pz).n
  | [], _, j, h => absurd h (Nat.not_lt_zero _)
  | p :: ps, o, 0, _ => ⟨rfl, rfl, rfl⟩
  | p :: ps, o, j + 1, h => by
    rw [toks, List.getD_cons_succ, List.getD_cons_succ]
    exact toks_get ps _ j (by rw [List.length_cons] at h; omega)
structure Rds (X : List Tok) (ps : List Pc) (e : Int) : Prop where
  len : X.length = ps.length + 1
  at_ : ∀ j, j < ps.length → (X.getD j tz).k = (ps.getD j pz).k ∧ (X.getD j tz).x = (ps.getD j pz).x ∧ (X.getD j tz).n = (ps.getD j pz).n
  end_ : (X.getD ps.length tz).k = 3 ∧ (X.getD ps.length tz).a = e
def wdP (b : List UInt8) (s : UInt8) : Pc := ⟨b, 1, bs b, 0, s⟩
def nuP (n : Int) (s : UInt8) : Pc := ⟨Lib.itoa n, 2, ⟨#[]⟩, n, s⟩
theorem ext_self (l : List UInt8) : (bs l).extract 0 (0 + l.length) = bs l :=
  ba_ext (by rw [Nat.zero_add, size_ext (by rw [bs_size]; omega), bs_size]; omega) (fun j hj => by
    rw [Nat.zero_add, size_ext (by rw [bs_size]; omega)] at hj
    rw [Nat.zero_add, byt_ext (by omega) (by rw [bs_size]; omega), Nat.zero_add])
theorem wd_gd {b : List UInt8} {s : UInt8} (h : ∀ j, j < b.length → kb (bs b) j = 3) (h0 : 0 < b.length) (h16 : b.length ≤ 16) (hs : blk1 s) : gd (wdP b s) := by
  refine ⟨⟨rfl, h0, by rw [bs_size]; exact Nat.le_of_eq (Nat.zero_add _), ?_, .inl ⟨rfl, fun j hj => by rw [Nat.zero_add]; exact h j hj, h16, (ext_self b).symm, rfl⟩⟩, hs⟩
  have e : kb (bs (wdP b s).b) (0 + (wdP b s).b.length) = 1 := kb_out (by rw [bs_size, Nat.zero_add]; exact Nat.lt_irrefl _)
  rw [e]; decide
theorem dd_short : ∀ (k M : Nat), M < 10 ^ k → (dd M).length ≤ k
  | 0, M, h => by
    obtain rfl : M = 0 := by simpa using h
    simp [dd]
  | k + 1, M, h => by
    by_cases h0 : M = 0
    · subst h0; simp [dd]
    · rw [dd_step h0, List.length_append]
      have := dd_short k (M / 10) (by rw [Nat.pow_succ] at h; omega)
      simp only [List.length_cons, List.length_nil]; omega
theorem dig_short {A : Nat} (h : A < 1000000000000000000) : (Lib.decDigits A).length ≤ 18 := by
  by_cases h0 : A = 0
  · subst h0; decide +kernel
  · have := dd_short 18 A (by simpa using h)
    unfold dd at this; rwa [if_neg h0] at this
theorem nu_gd {n : Int} {s : UInt8} (h0 : 0 ≤ n) (h1 : n < 1000000000000000000) (hs : blk1 s) : gd (nuP n s) := by
  obtain ⟨A, rfl⟩ : ∃ A : Nat, n = (A : Int) := ⟨n.toNat, by omega⟩
  have e := Lib.itoa_nonneg A
  have hp := dd_pos A
  have hsh := dig_short (A := A) (by omega)
  have hlen : (nuP (A : Int) s).b.length = (Lib.decDigits A).length := by show (Lib.itoa (A : Int)).length = _; rw [e]
  have hbs : bs (nuP (A : Int) s).b = ⟨(Lib.decDigits A).toArray⟩ := by show bs (Lib.itoa (A : Int)) = _; rw [e]; rfl
  have hkb : ∀ j, j < (Lib.decDigits A).length → kb ⟨(Lib.decDigits A).toArray⟩ j = 2 := fun j hj => by
    have hd := dd_dig A _ (List.getElem_mem hj)
    refine dig_kb.1 ?_
    refine ⟨by rw [size_mk]; exact hj, ?_⟩
    rw [byt_mk hj]
    omega
  refine ⟨?_, hs⟩
  rw [hbs, hlen]
  refine ⟨rfl, hp, by rw [size_mk]; omega, by rw [kb_out (by rw [size_mk]; omega)]; decide, .inr ⟨rfl, fun j hj => by rw [Nat.zero_add]; exact hkb j hj, hsh, ?_, rfl, ?_⟩⟩
  · rintro ⟨h2, h3⟩
    by_cases hA : A = 0
    · subst hA; exact absurd h2 (by decide +kernel)
    · obtain ⟨c, r, e2, h4⟩ := dd_head A (by omega)
      have h5 : byt ⟨(Lib.decDigits A).toArray⟩ 0 = (((Lib.decDigits A)[0]'hp).toNat : Int) := byt_mk hp
      rw [h5] at h3
      simp only [e2, List.getElem_cons_zero] at h3
      omega
  · show (A : Int) = numv _ 0 _
    rw [numv_list _ _ (Nat.le_refl _), List.take_length, dd_val]
end Go.Proofs.YtakfcekfmdjklaaDoor
