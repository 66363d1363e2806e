/-
  GreedyStarts, part 3 of 6: what the code computes, and plain laws; no condition beside those that each theorem tells.
-/
import Derived.Test.YtnikajkklocncaaGreedyStartsB
import Derived.Shelf.Bits.Mul64
import Derived.Shelf.Slices.Reverse
import Derived.Ground.Names2Prog
import Derived.Shelf.Slices.Clone
import Derived.Shelf.Slices.Delete
import Derived.Shelf.Slices.Cells
import Derived.Shelf.Slices.Empties
import Derived.Test.YtnikajkklocncaaProg
import Derived.Test.YtnikajkklocncaaRows
import Derived.Deep.RegionHeld
import Derived.Deep.DeepCutAuto
import Derived.Laws.StructEq
import Derived.KernelRfl
import Derived.Laws.Externs
import Derived.Deep.DrawnRows
import Derived.Deep.RegionWith
namespace Go.Proofs.Ytnikajkklocncaa
open Go.RowKit
theorem costI_chk {i : Ins} {x : List Int} (h : (costI i x).2 = 0) : chk i = 0 := by
  refine Decidable.byContradiction fun g => ?_
  unfold costI at h
  rw [if_pos g] at h
  exact g h
theorem costI_kn {i : Ins} {x : List Int} (h : chk i = 0) (hk : i.kind = 1) : costI i x = knpI i x := by unfold costI; rw [if_neg (not_not_intro h), if_pos hk]
theorem costI_or {i : Ins} {x : List Int} (h : chk i = 0) (hk : ¬ i.kind = 1) : costI i x = if ¬ ordP i x then (0, 1) else (sumF (stp i x) i.n.toNat, 0) := by unfold costI; rw [if_neg (not_not_intro h), if_neg hk]
set_option maxRecDepth 100000 in
set_option maxHeartbeats 400000 in
theorem rperm08 (ay : Option Addr) (x : List Int) (cy : Nat) (n : Nat) (w : World) (hy : IntSl w (.slice ay x.length cy) x) :
  Calls Try.prog 45 #[.slice ay x.length cy, .int .i64 ((n : Int))] w fun e w' => e = .returned (.bool (decide (permP x n))) ∧ Below w.heap.size w w' := by
 have hbs := Below.refl (B := w.heap.size) w
 have hM := Mem.start w
 refine Calls.of_ends (vs := [.slice ay x.length cy, .int .i64 ((n : Int))]) Try.func45 rfl Try.ntmps45 rfl ?_
 intro a hA
 replace hA : St 32 [(0, _), (1, _)] a := hA
 refine Ends.seq (Ends.region ?_)
 refine S.val hA (R.assign rfl) rfl ?_; clear hA a; intro a hA
 refine S.done ?_
 refine Ends.seq (Ends.seq (Ends.region ?_))
 refine S.val hA (R.move rfl) rfl ?_; clear hA a; intro a hA
 refine S.val hA (R.lenS Try.underlying22 rfl rfl) rfl ?_; clear hA a; intro a hA
 refine S.val hA (R.move rfl) rfl ?_; clear hA a; intro a hA
 refine S.val hA (R.neq rfl rfl) rfl ?_; clear hA a; intro a hA
 refine S.done ?_
 replace hA : St 32 [(0, _), (1, _), (11, _)] a := hA.sub ((.cons rfl (.cons rfl (.cons rfl .nil))))
 refine Ends.ite hA rfl (fun hc1 => ?_) (fun hc1 => ?_)
 ·
  refine Ends.seq (Ends.region ?_)
  refine S.val hA (R.assign rfl) rfl ?_; clear hA a; intro a hA
  refine S.done ?_
  refine Ends.ret1 Try.func45 Try.results45 hA rfl ?_
  exact ⟨congrArg (fun b => Ending.returned (.bool b)) (decide_eq_false (fun h => hc1 (by have := h.1; omega))).symm, Mem.trans0 hbs hM.nilL⟩
 ·
  have hln : x.length = n := by omega
  have hlx := hy.lenB
  refine Ends.skip (Ends.seq (Ends.seq (Ends.region ?_)))
  refine S.val hA (R.assign rfl) rfl ?_; clear hA a; intro a hA
  refine S.done ?_
  refine Ends.block ?_
  refine Ends.loop (σ := Nat) (fun k (a : Act) (wv : World) => St 32 [(0, .slice ay x.length cy), (1, .int .i64 ((n : Int))), (5, .int .i64 ((k : Int)))] a ∧ Mem w nof [] wv ∧ (k ≤ n) ∧ (∀ j, j < k → x.count ((j : Nat) : Int) = 1)) (fun k => n - k) 0 ⟨hA.sub ((.cons rfl (.cons rfl (.cons rfl .nil)))), hM, (Nat.zero_le _), (fun j h => absurd h (Nat.not_lt_zero j))⟩ ?_
  clear hA hM a
  rintro k a w1 ⟨hA, hM, hk, hall⟩ hNext
  refine Ends.seq (Ends.seq (Ends.region ?_))
  refine S.val hA (R.move rfl) rfl ?_; clear hA a; intro a hA
  refine S.val hA (R.move rfl) rfl ?_; clear hA a; intro a hA
  refine S.val hA (R.lss rfl rfl) rfl ?_; clear hA a; intro a hA
  refine S.done ?_
  refine Ends.ite hA rfl (fun hc2 => ?_) (fun hc2 => ?_)
  ·
   have hkn : k < n := by omega
   refine Ends.skip (Ends.seq (Ends.block (Ends.seq (Ends.region ?_))))
   refine S.val hA (R.assign rfl) rfl ?_; clear hA a; intro a hA
   refine S.done ?_
   refine Ends.seq (Ends.seq (Ends.region ?_))
   refine S.val hA (R.assign rfl) rfl ?_; clear hA a; intro a hA
   refine S.done ?_
   refine Ends.block ?_
   refine Ends.loop (σ := Nat) (fun j (a : Act) (wv : World) => St 32 [(0, .slice ay x.length cy), (1, .int .i64 ((n : Int))), (5, .int .i64 ((k : Int))), (6, .int .i64 (cntI x k j)), (7, .int .i64 ((j : Int)))] a ∧ Mem w nof [] wv ∧ (j ≤ n)) (fun j => n - j) 0 ⟨hA.sub ((.cons rfl (.cons rfl (.cons rfl (.cons rfl (.cons rfl .nil)))))), hM, (Nat.zero_le _)⟩ ?_
   clear hA hM a
   rintro j a w2 ⟨hA, hM, hj⟩ hNext1
   refine Ends.seq (Ends.seq (Ends.region ?_))
   refine S.val hA (R.move rfl) rfl ?_; clear hA a; intro a hA
   refine S.val hA (R.move rfl) rfl ?_; clear hA a; intro a hA
   refine S.val hA (R.lss rfl rfl) rfl ?_; clear hA a; intro a hA
   refine S.done ?_
   refine Ends.ite hA rfl (fun hc3 => ?_) (fun hc3 => ?_)
   ·
    have hj9 : j < x.length := by omega
    have hcb := cntI_bd x k j
    have hcs := cntI_step (k := k) hj9
    refine Ends.skip (Ends.seq (Ends.block (Ends.seq (Ends.region ?_))))
    refine S.val hA (R.move rfl) rfl ?_; clear hA a; intro a hA
    refine S.val hA (R.move rfl) rfl ?_; clear hA a; intro a hA
    refine S.val hA (R.idxI hy (j := j) sl22 rfl rfl (by omega) (rfl)) rfl ?_; clear hA a; intro a hA
    refine S.val hA (R.loadI (hy.mem hM) sz3 rfl (by omega)) rfl ?_; clear hA a; intro a hA
    refine S.val hA (R.move rfl) rfl ?_; clear hA a; intro a hA
    refine S.val hA (R.eql rfl rfl) rfl ?_; clear hA a; intro a hA
    refine S.done ?_
    replace hA : St 32 [(0, _), (1, _), (5, _), (6, _), (7, _), (27, _)] a := hA.sub ((.cons rfl (.cons rfl (.cons rfl (.cons rfl (.cons rfl (.cons rfl .nil)))))))
    refine Ends.ite hA rfl (fun hc4 => ?_) (fun hc4 => ?_)
    ·
     rw [if_pos hc4] at hcs
     refine Ends.region ?_
     refine S.val hA (R.move rfl) rfl ?_; clear hA a; intro a hA
     refine S.val hA (R.addI rfl rfl (r := (cntI x k j) + 1) rfl (by omega)) rfl ?_; clear hA a; intro a hA
     refine S.val hA (R.assign rfl) rfl ?_; clear hA a; intro a hA
     refine S.done ?_
     refine Ends.inBlock (Ends.region ?_)
     refine S.val hA (R.move rfl) rfl ?_; clear hA a; intro a hA
     refine S.val hA (R.addI rfl rfl (r := ((j : Int)) + 1) rfl (by omega)) rfl ?_; clear hA a; intro a hA
     refine S.val hA (R.assign rfl) rfl ?_; clear hA a; intro a hA
     refine S.done ?_
     replace hA : St 32 [(0, _), (1, _), (5, _), (6, _), (7, _)] a := hA.sub ((.cons rfl (.cons rfl (.cons rfl (.cons rfl (.cons rfl .nil))))))
     have hc9 : cntI x k (j + 1) = (cntI x k j) + 1 := by omega
     rw [← hc9] at hA
     exact hNext1 ((j + 1)) _ _ ((by show n - (j + 1) < n - j; omega)) ⟨hA.sub ((.cons rfl (.cons rfl (.cons rfl (.cons rfl (.cons rfl .nil)))))), hM, (by omega)⟩
    ·
     rw [if_neg hc4] at hcs
     refine Ends.skip (Ends.inBlock (Ends.region ?_))
     refine S.val hA (R.move rfl) rfl ?_; clear hA a; intro a hA
     refine S.val hA (R.addI rfl rfl (r := ((j : Int)) + 1) rfl (by omega)) rfl ?_; clear hA a; intro a hA
     refine S.val hA (R.assign rfl) rfl ?_; clear hA a; intro a hA
     refine S.done ?_
     have hc9 : cntI x k (j + 1) = cntI x k j := by omega
     rw [← hc9] at hA
     exact hNext1 ((j + 1)) _ _ ((by show n - (j + 1) < n - j; omega)) ⟨hA.sub ((.cons rfl (.cons rfl (.cons rfl (.cons rfl (.cons rfl .nil)))))), hM, (by omega)⟩
   ·
    have hje : j = x.length := by omega
    refine Ends.exit rfl ?_
    replace hA : St 32 [(0, _), (1, _), (5, _), (6, _)] a := hA.sub ((.cons rfl (.cons rfl (.cons rfl (.cons rfl .nil)))))
    refine Ends.seq (Ends.region ?_)
    refine S.val hA (R.move rfl) rfl ?_; clear hA a; intro a hA
    refine S.val hA (R.neq rfl rfl) rfl ?_; clear hA a; intro a hA
    refine S.done ?_
    refine Ends.ite hA rfl (fun hc5 => ?_) (fun hc5 => ?_)
    ·
     refine Ends.seq (Ends.region ?_)
     refine S.val hA (R.assign rfl) rfl ?_; clear hA a; intro a hA
     refine S.done ?_
     refine Ends.ret1 Try.func45 Try.results45 hA rfl ?_
     have hno := perm_no (n := n) hkn (by rw [← hje]; exact hc5)
     exact ⟨congrArg (fun b => Ending.returned (.bool b)) (decide_eq_false hno).symm, Mem.trans0 hbs hM.nilL⟩
    ·
     refine Ends.skip (Ends.inBlock (Ends.region ?_))
     refine S.val hA (R.move rfl) rfl ?_; clear hA a; intro a hA
     refine S.val hA (R.addI rfl rfl (r := ((k : Int)) + 1) rfl (by omega)) rfl ?_; clear hA a; intro a hA
     refine S.val hA (R.assign rfl) rfl ?_; clear hA a; intro a hA
     refine S.done ?_
     replace hA : St 32 [(0, _), (1, _), (5, _)] a := hA.sub ((.cons rfl (.cons rfl (.cons rfl .nil))))
     have hall2 := perm_step hall (by rw [← hje]; exact Decidable.not_not.1 hc5)
     exact hNext ((k + 1)) _ _ ((by show n - (k + 1) < n - k; omega)) ⟨hA.sub ((.cons rfl (.cons rfl (.cons rfl .nil)))), hM, (by omega), hall2⟩
  ·
   have hke : k = n := by omega
   refine Ends.exit rfl ?_
   replace hA : St 32 [] a := hA.sub (.nil)
   refine Ends.seq (Ends.region ?_)
   refine S.val hA (R.assign rfl) rfl ?_; clear hA a; intro a hA
   refine S.done ?_
   refine Ends.ret1 Try.func45 Try.results45 hA rfl ?_
   exact ⟨congrArg (fun b => Ending.returned (.bool b)) (decide_eq_true (p := permP x n) ⟨hln, fun j hj => hall j (by omega)⟩).symm, Mem.trans0 hbs hM.nilL⟩
set_option maxRecDepth 100000 in
set_option maxHeartbeats 400000 in
theorem rcost08 (i : Ins) (ax3 : Option Addr) (cx3 : Nat) (ax4 : Option Addr) (cx4 : Nat) (ax5 : Option Addr) (cx5 : Nat) (ay : Option Addr) (x : List Int) (cy : Nat) (w : World) (hx3 : IntSl w (.slice ax3 i.wt.length cx3) i.wt) (hx4 : IntSl w (.slice ax4 i.vl.length cx4) i.vl) (hx5 : RowsV w (.slice ax5 i.cost.length cx5) i.cost) (hy : IntSl w (.slice ay x.length cy) x) :
  Calls Try.prog 20 #[.agg #[.int .i64 i.kind, .int .i64 i.n, .int .i64 i.cap, .slice ax3 i.wt.length cx3, .slice ax4 i.vl.length cx4, .slice ax5 i.cost.length cx5], .slice ay x.length cy] w fun e w' => e = .returned (.tuple #[.int .i64 (costI i x).1, .int .i64 (costI i x).2]) ∧ Below w.heap.size w w' := by
 have hbs := Below.refl (B := w.heap.size) w
 have hM := Mem.start w
 refine Calls.of_ends (vs := [.agg #[.int .i64 i.kind, .int .i64 i.n, .int .i64 i.cap, .slice ax3 i.wt.length cx3, .slice ax4 i.vl.length cx4, .slice ax5 i.cost.length cx5], .slice ay x.length cy]) Try.func20 rfl Try.ntmps20 rfl ?_
 intro a hA
 replace hA : St 126 [(0, _), (1, _)] a := hA
 refine Ends.seq (Ends.region ?_)
 refine S.box hA hM rfl rfl ?_; clear hA hM a; intro b1 w1 hb2 hM a hA
 replace hM : Mem _ _ [pt b1 #[.int .i64 i.kind, .int .i64 i.n, .int .i64 i.cap, .slice ax3 i.wt.length cx3, .slice ax4 i.vl.length cx4, .slice ax5 i.cost.length cx5] 25] _ := hM
 refine S.val hA (R.assign rfl) rfl ?_; clear hA a; intro a hA
 refine S.val hA (R.assign rfl) rfl ?_; clear hA a; intro a hA
 refine S.done ?_
 refine Ends.seq (Ends.seq (Ends.region ?_))
 refine S.val hA (R.loadA sz25 rfl (hM.range (k := 0) rfl) rfl) rfl ?_; clear hA a; intro a hA
 refine S.call hA (R.callF Try.func15 rfl rfl rfl) rfl (rcheck05 i ax3 cx3 ax4 cx4 ax5 cx5 _ (hx3.mem hM) (hx4.mem hM) (hx5.mem hM)) ?_; clear hA a
 rintro e w2 ⟨rfl, hb⟩
 replace hM := hM.callB hb; clear hb
 refine ⟨.int .i64 (chk i), rfl, fun a hA => ?_⟩
 refine S.val hA (R.assign rfl) rfl ?_; clear hA a; intro a hA
 refine S.done ?_
 replace hA : St 126 [(1, _), (2, _), (6, _)] a := hA.sub ((.cons rfl (.cons rfl (.cons rfl .nil))))
 refine Ends.seq (Ends.region ?_)
 refine S.val hA (R.move rfl) rfl ?_; clear hA a; intro a hA
 refine S.val hA (R.neq rfl rfl) rfl ?_; clear hA a; intro a hA
 refine S.done ?_
 refine Ends.ite hA rfl (fun hc3 => ?_) (fun hc3 => ?_)
 ·
  refine Ends.seq (Ends.region ?_)
  refine S.val hA (R.move rfl) rfl ?_; clear hA a; intro a hA
  refine S.val hA (R.assign rfl) rfl ?_; clear hA a; intro a hA
  refine S.val hA (R.assign rfl) rfl ?_; clear hA a; intro a hA
  refine S.done ?_
  replace hA : St 126 [(1, _), (2, _), (4, _), (5, _)] a := hA.sub ((.cons rfl (.cons rfl (.cons rfl (.cons rfl .nil)))))
  refine Ends.ret2 Try.func20 Try.results20 hA rfl rfl ?_
  have he : costI i x = (0, chk i) := if_pos hc3
  exact ⟨by rw [he], Mem.trans0 hbs hM.nilL⟩
 ·
  have hz : chk i = 0 := Decidable.not_not.1 hc3
  have hF := chk_inF hz
  have f2 := hF.n1
  have f3 := hF.n64
  have f5 := hF.wt
  have f6 := hF.vl
  have f7 := hF.cost
  have hlx0 := inF_len hF
  have hlx := hy.lenB
  refine Ends.skip (Ends.seq (Ends.seq (Ends.region ?_)))
  refine S.val hA (R.fieldAddr (q := 0) fi25_0 rfl rfl rfl) rfl ?_; clear hA a; intro a hA
  refine S.val hA (R.load sz3 rfl (hM.cell (k := 0) rfl rfl)) rfl ?_; clear hA a; intro a hA
  refine S.val hA (R.neq rfl rfl) rfl ?_; clear hA a; intro a hA
  refine S.done ?_
  replace hA : St 126 [(1, _), (2, _), (19, _)] a := hA.sub ((.cons rfl (.cons rfl (.cons rfl .nil))))
  refine Ends.ite hA rfl (fun hc4 => ?_) (fun hc4 => ?_)
  ·
   have hkn : ¬ i.kind = 1 := hc4
   have f4 := hF.n24 hkn
   rw [if_neg hkn] at f7
   obtain ⟨n, hn⟩ : ∃ n : Nat, i.n = (n : Int) := ⟨i.n.toNat, by omega⟩
   have hnt : i.n.toNat = n := by omega
   rw [hn] at hM
   replace hM : Mem _ _ [pt b1 #[.int .i64 i.kind, .int .i64 ((n : Int)), .int .i64 i.cap, .slice ax3 i.wt.length cx3, .slice ax4 i.vl.length cx4, .slice ax5 i.cost.length cx5] 25] _ := hM
   refine Ends.seq (Ends.seq ?_)
   refine Ends.cut (fun (a : Act) (wv : World) => St 126 [(1, .slice ay x.length cy), (2, .pointer (some ⟨b1, 0, none⟩)), (35, .bool (decide ((¬ (permP x n) ∨ (i.kind = 3 ∧ (x.getD 0 0) ≠ 0)))))] a ∧ Mem w nof [pt b1 #[.int .i64 i.kind, .int .i64 ((n : Int)), .int .i64 i.cap, .slice ax3 i.wt.length cx3, .slice ax4 i.vl.length cx4, .slice ax5 i.cost.length cx5] 25] wv) ?_ (fun k2 hJ => ?_)
   ·
    clear hA hM a; rintro a w3 ⟨hA, hM⟩
    refine Ends.ite hA rfl (fun hc5 => ?_) (fun hc5 => ?_)
    ·
     refine Ends.seq (Ends.region ?_)
     refine S.val hA (R.assign rfl) rfl ?_; clear hA a; intro a hA
     refine S.val hA (R.assign rfl) rfl ?_; clear hA a; intro a hA
     refine S.done ?_
     refine Ends.ret2 Try.func20 Try.results20 hA rfl rfl ?_
     have hno : ¬ ordP i x := fun h9 => by have h8 := h9.1; rw [hnt] at h8; rcases hc5 with g | g; exact g h8; exact g.2 (h9.2 g.1)
     have he : costI i x = (0, 1) := by rw [costI_or hz hkn, if_pos hno]
     exact ⟨by rw [he], Mem.trans0 hbs hM.nilL⟩
    ·
     have hp : permP x n := Classical.byContradiction fun h9 => hc5 (.inl h9)
     have ho : ordP i x := ⟨by rw [hnt]; exact hp, fun h3 => Classical.byContradiction fun h9 => hc5 (.inr ⟨h3, h9⟩)⟩
     have hlp := hp.1
     refine Ends.skip (Ends.seq (Ends.region ?_))
     refine S.val hA (R.assign rfl) rfl ?_; clear hA a; intro a hA
     refine S.done ?_
     refine Ends.seq (Ends.seq (Ends.region ?_))
     refine S.val hA (R.assign rfl) rfl ?_; clear hA a; intro a hA
     refine S.done ?_
     refine Ends.block ?_
     refine Ends.loop (σ := Nat) (fun k (a : Act) (wv : World) => St 126 [(1, .slice ay x.length cy), (2, .pointer (some ⟨b1, 0, none⟩)), (7, .int .i64 (sumF (stp i x) k)), (8, .int .i64 ((k : Int)))] a ∧ Mem w nof [pt b1 #[.int .i64 i.kind, .int .i64 ((n : Int)), .int .i64 i.cap, .slice ax3 i.wt.length cx3, .slice ax4 i.vl.length cx4, .slice ax5 i.cost.length cx5] 25] wv ∧ (k ≤ x.length)) (fun k => x.length - k) 0 ⟨hA.sub ((.cons rfl (.cons rfl (.cons rfl (.cons rfl .nil))))), hM, (Nat.zero_le _)⟩ ?_
     clear hA hM a
     rintro k a w4 ⟨hA, hM, hk⟩ hNext
     refine Ends.seq (Ends.seq (Ends.region ?_))
     refine S.val hA (R.move rfl) rfl ?_; clear hA a; intro a hA
     refine S.val hA (R.fieldAddr (q := 1) fi25_1 rfl rfl rfl) rfl ?_; clear hA a; intro a hA
     refine S.val hA (R.load sz3 rfl (hM.cell (k := 0) rfl rfl)) rfl ?_; clear hA a; intro a hA
     refine S.val hA (R.lss rfl rfl) rfl ?_; clear hA a; intro a hA
     refine S.done ?_
     refine Ends.ite hA rfl (fun hc6 => ?_) (fun hc6 => ?_)
     ·
      have hkl : k < n := by omega
      have s1 := stp_bd hF x k (by omega)
      have p1 := hp.at_ hkl
      have hrw := hF.row
      have g1 := hF.row k (by omega)
      have g2 := hF.row (x.getD k 0).toNat (by omega)
      have hml := Nat.mod_lt (k + 1) (show 0 < n by omega)
      have p2 := hp.at_ hml
      have hmod : ((k : Int) + 1) % (n : Int) = (((k + 1) % n : Nat) : Int) := by push_cast; rfl
      have d1 := cl2_bd hF k (x.getD k 0)
      have d2 := cl2_bd hF (x.getD k 0) (x.getD ((k + 1) % n) 0)
      have e1 : cl2 i k (x.getD k 0) = (i.cost.getD k []).getD (x.getD k 0).toNat 0 := rfl
      have e2 : cl2 i (x.getD k 0) (x.getD ((k + 1) % n) 0) = (i.cost.getD (x.getD k 0).toNat []).getD (x.getD ((k + 1) % n) 0).toNat 0 := rfl
      refine Ends.skip (Ends.seq (Ends.block (Ends.seq (Ends.region ?_))))
      refine S.val hA (R.fieldAddr (q := 0) fi25_0 rfl rfl rfl) rfl ?_; clear hA a; intro a hA
      refine S.val hA (R.load sz3 rfl (hM.cell (k := 0) rfl rfl)) rfl ?_; clear hA a; intro a hA
      refine S.val hA (R.eql rfl rfl) rfl ?_; clear hA a; intro a hA
      refine S.done ?_
      replace hA : St 126 [(1, _), (2, _), (7, _), (8, _), (44, _)] a := hA.sub ((.cons rfl (.cons rfl (.cons rfl (.cons rfl (.cons rfl .nil))))))
      refine Ends.ite hA rfl (fun hc7 => ?_) (fun hc7 => ?_)
      ·
       refine Ends.drawn (Mem w nof [pt b1 #[.int .i64 i.kind, .int .i64 ((n : Int)), .int .i64 i.cap, .slice ax3 i.wt.length cx3, .slice ax4 i.vl.length cx4, .slice ax5 i.cost.length cx5] 25]) (.cons (0, true) (.cons (1, true) (.cons (2, true) (.cons (3, true) (.cons (4, true) (.cons (5, true) (.cons (6, true) (.cons (7, true) (.cons (8, true) (.cons (9, true) (.cons (10, true) (.cons (11, true) (.cons (12, true) (.cons (13, true) .nil)))))))))))))) 14 mixed (by kernel_rfl) (by kernel_rfl) (by kernel_rfl) hM.drew ?_
       replace hM := hM.drew
       refine D.valF hA rfl (fun _ => R.move rfl) rfl ?_; clear hA a; intro a hA
       refine D.valF hA rfl (fun _ => R.fieldAddr (q := 5) fi25_5 rfl rfl rfl) rfl ?_; clear hA a; intro a hA
       refine D.val hA rfl (by kernel_rfl) (fun _ hM => R.load sz23 rfl (hM.cell (k := 0) rfl rfl)) rfl ?_; clear hA a; intro a hA
       refine D.valF hA rfl (fun _ => R.move rfl) rfl ?_; clear hA a; intro a hA
       refine D.valF hA rfl (fun _ => R.idxR hx5 (j := k) sl23 rfl rfl (by first | omega | exact hmod | (rw [hmod]; omega) | (have h9 := Decidable.not_not.1 ‹¬ ¬ permP x n›; have h8 := h9.1; omega)) (by first | omega | exact hmod | (rw [hmod]; omega) | (have h9 := Decidable.not_not.1 ‹¬ ¬ permP x n›; have h8 := h9.1; omega))) rfl ?_; clear hA a; intro a hA
       obtain ⟨ra8, rc9, hrow10, hld11⟩ := hx5.atP (i := k) (by first | omega | exact hmod | (rw [hmod]; omega) | (have h9 := Decidable.not_not.1 ‹¬ ¬ permP x n›; have h8 := h9.1; omega))
       refine D.val hA rfl (by kernel_rfl) (fun _ hM => hld11 _ _ _ _ _ _ hM sz22 rfl) rfl ?_; clear hA a; intro a hA
       refine D.valF hA rfl (fun _ => R.move rfl) rfl ?_; clear hA a; intro a hA
       refine D.valF hA rfl (fun _ => R.move rfl) rfl ?_; clear hA a; intro a hA
       refine D.valF hA rfl (fun _ => R.idxI hy (j := k) sl22 rfl rfl (by first | omega | exact hmod | (rw [hmod]; omega) | (have h9 := Decidable.not_not.1 ‹¬ ¬ permP x n›; have h8 := h9.1; omega)) (rfl)) rfl ?_; clear hA a; intro a hA
       refine D.val hA rfl (by kernel_rfl) (fun _ hM => R.loadI (hy.mem hM) sz3 rfl (by first | omega | exact hmod | (rw [hmod]; omega) | (have h9 := Decidable.not_not.1 ‹¬ ¬ permP x n›; have h8 := h9.1; omega))) rfl ?_; clear hA a; intro a hA
       refine D.valF hA rfl (fun _ => R.idxI hrow10 (j := (x.getD k 0).toNat) sl22 rfl rfl (by first | omega | exact hmod | (rw [hmod]; omega) | (have h9 := Decidable.not_not.1 ‹¬ ¬ permP x n›; have h8 := h9.1; omega)) (rfl)) rfl ?_; clear hA a; intro a hA
       refine D.val hA rfl (by kernel_rfl) (fun _ hM => R.loadI (hrow10.mem hM) sz3 rfl (by first | omega | exact hmod | (rw [hmod]; omega) | (have h9 := Decidable.not_not.1 ‹¬ ¬ permP x n›; have h8 := h9.1; omega))) rfl ?_; clear hA a; intro a hA
       refine D.valF hA rfl (fun _ => R.addI rfl rfl (r := (sumF (stp i x) k) + (((i.cost.getD k [])).getD ((x.getD k 0).toNat) 0)) rfl (by first | omega | exact hmod | (rw [hmod]; omega) | (have h9 := Decidable.not_not.1 ‹¬ ¬ permP x n›; have h8 := h9.1; omega))) rfl ?_; clear hA a; intro a hA
       refine D.valF hA rfl (fun _ => R.assign rfl) rfl ?_; clear hA a; intro a hA
       refine D.done ?_
       replace hA : St 126 [(1, _), (2, _), (7, _), (8, _)] a := hA.sub ((.cons rfl (.cons rfl (.cons rfl (.cons rfl .nil)))))
       refine Ends.inBlock (Ends.region ?_)
       refine S.val hA (R.move rfl) rfl ?_; clear hA a; intro a hA
       refine S.val hA (R.addI rfl rfl (r := ((k : Int)) + 1) rfl (by first | omega | exact hmod | (rw [hmod]; omega) | (have h9 := Decidable.not_not.1 ‹¬ ¬ permP x n›; have h8 := h9.1; omega))) rfl ?_; clear hA a; intro a hA
       refine S.val hA (R.assign rfl) rfl ?_; clear hA a; intro a hA
       refine S.done ?_
       have hs9 : sumF (stp i x) (k + 1) = (sumF (stp i x) k) + (((i.cost.getD k [])).getD ((x.getD k 0).toNat) 0) := by simp only [sumF, stp]; rw [if_pos hc7]; rfl
       rw [← hs9] at hA
       exact hNext ((k + 1)) _ _ ((by show x.length - (k + 1) < x.length - k; omega)) ⟨hA.sub ((.cons rfl (.cons rfl (.cons rfl (.cons rfl .nil))))), hM, (by omega)⟩
      ·
       refine Ends.drawn (Mem w nof [pt b1 #[.int .i64 i.kind, .int .i64 ((n : Int)), .int .i64 i.cap, .slice ax3 i.wt.length cx3, .slice ax4 i.vl.length cx4, .slice ax5 i.cost.length cx5] 25]) (.cons (0, true) (.cons (1, true) (.cons (2, true) (.cons (3, true) (.cons (4, true) (.cons (5, true) (.cons (6, true) (.cons (7, true) (.cons (8, true) (.cons (9, true) (.cons (10, true) (.cons (11, true) (.cons (12, true) (.cons (13, true) (.cons (14, true) (.cons (15, true) (.cons (16, true) (.cons (17, true) (.cons (18, true) (.cons (19, true) (.cons (20, true) .nil))))))))))))))))))))) 21 mixed (by kernel_rfl) (by kernel_rfl) (by kernel_rfl) hM.drew ?_
       replace hM := hM.drew
       refine D.valF hA rfl (fun _ => R.move rfl) rfl ?_; clear hA a; intro a hA
       refine D.valF hA rfl (fun _ => R.fieldAddr (q := 5) fi25_5 rfl rfl rfl) rfl ?_; clear hA a; intro a hA
       refine D.val hA rfl (by kernel_rfl) (fun _ hM => R.load sz23 rfl (hM.cell (k := 0) rfl rfl)) rfl ?_; clear hA a; intro a hA
       refine D.valF hA rfl (fun _ => R.move rfl) rfl ?_; clear hA a; intro a hA
       refine D.valF hA rfl (fun _ => R.move rfl) rfl ?_; clear hA a; intro a hA
       refine D.valF hA rfl (fun _ => R.idxI hy (j := k) sl22 rfl rfl (by first | omega | exact hmod | (rw [hmod]; omega) | (have h9 := Decidable.not_not.1 ‹¬ ¬ permP x n›; have h8 := h9.1; omega)) (rfl)) rfl ?_; clear hA a; intro a hA
       refine D.val hA rfl (by kernel_rfl) (fun _ hM => R.loadI (hy.mem hM) sz3 rfl (by first | omega | exact hmod | (rw [hmod]; omega) | (have h9 := Decidable.not_not.1 ‹¬ ¬ permP x n›; have h8 := h9.1; omega))) rfl ?_; clear hA a; intro a hA
       refine D.valF hA rfl (fun _ => R.idxR hx5 (j := (x.getD k 0).toNat) sl23 rfl rfl (by first | omega | exact hmod | (rw [hmod]; omega) | (have h9 := Decidable.not_not.1 ‹¬ ¬ permP x n›; have h8 := h9.1; omega)) (rfl)) rfl ?_; clear hA a; intro a hA
       obtain ⟨ra12, rc13, hrow14, hld15⟩ := hx5.atP (i := (x.getD k 0).toNat) (by first | omega | exact hmod | (rw [hmod]; omega) | (have h9 := Decidable.not_not.1 ‹¬ ¬ permP x n›; have h8 := h9.1; omega))
       refine D.val hA rfl (by kernel_rfl) (fun _ hM => hld15 _ _ _ _ _ _ hM sz22 rfl) rfl ?_; clear hA a; intro a hA
       refine D.valF hA rfl (fun _ => R.move rfl) rfl ?_; clear hA a; intro a hA
       refine D.valF hA rfl (fun _ => R.move rfl) rfl ?_; clear hA a; intro a hA
       refine D.valF hA rfl (fun _ => R.addI rfl rfl (r := ((k : Int)) + 1) rfl (by first | omega | exact hmod | (rw [hmod]; omega) | (have h9 := Decidable.not_not.1 ‹¬ ¬ permP x n›; have h8 := h9.1; omega))) rfl ?_; clear hA a; intro a hA
       refine D.valF hA rfl (fun _ => R.fieldAddr (q := 1) fi25_1 rfl rfl rfl) rfl ?_; clear hA a; intro a hA
       refine D.val hA rfl (by kernel_rfl) (fun _ hM => R.load sz3 rfl (hM.cell (k := 0) rfl rfl)) rfl ?_; clear hA a; intro a hA
       refine D.valF hA rfl (fun _ => R.remI rfl rfl (r := (((k + 1) % n : Nat) : Int)) (by first | omega | exact hmod | (rw [hmod]; omega) | (have h9 := Decidable.not_not.1 ‹¬ ¬ permP x n›; have h8 := h9.1; omega)) (by first | omega | exact hmod | (rw [hmod]; omega) | (have h9 := Decidable.not_not.1 ‹¬ ¬ permP x n›; have h8 := h9.1; omega))) rfl ?_; clear hA a; intro a hA
       refine D.valF hA rfl (fun _ => R.idxI hy (j := ((k + 1) % n)) sl22 rfl rfl (by first | omega | exact hmod | (rw [hmod]; omega) | (have h9 := Decidable.not_not.1 ‹¬ ¬ permP x n›; have h8 := h9.1; omega)) (by first | omega | exact hmod | (rw [hmod]; omega) | (have h9 := Decidable.not_not.1 ‹¬ ¬ permP x n›; have h8 := h9.1; omega))) rfl ?_; clear hA a; intro a hA
       refine D.val hA rfl (by kernel_rfl) (fun _ hM => R.loadI (hy.mem hM) sz3 rfl (by first | omega | exact hmod | (rw [hmod]; omega) | (have h9 := Decidable.not_not.1 ‹¬ ¬ permP x n›; have h8 := h9.1; omega))) rfl ?_; clear hA a; intro a hA
       refine D.valF hA rfl (fun _ => R.idxI hrow14 (j := (x.getD (((k + 1) % n)) 0).toNat) sl22 rfl rfl (by first | omega | exact hmod | (rw [hmod]; omega) | (have h9 := Decidable.not_not.1 ‹¬ ¬ permP x n›; have h8 := h9.1; omega)) (rfl)) rfl ?_; clear hA a; intro a hA
       refine D.val hA rfl (by kernel_rfl) (fun _ hM => R.loadI (hrow14.mem hM) sz3 rfl (by first | omega | exact hmod | (rw [hmod]; omega) | (have h9 := Decidable.not_not.1 ‹¬ ¬ permP x n›; have h8 := h9.1; omega))) rfl ?_; clear hA a; intro a hA
       refine D.valF hA rfl (fun _ => R.addI rfl rfl (r := (sumF (stp i x) k) + (((i.cost.getD ((x.getD k 0).toNat) [])).getD ((x.getD (((k + 1) % n)) 0).toNat) 0)) rfl (by first | omega | exact hmod | (rw [hmod]; omega) | (have h9 := Decidable.not_not.1 ‹¬ ¬ permP x n›; have h8 := h9.1; omega))) rfl ?_; clear hA a; intro a hA
       refine D.valF hA rfl (fun _ => R.assign rfl) rfl ?_; clear hA a; intro a hA
       refine D.done ?_
       replace hA : St 126 [(1, _), (2, _), (7, _), (8, _)] a := hA.sub ((.cons rfl (.cons rfl (.cons rfl (.cons rfl .nil)))))
       refine Ends.inBlock (Ends.region ?_)
       refine S.val hA (R.move rfl) rfl ?_; clear hA a; intro a hA
       refine S.val hA (R.addI rfl rfl (r := ((k : Int)) + 1) rfl (by first | omega | exact hmod | (rw [hmod]; omega) | (have h9 := Decidable.not_not.1 ‹¬ ¬ permP x n›; have h8 := h9.1; omega))) rfl ?_; clear hA a; intro a hA
       refine S.val hA (R.assign rfl) rfl ?_; clear hA a; intro a hA
       refine S.done ?_
       have hs9 : sumF (stp i x) (k + 1) = (sumF (stp i x) k) + (((i.cost.getD ((x.getD k 0).toNat) [])).getD ((x.getD (((k + 1) % n)) 0).toNat) 0) := by simp only [sumF, stp]; rw [if_neg hc7]; rw [hnt]; rfl
       rw [← hs9] at hA
       exact hNext ((k + 1)) _ _ ((by show x.length - (k + 1) < x.length - k; omega)) ⟨hA.sub ((.cons rfl (.cons rfl (.cons rfl (.cons rfl .nil))))), hM, (by omega)⟩
     ·
      have hke : k = i.n.toNat := by omega
      refine Ends.exit rfl ?_
      replace hA : St 126 [(1, _), (2, _), (7, _)] a := hA.sub ((.cons rfl (.cons rfl (.cons rfl .nil))))
      refine Ends.seq (Ends.region ?_)
      refine S.val hA (R.move rfl) rfl ?_; clear hA a; intro a hA
      refine S.val hA (R.assign rfl) rfl ?_; clear hA a; intro a hA
      refine S.val hA (R.assign rfl) rfl ?_; clear hA a; intro a hA
      refine S.done ?_
      refine Ends.ret2 Try.func20 Try.results20 hA rfl rfl ?_
      have he : costI i x = (sumF (stp i x) i.n.toNat, 0) := by rw [costI_or hz hkn, if_neg (not_not_intro ho)]
      exact ⟨by rw [he, hke], Mem.trans0 hbs hM.nilL⟩
   ·
    refine Ends.region ?_
    refine S.val hA (R.move rfl) rfl ?_; clear hA a; intro a hA
    refine S.val hA (R.fieldAddr (q := 1) fi25_1 rfl rfl rfl) rfl ?_; clear hA a; intro a hA
    refine S.val hA (R.load sz3 rfl (hM.cell (k := 0) rfl rfl)) rfl ?_; clear hA a; intro a hA
    refine S.call hA (R.callF Try.func45 rfl rfl rfl) rfl (rperm08 ay x cy n _ (hy.mem hM)) ?_; clear hA a
    rintro e w5 ⟨rfl, hb⟩
    replace hM := hM.callB hb; clear hb
    refine ⟨.bool (decide (permP x n)), rfl, fun a hA => ?_⟩
    refine S.val hA (R.notD rfl) rfl ?_; clear hA a; intro a hA
    refine S.val hA (R.move rfl) rfl ?_; clear hA a; intro a hA
    refine hA.split (d := 25) rfl ?_ ?_
    ·
     clear hA; intro hg16 hA
     refine S.no (dj := 25) hA (by kernel_rfl) rfl rfl rfl ?_; clear hA a; intro a hA
     refine S.no (dj := 25) hA (by kernel_rfl) rfl rfl rfl ?_; clear hA a; intro a hA
     refine S.no (dj := 25) hA (by kernel_rfl) rfl rfl rfl ?_; clear hA a; intro a hA
     refine S.no (dj := 25) hA (by kernel_rfl) rfl rfl rfl ?_; clear hA a; intro a hA
     refine S.noU (dj := 29) hA (by kernel_rfl) rfl rfl ?_; clear hA a; intro a hA
     refine S.noU (dj := 29) hA (by kernel_rfl) rfl rfl ?_; clear hA a; intro a hA
     refine S.noU (dj := 29) hA (by kernel_rfl) rfl rfl ?_; clear hA a; intro a hA
     refine S.noU (dj := 29) hA (by kernel_rfl) rfl rfl ?_; clear hA a; intro a hA
     refine S.no (dj := 25) hA (by kernel_rfl) rfl rfl rfl ?_; clear hA a; intro a hA
     refine S.val hA (R.pickT rfl rfl) rfl ?_; clear hA a; intro a hA
     refine S.done ?_
     replace hA : St 126 [(1, _), (2, _), (35, _)] a := hA.sub ((.cons rfl (.cons rfl (.cons rfl .nil))))
     exact hJ _ _ ⟨hA.sub (.cons rfl (.cons rfl (.cons (by first | rfl | exact congrArg (fun b => some (Value.bool b)) (by first | exact decide_eq_decide.2 (by omega) | exact or_bool (by omega) | exact and_bool (by omega) | (simp; done) | (simp [hg16]; done) | (have h80 := hg16; (try simp at h80); simp [h80]; done) | exact (decide_eq_false (fun h9 => hg16 h9.1)).symm)) .nil))), hM⟩
    ·
     clear hA; intro hg16 hA
     refine S.valg (dj := 25) hA (by kernel_rfl) rfl (R.fieldAddr (q := 0) fi25_0 rfl rfl rfl) rfl ?_; clear hA a; intro a hA
     refine S.valg (dj := 25) hA (by kernel_rfl) rfl (R.load sz3 rfl (hM.cell (k := 0) rfl rfl)) rfl ?_; clear hA a; intro a hA
     refine S.valg (dj := 25) hA (by kernel_rfl) rfl (R.eql rfl rfl) rfl ?_; clear hA a; intro a hA
     refine S.valg (dj := 25) hA (by kernel_rfl) rfl (R.move rfl) rfl ?_; clear hA a; intro a hA
     refine hA.split (d := 29) rfl ?_ ?_
     ·
      clear hA; intro hg17 hA
      refine S.valg (dj := 29) hA (by kernel_rfl) rfl (R.move rfl) rfl ?_; clear hA a; intro a hA
      refine S.valg (dj := 29) hA (by kernel_rfl) rfl (R.idxI hy (j := 0) sl22 rfl rfl (by first | omega | exact hmod | (rw [hmod]; omega) | (have h9 := Decidable.not_not.1 ‹¬ ¬ permP x n›; have h8 := h9.1; omega)) (rfl)) rfl ?_; clear hA a; intro a hA
      refine S.valg (dj := 29) hA (by kernel_rfl) rfl (R.loadI (hy.mem hM) sz3 rfl (by first | omega | exact hmod | (rw [hmod]; omega) | (have h9 := Decidable.not_not.1 ‹¬ ¬ permP x n›; have h8 := h9.1; omega))) rfl ?_; clear hA a; intro a hA
      refine S.valg (dj := 29) hA (by kernel_rfl) rfl (R.neq rfl rfl) rfl ?_; clear hA a; intro a hA
      refine S.valg (dj := 25) hA (by kernel_rfl) rfl (R.pickT rfl rfl) rfl ?_; clear hA a; intro a hA
      refine S.val hA (R.pickF rfl rfl) rfl ?_; clear hA a; intro a hA
      refine S.done ?_
      replace hA : St 126 [(1, _), (2, _), (35, _)] a := hA.sub ((.cons rfl (.cons rfl (.cons rfl .nil))))
      exact hJ _ _ ⟨hA.sub (.cons rfl (.cons rfl (.cons (by first | rfl | exact congrArg (fun b => some (Value.bool b)) (by first | exact decide_eq_decide.2 (by omega) | exact or_bool (by omega) | exact and_bool (by omega) | (simp; done) | (simp [hg16, hg17]; done) | (have h80 := hg16; (try simp at h80); have h81 := hg17; (try simp at h81); simp [h80, h81]; done) | exact (decide_eq_false (fun h9 => hg16 h9.1)).symm | exact (decide_eq_false (fun h9 => hg17 h9.1)).symm)) .nil))), hM⟩
     ·
      clear hA; intro hg17 hA
      refine S.no (dj := 29) hA (by kernel_rfl) rfl rfl rfl ?_; clear hA a; intro a hA
      refine S.no (dj := 29) hA (by kernel_rfl) rfl rfl rfl ?_; clear hA a; intro a hA
      refine S.no (dj := 29) hA (by kernel_rfl) rfl rfl rfl ?_; clear hA a; intro a hA
      refine S.no (dj := 29) hA (by kernel_rfl) rfl rfl rfl ?_; clear hA a; intro a hA
      refine S.valg (dj := 25) hA (by kernel_rfl) rfl (R.pickF rfl rfl) rfl ?_; clear hA a; intro a hA
      refine S.val hA (R.pickF rfl rfl) rfl ?_; clear hA a; intro a hA
      refine S.done ?_
      replace hA : St 126 [(1, _), (2, _), (35, _)] a := hA.sub ((.cons rfl (.cons rfl (.cons rfl .nil))))
      exact hJ _ _ ⟨hA.sub (.cons rfl (.cons rfl (.cons (by first | rfl | exact congrArg (fun b => some (Value.bool b)) (by first | exact decide_eq_decide.2 (by omega) | exact or_bool (by omega) | exact and_bool (by omega) | (simp; done) | (simp [hg16, hg17]; done) | (have h80 := hg16; (try simp at h80); have h81 := hg17; (try simp at h81); simp [h80, h81]; done) | exact (decide_eq_false (fun h9 => hg16 h9.1)).symm | exact (decide_eq_false (fun h9 => hg17 h9.1)).symm)) .nil))), hM⟩
  ·
   have hkn : i.kind = 1 := Decidable.not_not.1 hc4
   rw [if_pos hkn] at f5 f6
   refine Ends.skip (Ends.seq (Ends.seq (Ends.region ?_)))
   refine S.val hA (R.move rfl) rfl ?_; clear hA a; intro a hA
   refine S.val hA (R.lenS Try.underlying22 rfl rfl) rfl ?_; clear hA a; intro a hA
   refine S.val hA (R.fieldAddr (q := 1) fi25_1 rfl rfl rfl) rfl ?_; clear hA a; intro a hA
   refine S.val hA (R.load sz3 rfl (hM.cell (k := 0) rfl rfl)) rfl ?_; clear hA a; intro a hA
   refine S.val hA (R.neq rfl rfl) rfl ?_; clear hA a; intro a hA
   refine S.done ?_
   replace hA : St 126 [(1, _), (2, _), (83, _)] a := hA.sub ((.cons rfl (.cons rfl (.cons rfl .nil))))
   refine Ends.ite hA rfl (fun hc18 => ?_) (fun hc18 => ?_)
   ·
    refine Ends.seq (Ends.region ?_)
    refine S.val hA (R.assign rfl) rfl ?_; clear hA a; intro a hA
    refine S.val hA (R.assign rfl) rfl ?_; clear hA a; intro a hA
    refine S.done ?_
    refine Ends.ret2 Try.func20 Try.results20 hA rfl rfl ?_
    have he : costI i x = (0, 1) := by rw [costI_kn hz hkn]; exact if_pos hc18
    exact ⟨by rw [he], Mem.trans0 hbs hM.nilL⟩
   ·
    have hln : (x.length : Int) = i.n := Decidable.not_not.1 hc18
    refine Ends.skip (Ends.seq (Ends.region ?_))
    refine S.val hA (R.assign rfl) rfl ?_; clear hA a; intro a hA
    refine S.val hA (R.assign rfl) rfl ?_; clear hA a; intro a hA
    refine S.done ?_
    refine Ends.seq (Ends.seq (Ends.region ?_))
    refine S.val hA (R.assign rfl) rfl ?_; clear hA a; intro a hA
    refine S.done ?_
    refine Ends.block ?_
    refine Ends.loop (σ := Nat) (fun k (a : Act) (wv : World) => St 126 [(1, .slice ay x.length cy), (2, .pointer (some ⟨b1, 0, none⟩)), (9, .int .i64 (sumF (wtF i x) k)), (10, .int .i64 (sumF (vlF i x) k)), (11, .int .i64 ((k : Int)))] a ∧ Mem w nof [pt b1 #[.int .i64 i.kind, .int .i64 i.n, .int .i64 i.cap, .slice ax3 i.wt.length cx3, .slice ax4 i.vl.length cx4, .slice ax5 i.cost.length cx5] 25] wv ∧ (k ≤ x.length) ∧ (∀ q, q < k → x.getD q 0 = 0 ∨ x.getD q 0 = 1)) (fun k => x.length - k) 0 ⟨hA.sub ((.cons rfl (.cons rfl (.cons rfl (.cons rfl (.cons rfl .nil)))))), hM, (Nat.zero_le _), (fun q h => absurd h (Nat.not_lt_zero q))⟩ ?_
    clear hA hM a
    rintro k a w6 ⟨hA, hM, hk, hbit⟩ hNext1
    refine Ends.seq (Ends.seq (Ends.region ?_))
    refine S.val hA (R.move rfl) rfl ?_; clear hA a; intro a hA
    refine S.val hA (R.fieldAddr (q := 1) fi25_1 rfl rfl rfl) rfl ?_; clear hA a; intro a hA
    refine S.val hA (R.load sz3 rfl (hM.cell (k := 0) rfl rfl)) rfl ?_; clear hA a; intro a hA
    refine S.val hA (R.lss rfl rfl) rfl ?_; clear hA a; intro a hA
    refine S.done ?_
    refine Ends.ite hA rfl (fun hc19 => ?_) (fun hc19 => ?_)
    ·
     have g1 := hF.wtr k
     have g2 := hF.vlr k
     have s1 := wtF_bd hF x k (by omega)
     have s2 := vlF_bd hF x k (by omega)
     refine Ends.skip (Ends.seq (Ends.block (Ends.seq (Ends.seq ?_))))
     refine Ends.cut (fun (a : Act) (wv : World) => St 126 [(1, .slice ay x.length cy), (2, .pointer (some ⟨b1, 0, none⟩)), (9, .int .i64 (sumF (wtF i x) k)), (10, .int .i64 (sumF (vlF i x) k)), (11, .int .i64 ((k : Int))), (101, .bool (decide (((x.getD k 0) ≠ 0 ∧ (x.getD k 0) ≠ 1))))] a ∧ Mem w nof [pt b1 #[.int .i64 i.kind, .int .i64 i.n, .int .i64 i.cap, .slice ax3 i.wt.length cx3, .slice ax4 i.vl.length cx4, .slice ax5 i.cost.length cx5] 25] wv) ?_ (fun k2 hJ => ?_)
     ·
      clear hA hM a; rintro a w7 ⟨hA, hM⟩
      refine Ends.ite hA rfl (fun hc20 => ?_) (fun hc20 => ?_)
      ·
       refine Ends.seq (Ends.region ?_)
       refine S.val hA (R.assign rfl) rfl ?_; clear hA a; intro a hA
       refine S.val hA (R.assign rfl) rfl ?_; clear hA a; intro a hA
       refine S.done ?_
       refine Ends.ret2 Try.func20 Try.results20 hA rfl rfl ?_
       have he : costI i x = (0, 1) := by rw [costI_kn hz hkn]; unfold knpI; rw [if_neg (not_not_intro hln), if_pos (fun hb9 => by have h9 := hb9 k (by omega); have h8 := hc20; omega)]
       exact ⟨by rw [he], Mem.trans0 hbs hM.nilL⟩
      ·
       refine Ends.skip (Ends.seq (Ends.region ?_))
       refine S.val hA (R.move rfl) rfl ?_; clear hA a; intro a hA
       refine S.val hA (R.move rfl) rfl ?_; clear hA a; intro a hA
       refine S.val hA (R.idxI hy (j := k) sl22 rfl rfl (by first | omega | exact hmod | (rw [hmod]; omega) | (have h9 := Decidable.not_not.1 ‹¬ ¬ permP x n›; have h8 := h9.1; omega)) (rfl)) rfl ?_; clear hA a; intro a hA
       refine S.val hA (R.loadI (hy.mem hM) sz3 rfl (by first | omega | exact hmod | (rw [hmod]; omega) | (have h9 := Decidable.not_not.1 ‹¬ ¬ permP x n›; have h8 := h9.1; omega))) rfl ?_; clear hA a; intro a hA
       refine S.val hA (R.eql rfl rfl) rfl ?_; clear hA a; intro a hA
       refine S.done ?_
       replace hA : St 126 [(1, _), (2, _), (9, _), (10, _), (11, _), (106, _)] a := hA.sub ((.cons rfl (.cons rfl (.cons rfl (.cons rfl (.cons rfl (.cons rfl .nil)))))))
       refine Ends.ite hA rfl (fun hc21 => ?_) (fun hc21 => ?_)
       ·
        refine Ends.region ?_
        refine S.val hA (R.move rfl) rfl ?_; clear hA a; intro a hA
        refine S.val hA (R.fieldAddr (q := 3) fi25_3 rfl rfl rfl) rfl ?_; clear hA a; intro a hA
        refine S.val hA (R.load sz22 rfl (hM.cell (k := 0) rfl rfl)) rfl ?_; clear hA a; intro a hA
        refine S.val hA (R.move rfl) rfl ?_; clear hA a; intro a hA
        refine S.val hA (R.idxI hx3 (j := k) sl22 rfl rfl (by first | omega | exact hmod | (rw [hmod]; omega) | (have h9 := Decidable.not_not.1 ‹¬ ¬ permP x n›; have h8 := h9.1; omega)) (rfl)) rfl ?_; clear hA a; intro a hA
        refine S.val hA (R.loadI (hx3.mem hM) sz3 rfl (by first | omega | exact hmod | (rw [hmod]; omega) | (have h9 := Decidable.not_not.1 ‹¬ ¬ permP x n›; have h8 := h9.1; omega))) rfl ?_; clear hA a; intro a hA
        refine S.val hA (R.addI rfl rfl (r := (sumF (wtF i x) k) + (i.wt.getD k 0)) rfl (by first | omega | exact hmod | (rw [hmod]; omega) | (have h9 := Decidable.not_not.1 ‹¬ ¬ permP x n›; have h8 := h9.1; omega))) rfl ?_; clear hA a; intro a hA
        refine S.val hA (R.assign rfl) rfl ?_; clear hA a; intro a hA
        refine S.done ?_
        replace hA : St 126 [(1, _), (2, _), (9, _), (10, _), (11, _)] a := hA.sub ((.cons rfl (.cons rfl (.cons rfl (.cons rfl (.cons rfl .nil))))))
        refine Ends.inBlock (Ends.region ?_)
        refine S.val hA (R.move rfl) rfl ?_; clear hA a; intro a hA
        refine S.val hA (R.addI rfl rfl (r := ((k : Int)) + 1) rfl (by first | omega | exact hmod | (rw [hmod]; omega) | (have h9 := Decidable.not_not.1 ‹¬ ¬ permP x n›; have h8 := h9.1; omega))) rfl ?_; clear hA a; intro a hA
        refine S.val hA (R.assign rfl) rfl ?_; clear hA a; intro a hA
        refine S.done ?_
        have hw9 : sumF (wtF i x) (k + 1) = (sumF (wtF i x) k) + (i.wt.getD k 0) := by simp only [sumF, wtF]; rw [if_pos hc21]
        have hv9 : sumF (vlF i x) (k + 1) = sumF (vlF i x) k := by simp only [sumF, vlF]; rw [if_pos hc21]; omega
        rw [← hw9, ← hv9] at hA
        exact hNext1 ((k + 1)) _ _ ((by show x.length - (k + 1) < x.length - k; omega)) ⟨hA.sub ((.cons rfl (.cons rfl (.cons rfl (.cons rfl (.cons rfl .nil)))))), hM, (by omega), (fun q hq => by rcases Nat.lt_succ_iff_lt_or_eq.1 hq with g | g; exact hbit q g; rw [g]; omega)⟩
       ·
        refine Ends.region ?_
        refine S.val hA (R.move rfl) rfl ?_; clear hA a; intro a hA
        refine S.val hA (R.fieldAddr (q := 4) fi25_4 rfl rfl rfl) rfl ?_; clear hA a; intro a hA
        refine S.val hA (R.load sz22 rfl (hM.cell (k := 0) rfl rfl)) rfl ?_; clear hA a; intro a hA
        refine S.val hA (R.move rfl) rfl ?_; clear hA a; intro a hA
        refine S.val hA (R.idxI hx4 (j := k) sl22 rfl rfl (by first | omega | exact hmod | (rw [hmod]; omega) | (have h9 := Decidable.not_not.1 ‹¬ ¬ permP x n›; have h8 := h9.1; omega)) (rfl)) rfl ?_; clear hA a; intro a hA
        refine S.val hA (R.loadI (hx4.mem hM) sz3 rfl (by first | omega | exact hmod | (rw [hmod]; omega) | (have h9 := Decidable.not_not.1 ‹¬ ¬ permP x n›; have h8 := h9.1; omega))) rfl ?_; clear hA a; intro a hA
        refine S.val hA (R.addI rfl rfl (r := (sumF (vlF i x) k) + (i.vl.getD k 0)) rfl (by first | omega | exact hmod | (rw [hmod]; omega) | (have h9 := Decidable.not_not.1 ‹¬ ¬ permP x n›; have h8 := h9.1; omega))) rfl ?_; clear hA a; intro a hA
        refine S.val hA (R.assign rfl) rfl ?_; clear hA a; intro a hA
        refine S.done ?_
        replace hA : St 126 [(1, _), (2, _), (9, _), (10, _), (11, _)] a := hA.sub ((.cons rfl (.cons rfl (.cons rfl (.cons rfl (.cons rfl .nil))))))
        refine Ends.inBlock (Ends.region ?_)
        refine S.val hA (R.move rfl) rfl ?_; clear hA a; intro a hA
        refine S.val hA (R.addI rfl rfl (r := ((k : Int)) + 1) rfl (by first | omega | exact hmod | (rw [hmod]; omega) | (have h9 := Decidable.not_not.1 ‹¬ ¬ permP x n›; have h8 := h9.1; omega))) rfl ?_; clear hA a; intro a hA
        refine S.val hA (R.assign rfl) rfl ?_; clear hA a; intro a hA
        refine S.done ?_
        have hw9 : sumF (wtF i x) (k + 1) = sumF (wtF i x) k := by simp only [sumF, wtF]; rw [if_neg hc21]; omega
        have hv9 : sumF (vlF i x) (k + 1) = (sumF (vlF i x) k) + (i.vl.getD k 0) := by simp only [sumF, vlF]; rw [if_neg hc21]
        rw [← hw9, ← hv9] at hA
        exact hNext1 ((k + 1)) _ _ ((by show x.length - (k + 1) < x.length - k; omega)) ⟨hA.sub ((.cons rfl (.cons rfl (.cons rfl (.cons rfl (.cons rfl .nil)))))), hM, (by omega), (fun q hq => by rcases Nat.lt_succ_iff_lt_or_eq.1 hq with g | g; exact hbit q g; rw [g]; omega)⟩
     ·
      refine Ends.region ?_
      refine S.val hA (R.move rfl) rfl ?_; clear hA a; intro a hA
      refine S.val hA (R.move rfl) rfl ?_; clear hA a; intro a hA
      refine S.val hA (R.idxI hy (j := k) sl22 rfl rfl (by first | omega | exact hmod | (rw [hmod]; omega) | (have h9 := Decidable.not_not.1 ‹¬ ¬ permP x n›; have h8 := h9.1; omega)) (rfl)) rfl ?_; clear hA a; intro a hA
      refine S.val hA (R.loadI (hy.mem hM) sz3 rfl (by first | omega | exact hmod | (rw [hmod]; omega) | (have h9 := Decidable.not_not.1 ‹¬ ¬ permP x n›; have h8 := h9.1; omega))) rfl ?_; clear hA a; intro a hA
      refine S.val hA (R.neq rfl rfl) rfl ?_; clear hA a; intro a hA
      refine S.val hA (R.move rfl) rfl ?_; clear hA a; intro a hA
      refine hA.split (d := 95) rfl ?_ ?_
      ·
       clear hA; intro hg22 hA
       refine S.valg (dj := 95) hA (by kernel_rfl) rfl (R.move rfl) rfl ?_; clear hA a; intro a hA
       refine S.valg (dj := 95) hA (by kernel_rfl) rfl (R.move rfl) rfl ?_; clear hA a; intro a hA
       refine S.valg (dj := 95) hA (by kernel_rfl) rfl (R.idxI hy (j := k) sl22 rfl rfl (by first | omega | exact hmod | (rw [hmod]; omega) | (have h9 := Decidable.not_not.1 ‹¬ ¬ permP x n›; have h8 := h9.1; omega)) (rfl)) rfl ?_; clear hA a; intro a hA
       refine S.valg (dj := 95) hA (by kernel_rfl) rfl (R.loadI (hy.mem hM) sz3 rfl (by first | omega | exact hmod | (rw [hmod]; omega) | (have h9 := Decidable.not_not.1 ‹¬ ¬ permP x n›; have h8 := h9.1; omega))) rfl ?_; clear hA a; intro a hA
       refine S.valg (dj := 95) hA (by kernel_rfl) rfl (R.neq rfl rfl) rfl ?_; clear hA a; intro a hA
       refine S.val hA (R.pickT rfl rfl) rfl ?_; clear hA a; intro a hA
       refine S.done ?_
       replace hA : St 126 [(1, _), (2, _), (9, _), (10, _), (11, _), (101, _)] a := hA.sub ((.cons rfl (.cons rfl (.cons rfl (.cons rfl (.cons rfl (.cons rfl .nil)))))))
       exact hJ _ _ ⟨hA.sub (.cons rfl (.cons rfl (.cons rfl (.cons rfl (.cons rfl (.cons (by first | rfl | exact congrArg (fun b => some (Value.bool b)) (by first | exact decide_eq_decide.2 (by omega) | exact or_bool (by omega) | exact and_bool (by omega) | (simp; done) | (simp [hg22]; done) | (have h80 := hg22; (try simp at h80); simp [h80]; done) | exact (decide_eq_false (fun h9 => hg22 h9.1)).symm)) .nil)))))), hM⟩
      ·
       clear hA; intro hg22 hA
       refine S.no (dj := 95) hA (by kernel_rfl) rfl rfl rfl ?_; clear hA a; intro a hA
       refine S.no (dj := 95) hA (by kernel_rfl) rfl rfl rfl ?_; clear hA a; intro a hA
       refine S.no (dj := 95) hA (by kernel_rfl) rfl rfl rfl ?_; clear hA a; intro a hA
       refine S.no (dj := 95) hA (by kernel_rfl) rfl rfl rfl ?_; clear hA a; intro a hA
       refine S.no (dj := 95) hA (by kernel_rfl) rfl rfl rfl ?_; clear hA a; intro a hA
       refine S.val hA (R.pickF rfl rfl) rfl ?_; clear hA a; intro a hA
       refine S.done ?_
       replace hA : St 126 [(1, _), (2, _), (9, _), (10, _), (11, _), (101, _)] a := hA.sub ((.cons rfl (.cons rfl (.cons rfl (.cons rfl (.cons rfl (.cons rfl .nil)))))))
       exact hJ _ _ ⟨hA.sub (.cons rfl (.cons rfl (.cons rfl (.cons rfl (.cons rfl (.cons (by first | rfl | exact congrArg (fun b => some (Value.bool b)) (by first | exact decide_eq_decide.2 (by omega) | exact or_bool (by omega) | exact and_bool (by omega) | (simp; done) | (simp [hg22]; done) | (have h80 := hg22; (try simp at h80); simp [h80]; done) | exact (decide_eq_false (fun h9 => hg22 h9.1)).symm)) .nil)))))), hM⟩
    ·
     have hke : k = x.length := by omega
     refine Ends.exit rfl ?_
     replace hA : St 126 [(2, _), (9, _), (10, _)] a := hA.sub ((.cons rfl (.cons rfl (.cons rfl .nil))))
     refine Ends.seq (Ends.seq (Ends.region ?_))
     refine S.val hA (R.move rfl) rfl ?_; clear hA a; intro a hA
     refine S.val hA (R.fieldAddr (q := 2) fi25_2 rfl rfl rfl) rfl ?_; clear hA a; intro a hA
     refine S.val hA (R.load sz3 rfl (hM.cell (k := 0) rfl rfl)) rfl ?_; clear hA a; intro a hA
     refine S.val hA (R.gtr rfl rfl) rfl ?_; clear hA a; intro a hA
     refine S.done ?_
     replace hA : St 126 [(10, _), (124, _)] a := hA.sub ((.cons rfl (.cons rfl .nil)))
     refine Ends.ite hA rfl (fun hc23 => ?_) (fun hc23 => ?_)
     ·
      refine Ends.seq (Ends.region ?_)
      refine S.val hA (R.assign rfl) rfl ?_; clear hA a; intro a hA
      refine S.val hA (R.assign rfl) rfl ?_; clear hA a; intro a hA
      refine S.done ?_
      refine Ends.ret2 Try.func20 Try.results20 hA rfl rfl ?_
      rw [hke] at hbit
      replace hbit : bitP x x.length := hbit
      have hf9 := hc23
      rw [hke] at hf9
      have he : costI i x = (0, 9) := by rw [costI_kn hz hkn]; unfold knpI; rw [if_neg (not_not_intro hln), if_neg (not_not_intro hbit), if_pos hf9]
      exact ⟨by rw [he], Mem.trans0 hbs hM.nilL⟩
     ·
      refine Ends.skip (Ends.seq (Ends.region ?_))
      refine S.val hA (R.move rfl) rfl ?_; clear hA a; intro a hA
      refine S.val hA (R.assign rfl) rfl ?_; clear hA a; intro a hA
      refine S.val hA (R.assign rfl) rfl ?_; clear hA a; intro a hA
      refine S.done ?_
      refine Ends.ret2 Try.func20 Try.results20 hA rfl rfl ?_
      rw [hke] at hbit
      replace hbit : bitP x x.length := hbit
      have hf9 := hc23
      rw [hke] at hf9
      have he : costI i x = (sumF (vlF i x) x.length, 0) := by rw [costI_kn hz hkn]; unfold knpI; rw [if_neg (not_not_intro hln), if_neg (not_not_intro hbit), if_neg hf9]
      exact ⟨by rw [he, hke], Mem.trans0 hbs hM.nilL⟩
end Go.Proofs.Ytnikajkklocncaa
namespace Go.Proofs.Ytnikajkklocncaa
def pl (n : Nat) : List Int := (List.range n).map fun (i : Nat) => (i : Int)
theorem pl_len (n : Nat) : (pl n).length = n := by simp [pl]
theorem pl_succ (n : Nat) : pl (n + 1) = pl n ++ [(n : Int)] := by simp [pl, List.range_succ]
theorem mem_pl {n : Nat} {x : Int} : x ∈ pl n ↔ 0 ≤ x ∧ x < n := by
  simp only [pl, List.mem_map, List.mem_range]
  constructor
  · rintro ⟨a, h, rfl⟩; omega
  · intro h; exact ⟨x.toNat, by omega, by omega⟩
theorem pl_pw (n : Nat) : (pl n).Pairwise (· < ·) := by
  rw [pl, List.pairwise_map]
  exact List.pairwise_lt_range.imp fun h => by omega
theorem pl_nodup (n : Nat) : (pl n).Nodup := (pl_pw n).imp fun h => by omega
theorem pl_set (n k : Nat) (h : k < n) : (pl k ++ List.replicate (n - k) 0).set k (k : Int) = pl (k + 1) ++ List.replicate (n - (k + 1)) 0 := by
  rw [List.set_append_right _ _ (by rw [pl_len]; exact Nat.le_refl _), pl_len, Nat.sub_self, show n - k = (n - (k + 1)) + 1 by omega, List.replicate_succ, List.set_cons_zero, pl_succ, List.append_assoc]
  rfl
section
variable (lt : Int → Int → Bool)
def mrg : List Int → List Int → List Int
  | l, [] => l
  | [], b :: r => b :: r
  | a :: l, b :: r => if lt b a then b :: mrg (a :: l) r else a :: mrg l (b :: r)
termination_by l r => l.length + r.length
def msort : Nat → List Int → List Int
  | 0, p => p
  | f + 1, p => if p.length < 2 then p else mrg lt (msort f (p.take (p.length / 2))) (msort f (p.drop (p.length / 2)))
def rbo (a b : Int) : Bool := lt a b || (!lt b a && decide (a < b))
end
section
variable {lt : Int → Int → Bool}
theorem mrg_nil (l : List Int) : mrg lt l [] = l := by cases l <;> simp [mrg]
theorem nil_mrg (r : List Int) : mrg lt [] r = r := by cases r <;> simp [mrg]
theorem mrg_perm : ∀ (l r : List Int), (mrg lt l r).Perm (l ++ r)
  | l, [] => by rw [mrg_nil, List.append_nil]
  | [], b :: r => by rw [nil_mrg]; exact .refl _
  | a :: l, b :: r => by
    rw [mrg]
    split
    · exact ((mrg_perm (a :: l) r).cons b).trans List.perm_middle.symm
    · exact (mrg_perm l (b :: r)).cons a
termination_by l r => l.length + r.length
theorem msort_perm : ∀ (f : Nat) (p : List Int), (msort lt f p).Perm p
  | 0, p => .refl _
  | f + 1, p => by
    rw [msort]
    split
    · exact .refl _
    · have h := (mrg_perm (lt := lt) (msort lt f (p.take (p.length / 2))) (msort lt f (p.drop (p.length / 2)))).trans ((msort_perm f _).append (msort_perm f _))
      rwa [List.take_append_drop] at h
theorem msort_len (f : Nat) (p : List Int) : (msort lt f p).length = p.length := (msort_perm f p).length_eq
variable {A : Int → Prop} (htr : ∀ a b c, A a → A b → A c → rbo lt a b = true → rbo lt b c = true → rbo lt a c = true)
include htr
theorem mrg_pw : ∀ (l r : List Int), (∀ x ∈ l, A x) → (∀ x ∈ r, A x) → (∀ a ∈ l, ∀ b ∈ r, a < b) → l.Pairwise (fun a b => rbo lt a b = true) → r.Pairwise (fun a b => rbo lt a b = true) → (mrg lt l r).Pairwise (fun a b => rbo lt a b = true)
  | l, [], _, _, _, hl, _ => by rw [mrg_nil]; exact hl
  | [], b :: r, _, _, _, _, hr => by rw [nil_mrg]; exact hr
  | a :: l, b :: r, hA, hB, hlt, hl, hr => by
    have hAa := hA a (.head _)
    have hBb := hB b (.head _)
    obtain ⟨hl1, hl2⟩ := List.pairwise_cons.1 hl
    obtain ⟨hr1, hr2⟩ := List.pairwise_cons.1 hr
    rw [mrg]
    split
    · rename_i h
      refine List.pairwise_cons.2 ⟨fun x hx => ?_, mrg_pw (a :: l) r hA (fun x hx => hB x (.tail _ hx)) (fun x hx y hy => hlt x hx y (.tail _ hy)) hl hr2⟩
      have hba : rbo lt b a = true := by simp [rbo, h]
      have hx' := (mrg_perm (lt := lt) (a :: l) r).mem_iff.1 hx
      rw [List.cons_append] at hx'
      rcases List.mem_cons.1 hx' with rfl | hx'
      · exact hba
      · rcases List.mem_append.1 hx' with g | g
        · exact htr b a x hBb hAa (hA x (.tail _ g)) hba (hl1 x g)
        · exact hr1 x g
    · rename_i h
      refine List.pairwise_cons.2 ⟨fun x hx => ?_, mrg_pw l (b :: r) (fun x hx => hA x (.tail _ hx)) hB (fun x hx y hy => hlt x (.tail _ hx) y hy) hl2 hr⟩
      have hab : rbo lt a b = true := by
        have := hlt a (.head _) b (.head _)
        simp [rbo, h, this]
      have hx' := (mrg_perm (lt := lt) l (b :: r)).mem_iff.1 hx
      rcases List.mem_append.1 hx' with g | g
      · exact hl1 x g
      · rcases List.mem_cons.1 g with rfl | g
        · exact hab
        · exact htr a b x hAa hBb (hB x (.tail _ g)) hab (hr1 x g)
termination_by l r => l.length + r.length
theorem msort_pw : ∀ (f : Nat) (p : List Int), p.length ≤ f → (∀ x ∈ p, A x) → p.Pairwise (· < ·) → (msort lt f p).Pairwise (fun a b => rbo lt a b = true)
  | 0, p, hl, _, _ => by rw [List.length_eq_zero_iff.1 (Nat.le_zero.1 hl)]; exact .nil
  | f + 1, p, hl, hA, hp => by
    rw [msort]
    split
    · rename_i h
      match p, h with
      | [], _ => exact .nil
      | [x], _ => exact List.pairwise_singleton _ _
      | x :: y :: z, h => exact absurd h (by simp only [List.length_cons]; omega)
    · rename_i h
      have e := List.take_append_drop (p.length / 2) p
      refine mrg_pw htr _ _ (fun x hx => hA x (List.mem_of_mem_take ((msort_perm f _).mem_iff.1 hx))) (fun x hx => hA x (List.mem_of_mem_drop ((msort_perm f _).mem_iff.1 hx))) ?_ ?_ ?_
      · intro a ha b hb
        rw [← e] at hp
        exact (List.pairwise_append.1 hp).2.2 a ((msort_perm f _).mem_iff.1 ha) b ((msort_perm f _).mem_iff.1 hb)
      · exact msort_pw f _ (by rw [List.length_take]; omega) (fun x hx => hA x (List.mem_of_mem_take hx)) (hp.sublist (List.take_sublist _ _))
      · exact msort_pw f _ (by rw [List.length_drop]; omega) (fun x hx => hA x (List.mem_of_mem_drop hx)) (hp.sublist (List.drop_sublist _ _))
end
section
variable {rb : Int → Int → Bool}
def rk (rb : Int → Int → Bool) (n : Nat) (m : Int) : Nat := (pl n).countP (fun b => rb b m)
theorem rk_succ (n : Nat) (m : Int) : rk rb (n + 1) m = rk rb n m + if rb n m then 1 else 0 := by
  rw [rk, pl_succ, List.countP_append, List.countP_singleton]; rfl
theorem rk_le (n : Nat) (m : Int) : rk rb n m ≤ n := by
  have := List.countP_le_length (p := fun b => rb b m) (l := pl n)
  rwa [pl_len] at this
theorem rk_at {n : Nat} {s : List Int} (hp : s.Perm (pl n)) (hs : s.Pairwise (fun a b => rb a b = true)) (hir : ∀ a, rb a a = false) (has : ∀ a b, a ∈ s → b ∈ s → rb a b = true → rb b a = false) {j : Nat} (hj : j < s.length) : rk rb n s[j] = j := by
  rw [rk, ← hp.countP_eq]
  have hmem := List.getElem_mem hj
  have e : s = s.take j ++ s[j] :: s.drop (j + 1) := by rw [List.getElem_cons_drop, List.take_append_drop]
  generalize s[j] = y at hmem e ⊢
  have hs2 := hs
  rw [e] at hs2
  obtain ⟨-, h2, h3⟩ := List.pairwise_append.1 hs2
  obtain ⟨h4, -⟩ := List.pairwise_cons.1 h2
  conv => lhs; rw [e]
  rw [List.countP_append, List.countP_cons, List.countP_eq_length.2 (fun a ha => h3 a ha _ (.head _)), List.countP_eq_zero.2 (fun a ha => ?_), hir, List.length_take]
  · simp; omega
  · rw [has _ _ hmem (List.mem_of_mem_drop ha) (h4 a ha)]; simp
def laid (n : Nat) (s out : List Int) (m : Nat) : Prop := out.length = n ∧ ∀ j (h : j < s.length), s[j] < m → out.getD j 0 = s[j]
theorem laid_zero {n : Nat} {s : List Int} (hp : s.Perm (pl n)) : laid n s (List.replicate n 0) 0 :=
  ⟨by simp, fun j h hj => by
    have := mem_pl.1 (hp.mem_iff.1 (List.getElem_mem h)); omega⟩
theorem laid_lt {n m : Nat} {s : List Int} (hp : s.Perm (pl n)) (hs : s.Pairwise (fun a b => rb a b = true)) (hir : ∀ a, rb a a = false) (has : ∀ a b, a ∈ s → b ∈ s → rb a b = true → rb b a = false) (hm : m < n) : rk rb n m < n := by
  obtain ⟨j, hj, e⟩ := List.mem_iff_getElem.1 (hp.mem_iff.2 (mem_pl.2 (show 0 ≤ (m : Int) ∧ (m : Int) < n by omega)))
  rw [← e, rk_at hp hs hir has hj]
  have := hp.length_eq; rw [pl_len] at this; omega
theorem laid_succ {n m : Nat} {s out : List Int} (hp : s.Perm (pl n)) (hs : s.Pairwise (fun a b => rb a b = true)) (hir : ∀ a, rb a a = false) (has : ∀ a b, a ∈ s → b ∈ s → rb a b = true → rb b a = false) (hm : m < n) (h : laid n s out m) :
    laid n s (out.set (rk rb n m) m) (m + 1) := by
  obtain ⟨h1, h2⟩ := h
  have hsl : s.length = n := by have := hp.length_eq; rwa [pl_len] at this
  refine ⟨by rw [List.length_set, h1], fun j hj hlt => ?_⟩
  have hn : s.Nodup := hp.nodup_iff.2 (pl_nodup n)
  by_cases e : s[j] = (m : Int)
  · have hr := rk_at hp hs hir has hj
    rw [e] at hr
    rw [hr, List.getD_eq_getElem?_getD, List.getElem?_set_self (by omega), e]; rfl
  · have hne : rk rb n m ≠ j := by
      intro hr
      obtain ⟨j2, hj2, e2⟩ := List.mem_iff_getElem.1 (hp.mem_iff.2 (mem_pl.2 (show 0 ≤ (m : Int) ∧ (m : Int) < n by omega)))
      have hr2 := rk_at hp hs hir has hj2
      rw [e2, hr] at hr2
      subst hr2
      exact e e2
    rw [List.getD_eq_getElem?_getD, List.getElem?_set_ne hne, ← List.getD_eq_getElem?_getD]
    exact h2 j hj (by omega)
theorem laid_end {n : Nat} {s out : List Int} (hp : s.Perm (pl n)) (h : laid n s out n) : out = s := by
  obtain ⟨h1, h2⟩ := h
  have hsl : s.length = n := by have := hp.length_eq; rwa [pl_len] at this
  refine List.ext_getElem (by omega) fun j h3 h4 => ?_
  have := h2 j h4 (mem_pl.1 (hp.mem_iff.1 (List.getElem_mem h4))).2
  rw [← this]; simp [List.getD, h3]
end
theorem rbo_irr {lt : Int → Int → Bool} (a : Int) (h : lt a a = false) : rbo lt a a = false := by simp [rbo, h]
theorem rbo_asym {lt : Int → Int → Bool} {a b : Int} (h : lt a b = true → lt b a = false) (hr : rbo lt a b = true) : rbo lt b a = false := by
  unfold rbo at hr ⊢
  cases h1 : lt a b <;> cases h2 : lt b a <;> simp [h1, h2] at hr h ⊢
  omega
theorem perm_of_nodup : ∀ {l m : List Int}, l.Nodup → l ⊆ m → m.length ≤ l.length → l.Perm m
  | [], m, _, _, h => by rw [List.length_eq_zero_iff.1 (Nat.le_zero.1 h)]
  | x :: l, m, hn, hs, hl => by
    obtain ⟨h1, h2⟩ := List.nodup_cons.1 hn
    have hx : x ∈ m := hs (.head _)
    have hp := List.perm_cons_erase hx
    refine List.Perm.trans (List.Perm.cons x (perm_of_nodup h2 (fun y hy => ?_) ?_)) hp.symm
    · have hy' := hs (.tail _ hy)
      exact (List.mem_erase_of_ne (by rintro rfl; exact h1 hy)).2 hy'
    · rw [List.length_erase_of_mem hx]; simp only [List.length_cons] at hl; omega
end Go.Proofs.Ytnikajkklocncaa
namespace Go.Proofs.Ytnikajkklocncaa
open Go.RowKit
theorem take_neq {X Y : List Int} {k : Nat} (h : X.getD k 0 ≠ Y.getD k 0) : X ≠ Y := fun e => h (by rw [e])
set_option maxRecDepth 100000 in
set_option maxHeartbeats 400000 in
theorem same09 (ax : Option Addr) (X : List Int) (cx : Nat) (ay : Option Addr) (Y : List Int) (cy : Nat) (hX : X.length ≤ 9223372036854775807) (w : World) (hx : IntSl w (.slice ax X.length cx) X) (hy : IntSl w (.slice ay Y.length cy) Y) :
  Calls Try.prog 27 #[.slice ax X.length cx, .slice ay Y.length cy] w fun e w' => e = .returned (.bool (decide (X = Y))) ∧ Below w.heap.size w w' := by
 have hbs := Below.refl (B := w.heap.size) w
 have hM := Mem.start w
 refine Calls.of_ends (vs := [.slice ax X.length cx, .slice ay Y.length cy]) Try.func27 rfl Try.ntmps27 rfl ?_
 intro a hA
 replace hA : St 26 [(0, _), (1, _)] a := hA
 refine Ends.seq (Ends.region ?_)
 refine S.val hA (R.assign rfl) rfl ?_; clear hA a; intro a hA
 refine S.done ?_
 replace hA : St 26 [(0, _), (1, _)] a := hA.sub ((.cons rfl (.cons rfl .nil)))
 refine Ends.seq (Ends.seq (Ends.region ?_))
 refine S.val hA (R.move rfl) rfl ?_; clear hA a; intro a hA
 refine S.val hA (R.lenS Try.underlying22 rfl rfl) rfl ?_; clear hA a; intro a hA
 refine S.val hA (R.move rfl) rfl ?_; clear hA a; intro a hA
 refine S.val hA (R.lenS Try.underlying22 rfl rfl) rfl ?_; clear hA a; intro a hA
 refine S.val hA (R.neq rfl rfl) rfl ?_; clear hA a; intro a hA
 refine S.done ?_
 replace hA : St 26 [(0, _), (1, _), (10, _)] a := hA.sub ((.cons rfl (.cons rfl (.cons rfl .nil))))
 refine Ends.ite hA rfl (fun hc1 => ?_) (fun hc1 => ?_)
 ·
  refine Ends.seq (Ends.region ?_)
  refine S.val hA (R.assign rfl) rfl ?_; clear hA a; intro a hA
  refine S.done ?_
  replace hA : St 26 [(0, _), (1, _), (4, _)] a := hA.sub ((.cons rfl (.cons rfl (.cons rfl .nil))))
  refine Ends.ret1 Try.func27 Try.results27 hA rfl ?_
  exact ⟨by rw [decide_eq_false (fun e => by subst e; omega)], Mem.trans0 hbs hM.nilL⟩
 ·
  have hln : X.length = Y.length := by omega
  refine Ends.skip (Ends.seq (Ends.seq (Ends.region ?_)))
  refine S.val hA (R.assign rfl) rfl ?_; clear hA a; intro a hA
  refine S.done ?_
  replace hA : St 26 [(0, _), (1, _), (5, _)] a := hA.sub ((.cons rfl (.cons rfl (.cons rfl .nil))))
  refine Ends.block ?_
  refine Ends.loop (σ := Nat) (fun k (a : Act) (wv : World) => St 26 [(0, .slice ax X.length cx), (1, .slice ay Y.length cy), (5, .int .i64 ((k : Int)))] a ∧ Mem w nof [] wv ∧ (k ≤ X.length) ∧ (X.take k = Y.take k)) (fun k => X.length - k) 0 ⟨hA.sub ((.cons rfl (.cons rfl (.cons rfl .nil)))), hM, (Nat.zero_le _), rfl⟩ ?_
  clear hA hM a
  rintro k a w1 ⟨hA, hM, hk, hk2⟩ hNext
  refine Ends.seq (Ends.seq (Ends.region ?_))
  refine S.val hA (R.move rfl) rfl ?_; clear hA a; intro a hA
  refine S.val hA (R.move rfl) rfl ?_; clear hA a; intro a hA
  refine S.val hA (R.lenS Try.underlying22 rfl rfl) rfl ?_; clear hA a; intro a hA
  refine S.val hA (R.lss rfl rfl) rfl ?_; clear hA a; intro a hA
  refine S.done ?_
  replace hA : St 26 [(0, _), (1, _), (5, _), (14, _)] a := hA.sub ((.cons rfl (.cons rfl (.cons rfl (.cons rfl .nil)))))
  refine Ends.ite hA rfl (fun hc2 => ?_) (fun hc2 => ?_)
  ·
   refine Ends.skip (Ends.seq (Ends.block (Ends.seq ?_)))
   refine Ends.drawn (Mem w nof []) (.cons (0, true) (.cons (1, true) (.cons (2, true) (.cons (3, true) (.cons (4, true) (.cons (5, true) (.cons (6, true) (.cons (7, true) (.cons (8, true) .nil))))))))) 9 mixed (by kernel_rfl) (by kernel_rfl) (by kernel_rfl) hM.drew ?_
   replace hM := hM.drew
   refine D.valF hA rfl (fun _ => R.move rfl) rfl ?_; clear hA a; intro a hA
   refine D.valF hA rfl (fun _ => R.move rfl) rfl ?_; clear hA a; intro a hA
   refine D.valF hA rfl (fun _ => R.idxI hx (j := k) sl22 rfl rfl (by omega) (rfl)) rfl ?_; clear hA a; intro a hA
   refine D.val hA rfl (by kernel_rfl) (fun _ hM => R.loadI (hx.mem hM) sz3 rfl (by omega)) rfl ?_; clear hA a; intro a hA
   refine D.valF hA rfl (fun _ => R.move rfl) rfl ?_; clear hA a; intro a hA
   refine D.valF hA rfl (fun _ => R.move rfl) rfl ?_; clear hA a; intro a hA
   refine D.valF hA rfl (fun _ => R.idxI hy (j := k) sl22 rfl rfl (by omega) (rfl)) rfl ?_; clear hA a; intro a hA
   refine D.val hA rfl (by kernel_rfl) (fun _ hM => R.loadI (hy.mem hM) sz3 rfl (by omega)) rfl ?_; clear hA a; intro a hA
   refine D.valF hA rfl (fun _ => R.neq rfl rfl) rfl ?_; clear hA a; intro a hA
   refine D.done ?_
   replace hA : St 26 [(0, _), (1, _), (5, _), (25, _)] a := hA.sub ((.cons rfl (.cons rfl (.cons rfl (.cons rfl .nil)))))
   refine Ends.ite hA rfl (fun hc3 => ?_) (fun hc3 => ?_)
   ·
    refine Ends.seq (Ends.region ?_)
    refine S.val hA (R.assign rfl) rfl ?_; clear hA a; intro a hA
    refine S.done ?_
    replace hA : St 26 [(0, _), (1, _), (4, _), (5, _)] a := hA.sub ((.cons rfl (.cons rfl (.cons rfl (.cons rfl .nil)))))
    refine Ends.ret1 Try.func27 Try.results27 hA rfl ?_
    exact ⟨by rw [decide_eq_false (take_neq (k := k) (by omega))], Mem.trans0 hbs hM.nilL⟩
   ·
    refine Ends.skip (Ends.inBlock (Ends.region ?_))
    refine S.val hA (R.move rfl) rfl ?_; clear hA a; intro a hA
    refine S.val hA (R.addI rfl rfl (r := ((k : Int)) + 1) rfl (by omega)) rfl ?_; clear hA a; intro a hA
    refine S.val hA (R.assign rfl) rfl ?_; clear hA a; intro a hA
    refine S.done ?_
    replace hA : St 26 [(0, _), (1, _), (5, _)] a := hA.sub ((.cons rfl (.cons rfl (.cons rfl .nil))))
    exact hNext ((k + 1)) _ _ ((by show X.length - (k + 1) < X.length - k; omega)) ⟨hA.sub ((.cons rfl (.cons rfl (.cons rfl .nil)))), hM, (by omega), (by rw [take_succ_getD X k (by omega), take_succ_getD Y k (by omega), hk2, show X.getD k 0 = Y.getD k 0 by omega])⟩
  ·
   refine Ends.exit rfl ?_
   replace hA : St 26 [] a := hA.sub (.nil)
   refine Ends.seq (Ends.region ?_)
   refine S.val hA (R.assign rfl) rfl ?_; clear hA a; intro a hA
   refine S.done ?_
   replace hA : St 26 [(4, _)] a := hA.sub ((.cons rfl .nil))
   refine Ends.ret1 Try.func27 Try.results27 hA rfl ?_
   have hkl : k = X.length := by omega
   have hXY : X = Y := by rw [hkl, List.take_length, hln, List.take_length] at hk2; exact hk2
   exact ⟨by rw [decide_eq_true hXY], Mem.trans0 hbs hM.nilL⟩
set_option maxRecDepth 100000 in
set_option maxHeartbeats 400000 in
theorem plain_own (n : Int) (hn : 0 ≤ n ∧ n ≤ 1000) (w : World) :
  Calls Try.prog 57 #[.int .i64 n] w fun e w' => ∃ g c, e = .returned (.slice (some ⟨g, 0, none⟩) (pl n.toNat).length c) ∧ Mem w nof [own 3 1 (.slice ((some ⟨g, 0, none⟩)) (((pl n.toNat)).length) c) (((pl n.toNat)).length) (((pl n.toNat)).map (Value.int .i64))] w' := by
 have hbs := Below.refl (B := w.heap.size) w
 have hM := Mem.start w
 refine Calls.of_ends (vs := [.int .i64 n]) Try.func57 rfl Try.ntmps57 rfl ?_
 intro a hA
 replace hA : St 18 [(0, _)] a := hA
 refine Ends.seq (Ends.region ?_)
 refine S.val hA (R.assign rfl) rfl ?_; clear hA a; intro a hA
 refine S.done ?_
 replace hA : St 18 [(0, _)] a := hA.sub ((.cons rfl .nil))
 refine Ends.seq (Ends.region ?_)
 refine S.val hA (R.move rfl) rfl ?_; clear hA a; intro a hA
 refine S.make hA hM Try.underlying22 info3 rfl rfl rfl (by first | omega | (rw [hpl]; omega)) (by show (8 : Int) * _ ≤ _; omega) (by first | omega | (rw [hpl]; omega)) rfl ?_; clear hA hM a; intro b1 w1 hb2 hM a hA
 replace hM : Mem _ _ [pt b1 (madeCells #[.int .i64 0] (n.toNat * 1)) 3] _ := hM
 rw [Nat.mul_one, made_ints] at hM
 replace hM : Mem _ _ [pt b1 ((ints (List.replicate n.toNat 0))) 3] _ := hM
 refine S.val hA (R.assign rfl) rfl ?_; clear hA a; intro a hA
 refine S.done ?_
 replace hA : St 18 [(3, _)] a := hA.sub ((.cons rfl .nil))
 refine Ends.seq (Ends.seq (Ends.region ?_))
 refine S.val hA (R.move rfl) rfl ?_; clear hA a; intro a hA
 refine S.val hA (R.lenS Try.underlying22 rfl rfl) rfl ?_; clear hA a; intro a hA
 refine S.val hA (R.move rfl) rfl ?_; clear hA a; intro a hA
 refine S.done ?_
 replace hA : St 18 [(3, _), (8, _), (9, _)] a := hA.sub ((.cons rfl (.cons rfl (.cons rfl .nil))))
 refine Ends.block ?_
 rw [show List.replicate n.toNat 0 = (pl 0 ++ List.replicate (n.toNat - 0) 0) from rfl] at hM
 refine Ends.loop (σ := Nat) (fun k (a : Act) (wv : World) => St 18 [(3, .slice (some ⟨b1, 0, none⟩) n.toNat n.toNat), (8, .int .i64 ((n.toNat : Int))), (9, .int .i64 ((k : Int)))] a ∧ Mem w nof [pt b1 ((ints (pl k ++ List.replicate (n.toNat - k) 0))) 3] wv ∧ (k ≤ n.toNat)) (fun k => n.toNat - k) 0 ⟨hA.sub ((.cons rfl (.cons rfl (.cons rfl .nil)))), hM, (Nat.zero_le _)⟩ ?_
 clear hA hM a
 rintro k a w2 ⟨hA, hM, hk⟩ hNext
 refine Ends.seq (Ends.region ?_)
 refine S.val hA (R.lss rfl rfl) rfl ?_; clear hA a; intro a hA
 refine S.done ?_
 replace hA : St 18 [(3, _), (8, _), (9, _), (10, _)] a := hA.sub ((.cons rfl (.cons rfl (.cons rfl (.cons rfl .nil)))))
 refine Ends.seq ?_
 refine Ends.ite hA rfl (fun hc3 => ?_) (fun hc3 => ?_)
 ·
  have hpl : (pl k ++ List.replicate (n.toNat - k) 0).length = n.toNat := by rw [List.length_append, pl_len, List.length_replicate]; omega
  refine Ends.skip (Ends.seq (Ends.block (Ends.seq (Ends.region ?_))))
  refine S.val hA (R.move rfl) rfl ?_; clear hA a; intro a hA
  refine S.val hA (R.assign rfl) rfl ?_; clear hA a; intro a hA
  refine S.done ?_
  replace hA : St 18 [(3, _), (4, _), (8, _), (9, _)] a := hA.sub ((.cons rfl (.cons rfl (.cons rfl (.cons rfl .nil)))))
  refine Ends.region ?_
  refine S.val hA (R.move rfl) rfl ?_; clear hA a; intro a hA
  refine S.val hA (R.move rfl) rfl ?_; clear hA a; intro a hA
  refine S.val hA (R.move rfl) rfl ?_; clear hA a; intro a hA
  refine S.val hA (R.indexAddr (q := k) sl22 rfl rfl (by first | omega | (rw [hpl]; omega)) (by first | omega | (rw [hpl]; omega))) rfl ?_; clear hA a; intro a hA
  refine S.store (k := 0) hA hM sz3 rfl rfl rfl rfl (ints_getD ((pl k ++ List.replicate (n.toNat - k) 0)) _ (by first | omega | (rw [hpl]; omega))) ?_; clear hM
  intro w3 hM
  rw [ints_set] at hM
  replace hM : Mem _ _ [pt b1 ((ints (((pl k ++ List.replicate (n.toNat - k) 0)).set k ((k : Int))))) 3] _ := hM
  refine S.done ?_
  rw [pl_set _ _ (by omega)] at hM
  replace hA : St 18 [(3, _), (8, _), (9, _)] a := hA.sub ((.cons rfl (.cons rfl (.cons rfl .nil))))
  refine Ends.inBlock (Ends.region ?_)
  refine S.val hA (R.addI rfl rfl (r := ((k : Int)) + 1) rfl (by first | omega | (rw [hpl]; omega))) rfl ?_; clear hA a; intro a hA
  refine S.val hA (R.move rfl) rfl ?_; clear hA a; intro a hA
  refine S.done ?_
  replace hA : St 18 [(3, _), (8, _), (9, _)] a := hA.sub ((.cons rfl (.cons rfl (.cons rfl .nil))))
  exact hNext ((k + 1)) _ _ ((by show n.toNat - (k + 1) < n.toNat - k; omega)) ⟨hA.sub ((.cons rfl (.cons rfl (.cons rfl .nil)))), hM, (by omega)⟩
 ·
  obtain rfl : k = n.toNat := by omega
  rw [Nat.sub_self, List.replicate_zero, List.append_nil] at hM
  refine Ends.exit rfl ?_
  replace hA : St 18 [(3, _)] a := hA.sub ((.cons rfl .nil))
  refine Ends.seq (Ends.region ?_)
  refine S.val hA (R.move rfl) rfl ?_; clear hA a; intro a hA
  refine S.val hA (R.assign rfl) rfl ?_; clear hA a; intro a hA
  refine S.done ?_
  replace hA : St 18 [(2, _)] a := hA.sub ((.cons rfl .nil))
  refine Ends.ret1 Try.func57 Try.results57 hA rfl ?_
  replace hM := hM.ptOwn (n := n.toNat) (pl_len _) (by omega)
  have hl := pl_len n.toNat
  exact ⟨_, _, by rw [pl_len], hM⟩
def AheadAt (A : Int → Prop) (lt : Int → Int → Bool) (cf : FuncId) (cs : Array Value) (w : World) : Prop :=
  ∀ w', Below w.heap.size w w' → ∀ x y, A x → A y → Calls Try.prog cf (#[.int .i64 x, .int .i64 y] ++ cs) w' fun e w2 => e = .returned (.bool (lt x y)) ∧ Below w'.heap.size w' w2
theorem AheadAt.mem {A : Int → Prop} {lt : Int → Int → Bool} {cf : FuncId} {cs : Array Value} {w0 w : World} {L : List Ck} (h : AheadAt A lt cf cs w0) (hM : Mem w0 nof L w) : AheadAt A lt cf cs w :=
  fun w' hb x y hx hy => h w' (Mem.trans0 hM.nilL.below (Mem.of_below hb)) x y hx hy
def MergeAt (A : Int → Prop) (lt : Int → Int → Bool) (cf : FuncId) (cs : Array Value) (f : Nat) : Prop :=
  ∀ (ax : Option Addr) (X : List Int) (cx : Nat) (w : World), X.length ≤ f → X.length ≤ 1000 → (∀ x ∈ X, A x) → IntSl w (.slice ax X.length cx) X → AheadAt A lt cf cs w →
    Calls Try.prog 78 #[.slice ax X.length cx, .func (.func cf) #[] cs] w fun e w' => ∃ a c, e = .returned (.slice a (msort lt f X).length c) ∧ IntSl w' (.slice a (msort lt f X).length c) (msort lt f X) ∧ Below w.heap.size w w'
theorem mrg_stepR {lt : Int → Int → Bool} {X Y : List Int} (hx : 0 < X.length) (hy : 0 < Y.length) (h : lt (Y.getD 0 0) (X.getD 0 0) = true) : mrg lt X Y = Y.getD 0 0 :: mrg lt X (Y.drop 1) := by
  match X, Y, hx, hy with
  | a :: X, b :: Y, _, _ =>
    have h' : lt b a = true := h
    rw [mrg, if_pos h']; rfl
theorem mrg_stepL {lt : Int → Int → Bool} {X Y : List Int} (hx : 0 < X.length) (hy : 0 < Y.length) (h : lt (Y.getD 0 0) (X.getD 0 0) = false) : mrg lt X Y = X.getD 0 0 :: mrg lt (X.drop 1) Y := by
  match X, Y, hx, hy with
  | a :: X, b :: Y, _, _ =>
    have h' : lt b a = false := h
    rw [mrg, if_neg (by rw [h']; simp)]; rfl
theorem mrg_end {lt : Int → Int → Bool} {X Y : List Int} (h : ¬ (0 < X.length ∧ 0 < Y.length)) : mrg lt X Y = X ++ Y := by
  rcases Nat.eq_zero_or_pos X.length with e | e
  · rw [List.length_eq_zero_iff.1 e, nil_mrg]; rfl
  · have : Y.length = 0 := by omega
    rw [List.length_eq_zero_iff.1 this, mrg_nil, List.append_nil]
theorem getD_mem0 {l : List Int} (h : 0 < l.length) : l.getD 0 0 ∈ l := getD_mem h
set_option maxRecDepth 100000 in
set_option maxHeartbeats 400000 in
theorem merge_short (cf : FuncId) (cs : Array Value) (ax : Option Addr) (X : List Int) (cx : Nat) (hX2 : X.length < 2) (w : World) (hx : IntSl w (.slice ax X.length cx) X) :
    Calls Try.prog 78 #[.slice ax X.length cx, .func (.func cf) #[] cs] w fun e w' => ∃ a c, e = .returned (.slice a X.length c) ∧ IntSl w' (.slice a X.length c) X ∧ Below w.heap.size w w' := by
  have hbs := Below.refl (B := w.heap.size) w
  have hM := Mem.start w
  refine Calls.of_ends (vs := [.slice ax X.length cx, .func (.func cf) #[] cs]) Try.func78 rfl Try.ntmps78 rfl ?_
  intro a hA
  replace hA : St 66 [(0, _), (1, _)] a := hA
  refine Ends.seq (Ends.region ?_)
  refine S.val hA (R.assign rfl) rfl ?_; clear hA a; intro a hA
  refine S.done ?_
  replace hA : St 66 [(0, _), (1, _)] a := hA.sub ((.cons rfl (.cons rfl .nil)))
  refine Ends.seq (Ends.seq (Ends.region ?_))
  refine S.val hA (R.move rfl) rfl ?_; clear hA a; intro a hA
  refine S.val hA (R.lenS Try.underlying22 rfl rfl) rfl ?_; clear hA a; intro a hA
  refine S.val hA (R.tt (R.lss rfl rfl) (by omega)) rfl ?_; clear hA a; intro a hA
  refine S.done ?_
  replace hA : St 66 [(0, _), (1, _), (11, _)] a := hA.sub ((.cons rfl (.cons rfl (.cons rfl .nil))))
  refine Ends.condT hA rfl ?_
  refine Ends.seq (Ends.region ?_)
  refine S.val hA (R.move rfl) rfl ?_; clear hA a; intro a hA
  refine S.val hA (R.assign rfl) rfl ?_; clear hA a; intro a hA
  refine S.done ?_
  replace hA : St 66 [(0, _), (1, _), (4, _)] a := hA.sub ((.cons rfl (.cons rfl (.cons rfl .nil))))
  refine Ends.ret1 Try.func78 Try.results78 hA rfl ?_
  exact ⟨_, _, rfl, hx, Mem.trans0 hbs hM.nilL⟩
set_option maxRecDepth 100000 in
set_option maxHeartbeats 400000 in
theorem merge_step {lt : Int → Int → Bool} {A : Int → Prop} {cf : FuncId} {cs : Array Value} {fn : Func} (hcf : Try.prog.funcs[cf]? = some fn) (hcn : (fn.name == "runtime.NumGoroutine") = false) (hcb : fn.body.isNone = false) (f : Nat) (ih : MergeAt A lt cf cs f) (ax : Option Addr) (X : List Int) (cx : Nat) (hXf : X.length ≤ f + 1) (hXm : X.length ≤ 1000) (hAX : ∀ x ∈ X, A x) (w : World) (hx : IntSl w (.slice ax X.length cx) X) (hah : AheadAt A lt cf cs w) :
  Calls Try.prog 78 #[.slice ax X.length cx, .func (.func cf) #[] cs] w fun e w' => ∃ a c, e = .returned (.slice a (msort lt (f + 1) X).length c) ∧ IntSl w' (.slice a (msort lt (f + 1) X).length c) (msort lt (f + 1) X) ∧ Below w.heap.size w w' := by
 have hbs := Below.refl (B := w.heap.size) w
 have hM := Mem.start w
 refine Calls.of_ends (vs := [.slice ax X.length cx, .func (.func cf) #[] cs]) Try.func78 rfl Try.ntmps78 rfl ?_
 intro a hA
 replace hA : St 66 [(0, _), (1, _)] a := hA
 refine Ends.seq (Ends.region ?_)
 refine S.val hA (R.assign rfl) rfl ?_; clear hA a; intro a hA
 refine S.done ?_
 replace hA : St 66 [(0, _), (1, _)] a := hA.sub ((.cons rfl (.cons rfl .nil)))
 refine Ends.seq (Ends.seq (Ends.region ?_))
 refine S.val hA (R.move rfl) rfl ?_; clear hA a; intro a hA
 refine S.val hA (R.lenS Try.underlying22 rfl rfl) rfl ?_; clear hA a; intro a hA
 refine S.val hA (R.lss rfl rfl) rfl ?_; clear hA a; intro a hA
 refine S.done ?_
 replace hA : St 66 [(0, _), (1, _), (11, _)] a := hA.sub ((.cons rfl (.cons rfl (.cons rfl .nil))))
 refine Ends.ite hA rfl (fun hc1 => ?_) (fun hc1 => ?_)
 ·
  refine Ends.seq (Ends.region ?_)
  refine S.val hA (R.move rfl) rfl ?_; clear hA a; intro a hA
  refine S.val hA (R.assign rfl) rfl ?_; clear hA a; intro a hA
  refine S.done ?_
  replace hA : St 66 [(0, _), (1, _), (4, _)] a := hA.sub ((.cons rfl (.cons rfl (.cons rfl .nil))))
  refine Ends.ret1 Try.func78 Try.results78 hA rfl ?_
  rw [show msort lt (f + 1) X = X by rw [msort, if_pos (by omega)]]
  exact ⟨_, _, rfl, hx, Mem.trans0 hbs hM.nilL⟩
 ·
  refine Ends.skip (Ends.seq (Ends.region ?_))
  refine S.val hA (R.move rfl) rfl ?_; clear hA a; intro a hA
  refine S.val hA (R.lenS Try.underlying22 rfl rfl) rfl ?_; clear hA a; intro a hA
  refine S.val hA (R.quoI rfl rfl rfl (by omega)) rfl ?_; clear hA a; intro a hA
  refine S.val hA (R.assign rfl) rfl ?_; clear hA a; intro a hA
  refine S.done ?_
  replace hA : St 66 [(0, _), (1, _), (5, _)] a := hA.sub ((.cons rfl (.cons rfl (.cons rfl .nil))))
  refine Ends.seq ?_
  refine Ends.drawn (fun _ => True) (.cons (0, true) (.cons (1, true) (.cons (2, true) (.cons (3, true) (.cons (5, true) (.cons (6, true) (.cons (7, true) (.cons (8, true) (.cons (4, false) (.cons (9, false) (.cons (10, true) (.cons (11, true) .nil)))))))))))) 12 mixed (by kernel_rfl) (by kernel_rfl) (by kernel_rfl) trivial ?_
  replace hM := hM.drew
  refine D.valF hA rfl (fun _ => R.move rfl) rfl ?_; clear hA a; intro a hA
  refine D.valF hA rfl (fun _ => R.move rfl) rfl ?_; clear hA a; intro a hA
  have hsl2 := hx.cutR ((X.length / 2)) (by omega)
  refine D.valF hA rfl (fun _ => R.sliceHI (h := (X.length / 2)) hx Try.underlying22 info3 rfl rfl (by omega) (by omega)) rfl ?_; clear hA a; intro a hA
  refine D.valF hA rfl (fun _ => R.move rfl) rfl ?_; clear hA a; intro a hA
  refine D.valF hA rfl (fun _ => R.move rfl) rfl ?_; clear hA a; intro a hA
  refine D.valF hA rfl (fun _ => R.move rfl) rfl ?_; clear hA a; intro a hA
  obtain ⟨as4, cs5, hsl3, hr6⟩ := hx.fromR ((X.length / 2)) (by omega) (by omega)
  refine D.valF hA rfl (fun _ => (hr6 _ _ _ _ _ _ _ _ _ _ _ Try.underlying22 info3 rfl rfl rfl (by omega))) rfl ?_; clear hA a; intro a hA
  refine D.valF hA rfl (fun _ => R.move rfl) rfl ?_; clear hA a; intro a hA
  refine D.call hA rfl (R.callF Try.func78 rfl rfl rfl) rfl (ih ax ((X.take ((X.length / 2)))) cx _ (by rw [List.length_take]; omega) (by rw [List.length_take]; omega) (fun x hx => hAX x (List.mem_of_mem_take hx)) (hsl2.mem hM) (hah.mem hM)) ?_; clear hA a
  rintro e w1 ⟨ra7, rc8, rfl, rh9, hb⟩
  replace hM := hM.callB hb; clear hb
  have hbs := hbs.trans (hM.below.mono hbs.size)
  have hx := hx.mem hM
  have hah := hah.mem hM
  have hsl2 := hsl2.mem hM
  have hsl3 := hsl3.mem hM
  replace hM := Mem.start w1
  refine ⟨.slice ra7 (((msort lt f ((X.take ((X.length / 2)))))).length) rc8, rfl, trivial, fun a hA => ?_⟩
  refine D.call hA rfl (R.callF Try.func78 rfl rfl rfl) rfl (ih as4 ((X.drop ((X.length / 2)))) cs5 _ (by rw [List.length_drop]; omega) (by rw [List.length_drop]; omega) (fun x hx => hAX x (List.mem_of_mem_drop hx)) (hsl3.mem hM) (hah.mem hM)) ?_; clear hA a
  rintro e w2 ⟨ra10, rc11, rfl, rh12, hb⟩
  replace hM := hM.callB hb; clear hb
  have hbs := hbs.trans (hM.below.mono hbs.size)
  have hx := hx.mem hM
  have hah := hah.mem hM
  have hsl2 := hsl2.mem hM
  have hsl3 := hsl3.mem hM
  have rh9 := rh9.mem hM
  replace hM := Mem.start w2
  refine ⟨.slice ra10 (((msort lt f ((X.drop ((X.length / 2)))))).length) rc11, rfl, trivial, fun a hA => ?_⟩
  refine D.valF hA rfl (fun _ => R.assign rfl) rfl ?_; clear hA a; intro a hA
  refine D.valF hA rfl (fun _ => R.assign rfl) rfl ?_; clear hA a; intro a hA
  refine D.done ?_
  replace hA : St 66 [(0, _), (1, _), (6, _), (7, _)] a := hA.sub ((.cons rfl (.cons rfl (.cons rfl (.cons rfl .nil)))))
  refine Ends.seq (Ends.region ?_)
  refine S.val hA (R.move rfl) rfl ?_; clear hA a; intro a hA
  refine S.val hA (R.lenS Try.underlying22 rfl rfl) rfl ?_; clear hA a; intro a hA
  refine S.makeC hA hM Try.underlying22 info3 rfl rfl rfl (by omega) (by show (8 : Int) * _ ≤ _; omega) (by omega) rfl ?_; clear hA hM a; intro b13 w3 hb14 hM a hA
  replace hM : Mem _ _ [pt b13 ((madeCells #[.int .i64 0] (X.length * 1))) 3] _ := hM
  refine S.val hA (R.assign rfl) rfl ?_; clear hA a; intro a hA
  refine S.done ?_
  replace hA : St 66 [(1, _), (6, _), (7, _), (8, _)] a := hA.sub ((.cons rfl (.cons rfl (.cons rfl (.cons rfl .nil)))))
  refine Ends.seq (Ends.block ?_)
  replace hM := hM.ownPt (cap := X.length) (n := 0) (sz := 1) (xs := []) (by simp [madeCells]) (by unfold maxLen; omega) (Nat.zero_le _) rfl
  replace hM : Mem _ _ [own 3 1 (.slice ((some ⟨b13, 0, none⟩)) ((([] : List Int)).length) X.length) ((([] : List Int)).length) ((([] : List Int)).map (Value.int .i64))] _ := hM
  refine Ends.loop (σ := Option Addr × List Int × Nat × Option Addr × List Int × Nat × Option Addr × List Int × Nat) (fun (la, U, lc, ra, V, rc, oa, Z, oc) (a : Act) (wv : World) => St 66 [(1, .func (.func cf) #[] cs), (6, .slice la U.length lc), (7, .slice ra V.length rc), (8, .slice oa Z.length oc)] a ∧ Mem w2 nof [own 3 1 (.slice oa Z.length oc) Z.length (Z.map (Value.int .i64))] wv ∧ (IntSl w2 (.slice la U.length lc) U) ∧ (IntSl w2 (.slice ra V.length rc) V) ∧ (Z ++ mrg lt U V = mrg lt ((msort lt f ((X.take ((X.length / 2)))))) ((msort lt f ((X.drop ((X.length / 2))))))) ∧ (U.length + V.length + Z.length = X.length) ∧ (∀ x ∈ U, A x) ∧ (∀ x ∈ V, A x)) (fun (la, U, lc, ra, V, rc, oa, Z, oc) => U.length + V.length) ((ra7, (msort lt f ((X.take ((X.length / 2))))), rc8, ra10, (msort lt f ((X.drop ((X.length / 2))))), rc11, (some ⟨b13, 0, none⟩), [], X.length)) ⟨hA.sub ((.cons rfl (.cons rfl (.cons rfl (.cons rfl .nil))))), hM, rh9, rh12, rfl, (by rw [msort_len, msort_len, List.length_take, List.length_drop]; simp only [List.length_nil]; omega), (fun x hx => hAX x (List.mem_of_mem_take ((msort_perm f _).mem_iff.1 hx))), (fun x hx => hAX x (List.mem_of_mem_drop ((msort_perm f _).mem_iff.1 hx)))⟩ ?_
  clear hA hM a
  rintro ⟨la, U, lc, ra, V, rc, oa, Z, oc⟩ a w4 ⟨hA, hM, hU, hV, hord, hlen, hAL, hAR⟩ hNext
  refine Ends.seq (Ends.seq ?_)
  refine Ends.cut (fun (a : Act) (wv : World) => St 66 [(1, .func (.func cf) #[] cs), (6, .slice la U.length lc), (7, .slice ra V.length rc), (8, .slice oa Z.length oc), (36, .bool (decide ((0 < ((U.length : Int)) ∧ 0 < ((V.length : Int))))))] a ∧ Mem w2 nof [own 3 1 (.slice oa Z.length oc) Z.length (Z.map (Value.int .i64))] wv) ?_ (fun k2 hJ => ?_)
  ·
   clear hA hM a; rintro a w5 ⟨hA, hM⟩
   refine Ends.ite hA rfl (fun hc15 => ?_) (fun hc15 => ?_)
   ·
    refine Ends.skip (Ends.block (Ends.seq ?_))
    refine Ends.drawn (Mem w2 nof [own 3 1 (.slice oa Z.length oc) Z.length (Z.map (Value.int .i64))]) (.cons (0, true) (.cons (1, true) (.cons (2, true) (.cons (3, true) (.cons (4, true) (.cons (5, true) (.cons (6, true) (.cons (7, false) .nil)))))))) 8 mixed (by kernel_rfl) (by kernel_rfl) (by kernel_rfl) hM.drew ?_
    replace hM := hM.drew
    refine D.valF hA rfl (fun _ => R.move rfl) rfl ?_; clear hA a; intro a hA
    refine D.valF hA rfl (fun _ => R.move rfl) rfl ?_; clear hA a; intro a hA
    refine D.valF hA rfl (fun _ => R.idxI hV (j := 0) sl22 rfl rfl (by omega) (rfl)) rfl ?_; clear hA a; intro a hA
    refine D.val hA rfl (by kernel_rfl) (fun _ hM => R.loadI (hV.mem hM) sz3 rfl (by omega)) rfl ?_; clear hA a; intro a hA
    refine D.valF hA rfl (fun _ => R.move rfl) rfl ?_; clear hA a; intro a hA
    refine D.valF hA rfl (fun _ => R.idxI hU (j := 0) sl22 rfl rfl (by omega) (rfl)) rfl ?_; clear hA a; intro a hA
    refine D.val hA rfl (by kernel_rfl) (fun _ hM => R.loadI (hU.mem hM) sz3 rfl (by omega)) rfl ?_; clear hA a; intro a hA
    refine D.call hA rfl (R.callV hcf hcn hcb rfl rfl) rfl (hah _ hM.nilL.below (V.getD 0 0) (U.getD 0 0) (hAR _ (getD_mem0 (by omega))) (hAL _ (getD_mem0 (by omega)))) ?_; clear hA a
    rintro e w6 ⟨rfl, hb⟩
    replace hM := hM.callB hb; clear hb
    refine ⟨.bool (lt (V.getD 0 0) (U.getD 0 0)), rfl, hM, fun a hA => ?_⟩
    refine D.done ?_
    replace hA : St 66 [(1, _), (6, _), (7, _), (8, _), (44, _)] a := hA.sub ((.cons rfl (.cons rfl (.cons rfl (.cons rfl (.cons rfl .nil))))))
    refine Ends.iteB hA rfl (fun hc16 => ?_) (fun hc16 => ?_)
    ·
     refine Ends.drawn (Mem w2 nof []) (.cons (0, true) (.cons (1, true) (.cons (2, true) (.cons (3, true) (.cons (6, true) (.cons (7, true) (.cons (4, false) (.cons (5, false) (.cons (8, true) (.cons (9, true) .nil)))))))))) 10 mixed (by kernel_rfl) (by kernel_rfl) (by kernel_rfl) (hM.drop 0).drew ?_
     replace hM := hM.drew
     refine D.valF hA rfl (fun _ => R.move rfl) rfl ?_; clear hA a; intro a hA
     refine D.valF hA rfl (fun _ => R.move rfl) rfl ?_; clear hA a; intro a hA
     refine D.valF hA rfl (fun _ => R.idxI hV (j := 0) sl22 rfl rfl (by omega) (rfl)) rfl ?_; clear hA a; intro a hA
     refine D.val hA rfl (by kernel_rfl) (fun _ hM => R.loadI (hV.mem hM) sz3 rfl (by omega)) rfl ?_; clear hA a; intro a hA
     refine D.valF hA rfl (fun _ => R.move rfl) rfl ?_; clear hA a; intro a hA
     obtain ⟨as18, cs19, hsl17, hr20⟩ := hV.fromR 1 (by omega) (by omega)
     refine D.valF hA rfl (fun _ => (hr20 _ _ _ _ _ _ _ _ _ _ _ Try.underlying22 info3 rfl rfl rfl (by omega))) rfl ?_; clear hA a; intro a hA
     refine D.buildSl (cells := #[.int .i64 (V.getD 0 0)]) hA hM rfl Try.underlying22 info3 rfl rfl rfl rfl (by kernel_rfl) rfl ?_; clear hA hM a; intro b21 w7 hb22 hM; refine ⟨(fun hM => (hM.drop 0)) hM.tail, fun a hA => ?_⟩
     replace hM : Mem _ _ [pt b21 #[.int .i64 (V.getD 0 0)] 3, own 3 1 (.slice oa Z.length oc) Z.length (Z.map (Value.int .i64))] _ := hM
     refine D.append (k := 1) (k2 := 0) hA hM rfl rfl rfl Try.underlying22 info3 rfl rfl rfl rfl rfl rfl rfl rfl rfl (by first | (unfold maxLen; omega) | (rw [List.length_append]; unfold maxLen; omega) | (show (_ + _) * 8 ≤ (140737488355328 : Nat); omega) | (rw [List.length_append]; show (_ + _) * 8 ≤ (140737488355328 : Nat); omega)) (by first | (unfold maxLen; omega) | (rw [List.length_append]; unfold maxLen; omega) | (show (_ + _) * 8 ≤ (140737488355328 : Nat); omega) | (rw [List.length_append]; show (_ + _) * 8 ≤ (140737488355328 : Nat); omega)) rfl ?_; clear hA hM a; intro a23 c24 w8 hM
     replace hM : Mem _ _ [pt b21 #[.int .i64 (V.getD 0 0)] 3, own 3 1 (.slice a23 (Z.length + 1) c24) (Z.length + 1) (Z.map (Value.int .i64) ++ [.int .i64 (V.getD 0 0)])] _ := hM
     have hl25 : Z.length + 1 = (Z ++ [V.getD 0 0]).length := by simp
     rw [hl25, show Z.map (Value.int .i64) ++ [.int .i64 (V.getD 0 0)] = (Z ++ [V.getD 0 0]).map (Value.int .i64) by simp] at hM
     replace hM := hM.drop 0
     replace hM : Mem _ _ [own 3 1 (.slice a23 (((Z ++ [V.getD 0 0])).length) c24) (((Z ++ [V.getD 0 0])).length) (((Z ++ [V.getD 0 0])).map (Value.int .i64))] _ := hM
     refine ⟨(hM.drop 0), fun a hA => ?_⟩; rw [hl25] at hA; clear hl25
     refine D.valF hA rfl (fun _ => R.assign rfl) rfl ?_; clear hA a; intro a hA
     refine D.valF hA rfl (fun _ => R.assign rfl) rfl ?_; clear hA a; intro a hA
     refine D.done ?_
     replace hA : St 66 [(1, _), (6, _), (7, _), (8, _)] a := hA.sub ((.cons rfl (.cons rfl (.cons rfl (.cons rfl .nil)))))
     refine Ends.inBlock ?_
     replace hM := hM.firstN 1
     exact hNext ((la, U, lc, as18, (V.drop 1), cs19, a23, (Z ++ [V.getD 0 0]), c24)) _ _ ((by show _ < _; simp only [List.length_drop]; omega)) ⟨hA.sub ((.cons rfl (.cons rfl (.cons rfl (.cons rfl .nil))))), hM, hU, hsl17, (by rw [← hord, mrg_stepR (by omega) (by omega) hc16]; simp), (by simp only [List.length_drop, List.length_append, List.length_cons, List.length_nil]; omega), hAL, (fun x hx => hAR x (List.mem_of_mem_drop hx))⟩
    ·
     refine Ends.drawn (Mem w2 nof []) (.cons (0, true) (.cons (1, true) (.cons (2, true) (.cons (3, true) (.cons (6, true) (.cons (7, true) (.cons (4, false) (.cons (5, false) (.cons (8, true) (.cons (9, true) .nil)))))))))) 10 mixed (by kernel_rfl) (by kernel_rfl) (by kernel_rfl) (hM.drop 0).drew ?_
     replace hM := hM.drew
     refine D.valF hA rfl (fun _ => R.move rfl) rfl ?_; clear hA a; intro a hA
     refine D.valF hA rfl (fun _ => R.move rfl) rfl ?_; clear hA a; intro a hA
     refine D.valF hA rfl (fun _ => R.idxI hU (j := 0) sl22 rfl rfl (by omega) (rfl)) rfl ?_; clear hA a; intro a hA
     refine D.val hA rfl (by kernel_rfl) (fun _ hM => R.loadI (hU.mem hM) sz3 rfl (by omega)) rfl ?_; clear hA a; intro a hA
     refine D.valF hA rfl (fun _ => R.move rfl) rfl ?_; clear hA a; intro a hA
     obtain ⟨as27, cs28, hsl26, hr29⟩ := hU.fromR 1 (by omega) (by omega)
     refine D.valF hA rfl (fun _ => (hr29 _ _ _ _ _ _ _ _ _ _ _ Try.underlying22 info3 rfl rfl rfl (by omega))) rfl ?_; clear hA a; intro a hA
     refine D.buildSl (cells := #[.int .i64 (U.getD 0 0)]) hA hM rfl Try.underlying22 info3 rfl rfl rfl rfl (by kernel_rfl) rfl ?_; clear hA hM a; intro b30 w9 hb31 hM; refine ⟨(fun hM => (hM.drop 0)) hM.tail, fun a hA => ?_⟩
     replace hM : Mem _ _ [pt b30 #[.int .i64 (U.getD 0 0)] 3, own 3 1 (.slice oa Z.length oc) Z.length (Z.map (Value.int .i64))] _ := hM
     refine D.append (k := 1) (k2 := 0) hA hM rfl rfl rfl Try.underlying22 info3 rfl rfl rfl rfl rfl rfl rfl rfl rfl (by first | (unfold maxLen; omega) | (rw [List.length_append]; unfold maxLen; omega) | (show (_ + _) * 8 ≤ (140737488355328 : Nat); omega) | (rw [List.length_append]; show (_ + _) * 8 ≤ (140737488355328 : Nat); omega)) (by first | (unfold maxLen; omega) | (rw [List.length_append]; unfold maxLen; omega) | (show (_ + _) * 8 ≤ (140737488355328 : Nat); omega) | (rw [List.length_append]; show (_ + _) * 8 ≤ (140737488355328 : Nat); omega)) rfl ?_; clear hA hM a; intro a32 c33 w10 hM
     replace hM : Mem _ _ [pt b30 #[.int .i64 (U.getD 0 0)] 3, own 3 1 (.slice a32 (Z.length + 1) c33) (Z.length + 1) (Z.map (Value.int .i64) ++ [.int .i64 (U.getD 0 0)])] _ := hM
     have hl34 : Z.length + 1 = (Z ++ [U.getD 0 0]).length := by simp
     rw [hl34, show Z.map (Value.int .i64) ++ [.int .i64 (U.getD 0 0)] = (Z ++ [U.getD 0 0]).map (Value.int .i64) by simp] at hM
     replace hM := hM.drop 0
     replace hM : Mem _ _ [own 3 1 (.slice a32 (((Z ++ [U.getD 0 0])).length) c33) (((Z ++ [U.getD 0 0])).length) (((Z ++ [U.getD 0 0])).map (Value.int .i64))] _ := hM
     refine ⟨(hM.drop 0), fun a hA => ?_⟩; rw [hl34] at hA; clear hl34
     refine D.valF hA rfl (fun _ => R.assign rfl) rfl ?_; clear hA a; intro a hA
     refine D.valF hA rfl (fun _ => R.assign rfl) rfl ?_; clear hA a; intro a hA
     refine D.done ?_
     replace hA : St 66 [(1, _), (6, _), (7, _), (8, _)] a := hA.sub ((.cons rfl (.cons rfl (.cons rfl (.cons rfl .nil)))))
     refine Ends.inBlock ?_
     replace hM := hM.firstN 1
     exact hNext ((as27, (U.drop 1), cs28, ra, V, rc, a32, (Z ++ [U.getD 0 0]), c33)) _ _ ((by show _ < _; simp only [List.length_drop]; omega)) ⟨hA.sub ((.cons rfl (.cons rfl (.cons rfl (.cons rfl .nil))))), hM, hsl26, hV, (by rw [← hord, mrg_stepL (by omega) (by omega) hc16]; simp), (by simp only [List.length_drop, List.length_append, List.length_cons, List.length_nil]; omega), (fun x hx => hAL x (List.mem_of_mem_drop hx)), hAR⟩
   ·
    refine Ends.exit rfl ?_
    replace hA : St 66 [(6, _), (7, _), (8, _)] a := hA.sub ((.cons rfl (.cons rfl (.cons rfl .nil))))
    refine Ends.seq (Ends.region ?_)
    refine S.val hA (R.move rfl) rfl ?_; clear hA a; intro a hA
    refine S.val hA (R.move rfl) rfl ?_; clear hA a; intro a hA
    refine S.appendI (k := 0) hA hM rfl (hU.mem hM) Try.underlying22 info3 rfl rfl rfl rfl rfl rfl (by first | (unfold maxLen; omega) | (rw [List.length_append]; unfold maxLen; omega) | (show (_ + _) * 8 ≤ (140737488355328 : Nat); omega) | (rw [List.length_append]; show (_ + _) * 8 ≤ (140737488355328 : Nat); omega)) (by first | (unfold maxLen; omega) | (rw [List.length_append]; unfold maxLen; omega) | (show (_ + _) * 8 ≤ (140737488355328 : Nat); omega) | (rw [List.length_append]; show (_ + _) * 8 ≤ (140737488355328 : Nat); omega)) rfl ?_; clear hA hM a; intro a35 c36 w11 hM a hA
    have hl37 : Z.length + U.length = ((Z ++ U)).length := by first | (simp; done) | simp only [List.length_append]
    rw [hl37, show Z.map (Value.int .i64) ++ U.map (Value.int .i64) = ((Z ++ U)).map (Value.int .i64) by simp] at hM; rw [hl37] at hA; clear hl37
    replace hM : Mem _ _ [own 3 1 (.slice a35 (((Z ++ U)).length) c36) (((Z ++ U)).length) (((Z ++ U)).map (Value.int .i64))] _ := hM
    refine S.val hA (R.move rfl) rfl ?_; clear hA a; intro a hA
    refine S.appendI (k := 0) hA hM rfl (hV.mem hM) Try.underlying22 info3 rfl rfl rfl rfl rfl rfl (by first | (unfold maxLen; omega) | (rw [List.length_append]; unfold maxLen; omega) | (show (_ + _) * 8 ≤ (140737488355328 : Nat); omega) | (rw [List.length_append]; show (_ + _) * 8 ≤ (140737488355328 : Nat); omega)) (by first | (unfold maxLen; omega) | (rw [List.length_append]; unfold maxLen; omega) | (show (_ + _) * 8 ≤ (140737488355328 : Nat); omega) | (rw [List.length_append]; show (_ + _) * 8 ≤ (140737488355328 : Nat); omega)) rfl ?_; clear hA hM a; intro a38 c39 w12 hM a hA
    have hl40 : (((Z ++ U)).length) + V.length = (((Z ++ U) ++ V)).length := by first | (simp; done) | simp only [List.length_append]
    rw [hl40, show ((Z ++ U)).map (Value.int .i64) ++ V.map (Value.int .i64) = (((Z ++ U) ++ V)).map (Value.int .i64) by simp] at hM; rw [hl40] at hA; clear hl40
    replace hM : Mem _ _ [own 3 1 (.slice a38 ((((Z ++ U) ++ V)).length) c39) ((((Z ++ U) ++ V)).length) ((((Z ++ U) ++ V)).map (Value.int .i64))] _ := hM
    refine S.val hA (R.assign rfl) rfl ?_; clear hA a; intro a hA
    refine S.done ?_
    replace hA : St 66 [(4, _)] a := hA.sub ((.cons rfl .nil))
    refine Ends.ret1 Try.func78 Try.results78 hA rfl ?_
    have hend := mrg_end (lt := lt) (X := U) (Y := V) (by omega)
    have hfin : msort lt (f + 1) X = (Z ++ U) ++ V := by rw [msort, if_neg (by omega), ← hord, hend, List.append_assoc]
    rw [hfin]
    have hr := hM.rsl (k := 0) rfl
    exact ⟨_, _, rfl, hr, Mem.trans0 hbs hM.nilL⟩
  ·
   refine Ends.region ?_
   refine S.val hA (R.move rfl) rfl ?_; clear hA a; intro a hA
   refine S.val hA (R.lenS Try.underlying22 rfl rfl) rfl ?_; clear hA a; intro a hA
   refine S.val hA (R.gtr rfl rfl) rfl ?_; clear hA a; intro a hA
   refine S.val hA (R.move rfl) rfl ?_; clear hA a; intro a hA
   refine hA.split (d := 32) rfl ?_ ?_
   ·
    clear hA; intro hg41 hA
    refine S.valg (dj := 32) hA (by kernel_rfl) rfl (R.move rfl) rfl ?_; clear hA a; intro a hA
    refine S.valg (dj := 32) hA (by kernel_rfl) rfl (R.lenS Try.underlying22 rfl rfl) rfl ?_; clear hA a; intro a hA
    refine S.valg (dj := 32) hA (by kernel_rfl) rfl (R.gtr rfl rfl) rfl ?_; clear hA a; intro a hA
    refine S.val hA (R.pickT rfl rfl) rfl ?_; clear hA a; intro a hA
    refine S.done ?_
    replace hA : St 66 [(1, _), (6, _), (7, _), (8, _), (36, _)] a := hA.sub ((.cons rfl (.cons rfl (.cons rfl (.cons rfl (.cons rfl .nil))))))
    exact hJ _ _ ⟨hA.sub (.cons rfl (.cons rfl (.cons rfl (.cons rfl (.cons (by first | rfl | exact congrArg (fun b => some (Value.bool b)) (by first | exact decide_eq_decide.2 (by omega) | exact or_bool (by omega) | exact and_bool (by omega) | (simp; done) | (simp [hg41]; done) | (have h80 := hg41; (try simp at h80); simp [h80]; done) | exact (decide_eq_false (fun h9 => hg41 h9.1)).symm)) .nil))))), hM⟩
   ·
    clear hA; intro hg41 hA
    refine S.no (dj := 32) hA (by kernel_rfl) rfl rfl rfl ?_; clear hA a; intro a hA
    refine S.no (dj := 32) hA (by kernel_rfl) rfl rfl rfl ?_; clear hA a; intro a hA
    refine S.no (dj := 32) hA (by kernel_rfl) rfl rfl rfl ?_; clear hA a; intro a hA
    refine S.val hA (R.pickF rfl rfl) rfl ?_; clear hA a; intro a hA
    refine S.done ?_
    replace hA : St 66 [(1, _), (6, _), (7, _), (8, _), (36, _)] a := hA.sub ((.cons rfl (.cons rfl (.cons rfl (.cons rfl (.cons rfl .nil))))))
    exact hJ _ _ ⟨hA.sub (.cons rfl (.cons rfl (.cons rfl (.cons rfl (.cons (by first | rfl | exact congrArg (fun b => some (Value.bool b)) (by first | exact decide_eq_decide.2 (by omega) | exact or_bool (by omega) | exact and_bool (by omega) | (simp; done) | (simp [hg41]; done) | (have h80 := hg41; (try simp at h80); simp [h80]; done) | exact (decide_eq_false (fun h9 => hg41 h9.1)).symm)) .nil))))), hM⟩
theorem merge_any {lt : Int → Int → Bool} {A : Int → Prop} {cf : FuncId} {cs : Array Value} {fn : Func} (hcf : Try.prog.funcs[cf]? = some fn) (hcn : (fn.name == "runtime.NumGoroutine") = false) (hcb : fn.body.isNone = false) : ∀ f, MergeAt A lt cf cs (f + 1)
  | 0 => fun ax X cx w h1 h2 h3 h4 h5 => merge_step hcf hcn hcb 0 (fun ax X cx w h1 _ _ h4 _ => merge_short cf cs ax X cx (by omega) w h4) ax X cx h1 h2 h3 w h4 h5
  | f + 1 => fun ax X cx w h1 h2 h3 h4 h5 => merge_step hcf hcn hcb (f + 1) (merge_any hcf hcn hcb f) ax X cx h1 h2 h3 w h4 h5
end Go.Proofs.Ytnikajkklocncaa
namespace Go.Proofs.Ytnikajkklocncaa
theorem rbo_trans {lt : Int → Int → Bool} {A : Int → Prop} (has : ∀ x y, lt x y = true → lt y x = false) (hle : ∀ x y z, A x → A y → A z → lt y x = false → lt z y = false → lt z x = false) :
    ∀ x y z, A x → A y → A z → rbo lt x y = true → rbo lt y z = true → rbo lt x z = true := by
  intro x y z ax ay az h1 h2
  have l1 : lt y x = false := by
    unfold rbo at h1
    cases h : lt x y with
    | true => exact has _ _ h
    | false => rw [h] at h1; cases g : lt y x with
      | true => rw [g] at h1; simp at h1
      | false => rfl
  have l2 : lt z y = false := by
    unfold rbo at h2
    cases h : lt y z with
    | true => exact has _ _ h
    | false => rw [h] at h2; cases g : lt z y with
      | true => rw [g] at h2; simp at h2
      | false => rfl
  have l3 := hle x y z ax ay az l1 l2
  unfold rbo at h1 h2 ⊢
  rw [l3]
  cases h : lt x z with
  | true => rfl
  | false =>
    have q1 : lt x y = false := by
      cases g : lt x y with
      | false => rfl
      | true => have := hle y z x ay az ax l2 h; rw [g] at this; cases this
    have q2 : lt y z = false := by
      cases g : lt y z with
      | false => rfl
      | true => have := hle z x y az ax ay h l1; rw [g] at this; cases this
    rw [q1, l1] at h1
    rw [q2, l2] at h2
    simp at h1 h2 ⊢
    omega
def inRq (n : Nat) (x : Int) : Prop := 0 ≤ x ∧ x < n
def ltq (v w : List Int) (x y : Int) : Bool := if w.getD y.toNat 0 = 0 then false else if w.getD x.toNat 0 = 0 then true else decide (v.getD y.toNat 0 * w.getD x.toNat 0 < v.getD x.toNat 0 * w.getD y.toNat 0)
theorem ltq_asym (v w : List Int) (x y : Int) (h : ltq v w x y = true) : ltq v w y x = false := by
  unfold ltq at *
  split at h
  · cases h
  · rename_i h1
    split at h
    · rename_i h2; rw [if_pos h2]
    · rename_i h2
      rw [if_neg h2, if_neg h1]
      simp only [decide_eq_true_eq, decide_eq_false_iff_not] at *
      omega
theorem ltq_le (v w : List Int) (hw : ∀ z, 0 ≤ w.getD z 0) (x y z : Int) (h1 : ltq v w y x = false) (h2 : ltq v w z y = false) : ltq v w z x = false := by
  unfold ltq at *
  by_cases ex : w.getD x.toNat 0 = 0
  · rw [if_pos ex]
  · rw [if_neg ex] at h1 ⊢
    by_cases ey : w.getD y.toNat 0 = 0
    · rw [if_pos ey] at h1; cases h1
    · rw [if_neg ey] at h1 h2
      by_cases ez : w.getD z.toNat 0 = 0
      · rw [if_pos ez] at h2; cases h2
      · rw [if_neg ez] at h2 ⊢
        simp only [decide_eq_false_iff_not, Int.not_lt] at *
        have px := hw x.toNat
        have py := hw y.toNat
        have pz := hw z.toNat
        generalize w.getD x.toNat 0 = wx at *
        generalize w.getD y.toNat 0 = wy at *
        generalize w.getD z.toNat 0 = wz at *
        generalize v.getD x.toNat 0 = vx at *
        generalize v.getD y.toNat 0 = vy at *
        generalize v.getD z.toNat 0 = vz at *
        have a1 : vz * wy * wx ≤ vy * wz * wx := Int.mul_le_mul_of_nonneg_right h2 px
        have a2 : vy * wx * wz ≤ vx * wy * wz := Int.mul_le_mul_of_nonneg_right h1 pz
        have e1 : vz * wy * wx = wy * (vz * wx) := by rw [Int.mul_comm vz wy, Int.mul_assoc]
        have e2 : vy * wz * wx = vy * wx * wz := by rw [Int.mul_assoc, Int.mul_comm wz wx, ← Int.mul_assoc]
        have e3 : vx * wy * wz = wy * (vx * wz) := by rw [Int.mul_comm vx wy, Int.mul_assoc]
        exact Int.le_of_mul_le_mul_left (by omega : wy * (vz * wx) ≤ wy * (vx * wz)) (by omega)
def byQ (v w : List Int) : List Int := msort (ltq v w) (v.length + 1) (pl v.length)
theorem byQ_perm (v w : List Int) : (byQ v w).Perm (pl v.length) := msort_perm _ _
theorem byQ_len (v w : List Int) : (byQ v w).length = v.length := by rw [(byQ_perm v w).length_eq, pl_len]
theorem byQ_pw (v w : List Int) (hw : ∀ z, 0 ≤ w.getD z 0) : (byQ v w).Pairwise (fun a b => rbo (ltq v w) a b = true) :=
  msort_pw (A := fun _ => True) (rbo_trans (ltq_asym v w) (fun x y z _ _ _ => ltq_le v w hw x y z)) _ _ (by rw [pl_len]; omega) (fun _ _ => trivial) (pl_pw _)
theorem rbq_irr (v w : List Int) (a : Int) : rbo (ltq v w) a a = false := rbo_irr a (by unfold ltq; split; rfl; simp)
theorem rbq_asym (v w : List Int) (a b : Int) (h : rbo (ltq v w) a b = true) : rbo (ltq v w) b a = false := rbo_asym (ltq_asym v w a b) h
def btr (v w : List Int) (a b : Nat) : Bool :=
  if w.getD a 0 = 0 ∨ w.getD b 0 = 0 then decide (w.getD a 0 = 0 ∧ (w.getD b 0 ≠ 0 ∨ (a : Int) < b))
  else decide (v.getD b 0 * w.getD a 0 < v.getD a 0 * w.getD b 0 ∨ (v.getD a 0 * w.getD b 0 = v.getD b 0 * w.getD a 0 ∧ (a : Int) < b))
theorem rbq_eq (v w : List Int) (a b : Nat) : rbo (ltq v w) (a : Int) (b : Int) = btr v w a b := by
  unfold rbo ltq btr
  rw [Int.toNat_natCast, Int.toNat_natCast]
  generalize w.getD a 0 = wa
  generalize w.getD b 0 = wb
  generalize v.getD a 0 = va
  generalize v.getD b 0 = vb
  by_cases h1 : wa = 0 <;> by_cases h2 : wb = 0 <;> simp [h1, h2]
  by_cases h3 : vb * wa < va * wb
  · simp [h3]
  · by_cases h4 : va * wb < vb * wa
    · have : ¬ va * wb = vb * wa := by omega
      simp [h3, h4, this]
    · have : va * wb = vb * wa := by omega
      simp [this]
theorem btr_irr (v w : List Int) (a : Nat) : btr v w a a = false := by rw [← rbq_eq]; exact rbq_irr v w a
theorem getD_nn {l : List Int} (h : ∀ x ∈ l, 0 ≤ x) (z : Nat) : 0 ≤ l.getD z 0 := by
  rw [List.getD_eq_getElem?_getD]
  cases e : l[z]? with
  | none => exact Int.le_refl _
  | some y => exact h y (List.mem_of_getElem? e)
end Go.Proofs.Ytnikajkklocncaa
namespace Go.Proofs.Ytnikajkklocncaa
def hasNeg (X : List Int) : Bool := X.any fun x => decide (x < 0)
theorem hasNeg_at {X : List Int} {k : Nat} (hk : k < X.length) (h : X.getD k 0 < 0) : hasNeg X = true := by
  refine List.any_eq_true.2 ⟨X.getD k 0, ?_, decide_eq_true h⟩
  rw [List.getD_eq_getElem?_getD, List.getElem?_eq_getElem hk]; exact List.getElem_mem hk
theorem hasNeg_no {X : List Int} (h : ∀ j, j < X.length → 0 ≤ X.getD j 0) : hasNeg X = false := by
  refine List.any_eq_false.2 fun x hx => ?_
  obtain ⟨j, hj, rfl⟩ := List.mem_iff_getElem.1 hx
  have := h j hj
  rw [List.getD_eq_getElem?_getD, List.getElem?_eq_getElem hj] at this
  simpa using this
theorem nn_of {X : List Int} (h : hasNeg X = false) : ∀ x ∈ X, 0 ≤ x := fun x hx => by
  have := List.any_eq_false.1 h x hx
  simpa using this
end Go.Proofs.Ytnikajkklocncaa
namespace Go.Proofs
open Go.Shelf
def Try.lays264_ren : Go.Shelf.Ren := ⟨fun | 264 => 91 | n => n, fun | 53 => 45 | 46 => 99 | n => n, fun | n => n⟩
theorem Try.lays264 : Go.Proofs.Lays.n264 Try.prog Try.lays264_ren := {
  mixed := by kernel_rfl
  f264 := Try.func91.trans (congrArg some (by kernel_rfl))
  t46 := Try.underlying99
  a46 := Try.isAgg99
  z46 := Try.sizeOf99
  v46 := Try.zeroValue99
  t53 := Try.underlying45
  a53 := Try.isAgg45
  z53 := Try.sizeOf45
  v53 := Try.zeroValue45 }
open Go.RowKit Go.Lib in
theorem Try.bits_Mul64 (x y : Nat) (hx : x < 18446744073709551616) (hy : y < 18446744073709551616) (w : World) :
    Calls Try.prog 91 #[.int .u64 x, .int .u64 y] w fun e w' => e = .returned (.tuple #[.int .u64 ((x * y / 18446744073709551616 : Nat) : Int), .int .u64 ((x * y % 18446744073709551616 : Nat) : Int)]) ∧ w' = w := Any.bits_Mul64 Try.lays264 x y hx hy w
end Go.Proofs
namespace Go.Proofs.Ytnikajkklocncaa
open Go.RowKit
set_option maxHeartbeats 400000 in
theorem a_size (a : Int) (a0 : -9223372036854775808 ≤ a) (a1 : a ≤ 9223372036854775807) (w : World) :
    Calls Try.prog 92 #[.int .i64 a] w fun e w' => e = .returned (.int .u64 (a.natAbs : Int)) ∧ w = w' := by
  rcases Int.lt_or_le a 0 with h | h
  · go_enter Try.func92, Try.ntmps92
    go_wp2
    go_ret
    refine ⟨?_, rfl⟩
    rw [show (a.natAbs : Int) = IntKind.u64.wrap (-IntKind.u64.wrap a) by rw [IntKind.wrap_u64, IntKind.wrap_u64]; omega]; rfl
  · go_enter Try.func92, Try.ntmps92
    go_wp2
    go_ret
    refine ⟨?_, rfl⟩
    rw [show (a.natAbs : Int) = a by omega]; rfl
end Go.Proofs.Ytnikajkklocncaa
namespace Go.Proofs.Ytnikajkklocncaa
open Go.RowKit
theorem abs_mul (a b : Int) : (a.natAbs * b.natAbs : Nat) = (a * b).natAbs := (Int.natAbs_mul a b).symm
end Go.Proofs.Ytnikajkklocncaa
namespace Go.Proofs.Ytnikajkklocncaa
open Go.RowKit
theorem band_i64 (a b : Nat) (ha : a < 9223372036854775808) (hb : b < 9223372036854775808) : bits BinOp.and IntKind.i64 (a : Int) (b : Int) = ((a &&& b : Nat) : Int) := by
  have h1 : a &&& b ≤ a := Nat.and_le_left
  show IntKind.i64.wrap (((BitVec.ofInt 64 (a : Int)) &&& (BitVec.ofInt 64 (b : Int))).toNat : Int) = _
  rw [BitVec.ofInt_natCast, BitVec.ofInt_natCast, BitVec.toNat_and, BitVec.toNat_ofNat, BitVec.toNat_ofNat, Nat.mod_eq_of_lt (by omega), Nat.mod_eq_of_lt (by omega)]
  exact IntWalk.i64_in _ (by omega)
theorem band_u64 (a b : Nat) (ha : a < 18446744073709551616) (hb : b < 18446744073709551616) : bits BinOp.and IntKind.u64 (a : Int) (b : Int) = ((a &&& b : Nat) : Int) := by
  have h1 : a &&& b ≤ a := Nat.and_le_left
  show IntKind.u64.wrap (((BitVec.ofInt 64 (a : Int)) &&& (BitVec.ofInt 64 (b : Int))).toNat : Int) = _
  rw [BitVec.ofInt_natCast, BitVec.ofInt_natCast, BitVec.toNat_and, BitVec.toNat_ofNat, BitVec.toNat_ofNat, Nat.mod_eq_of_lt (by omega), Nat.mod_eq_of_lt (by omega)]
  exact IntWalk.u64_in _ (by omega)
theorem band31_i64 (x : Int) (h0 : 0 ≤ x) (h1 : x < 9223372036854775808) : bits BinOp.and IntKind.i64 x 2147483647 = x % 2147483648 := by
  obtain ⟨n, rfl⟩ := Int.eq_ofNat_of_zero_le h0
  have := band_i64 n 2147483647 (by omega) (by omega)
  rw [show ((2147483647 : Nat) : Int) = 2147483647 from rfl] at this
  rw [this, show (2147483647 : Nat) = 2^31 - 1 from rfl, Nat.and_two_pow_sub_one_eq_mod]
  omega
theorem band31_u64 (x : Int) (h0 : 0 ≤ x) (h1 : x < 18446744073709551616) : bits BinOp.and IntKind.u64 x 2147483647 = x % 2147483648 := by
  obtain ⟨n, rfl⟩ := Int.eq_ofNat_of_zero_le h0
  have := band_u64 n 2147483647 (by omega) (by omega)
  rw [show ((2147483647 : Nat) : Int) = 2147483647 from rfl] at this
  rw [this, show (2147483647 : Nat) = 2^31 - 1 from rfl, Nat.and_two_pow_sub_one_eq_mod]
  omega
def dg (n i : Nat) : Nat := n / 2^(31*i) % 2147483648
def carry (m n k : Nat) : Nat := (m + n) / 2^(31*k) - m / 2^(31*k) - n / 2^(31*k)
theorem pow31 (k : Nat) : 2^(31*(k+1)) = 2^(31*k) * 2147483648 := by rw [Nat.mul_add, Nat.pow_add]
theorem div31 (n k : Nat) : n / 2^(31*(k+1)) = n / 2^(31*k) / 2147483648 := by rw [pow31, Nat.div_div_eq_div_mul]
theorem dg_lt (n i : Nat) : dg n i < 2147483648 := Nat.mod_lt _ (by decide)
theorem add_div_le (m n q : Nat) (hq : 0 < q) : m / q + n / q ≤ (m + n) / q ∧ (m + n) / q ≤ m / q + n / q + 1 := by
  rw [Nat.add_div hq]; split <;> omega
theorem carry_zero (m n : Nat) : carry m n 0 = 0 := by simp [carry]
theorem carry_le (m n k : Nat) : carry m n k ≤ 1 := by
  have := add_div_le m n (2^(31*k)) (Nat.two_pow_pos _); unfold carry; omega
theorem plus_step (m n k : Nat) : dg m k + dg n k + carry m n k = dg (m + n) k + 2147483648 * carry m n (k+1) := by
  have h0 := add_div_le m n (2^(31*k)) (Nat.two_pow_pos _)
  have h1 := add_div_le m n (2^(31*(k+1))) (Nat.two_pow_pos _)
  unfold carry dg
  rw [div31, div31, div31] at *
  generalize m / 2^(31*k) = x at *
  generalize n / 2^(31*k) = y at *
  generalize (m+n) / 2^(31*k) = z at *
  omega
def borrow (m n k : Nat) : Nat := m / 2^(31*k) - n / 2^(31*k) - (m - n) / 2^(31*k)
theorem sub_div_le (m n q : Nat) (hq : 0 < q) (h : n ≤ m) : n / q + (m - n) / q ≤ m / q ∧ m / q ≤ n / q + (m - n) / q + 1 := by
  have := add_div_le n (m - n) q hq
  rwa [show n + (m - n) = m from by omega] at this
theorem borrow_zero (m n : Nat) : borrow m n 0 = 0 := by simp [borrow]
theorem borrow_le (m n k : Nat) (h : n ≤ m) : borrow m n k ≤ 1 := by
  have := sub_div_le m n (2^(31*k)) (Nat.two_pow_pos _) h; unfold borrow; omega
theorem minus_step (m n k : Nat) (h : n ≤ m) : dg m k + 2147483648 * borrow m n (k+1) = dg (m - n) k + dg n k + borrow m n k := by
  have h0 := sub_div_le m n (2^(31*k)) (Nat.two_pow_pos _) h
  have h1 := sub_div_le m n (2^(31*(k+1))) (Nat.two_pow_pos _) h
  unfold borrow dg
  rw [div31, div31, div31] at *
  generalize m / 2^(31*k) = x at *
  generalize n / 2^(31*k) = y at *
  generalize (m-n) / 2^(31*k) = z at *
  omega
theorem less_step (m n i : Nat) (h : m / 2^(31*(i+1)) = n / 2^(31*(i+1))) (hne : dg m i ≠ dg n i) : (m < n ↔ dg m i < dg n i) := by
  have h0 : m / 2^(31*i) < n / 2^(31*i) ↔ dg m i < dg n i := by
    unfold dg at *; rw [div31, div31] at h; omega
  rw [← h0]
  have hne' : m / 2^(31*i) ≠ n / 2^(31*i) := fun e => hne (by unfold dg; rw [e])
  constructor
  · intro hlt
    have := Nat.div_le_div_right (c := 2^(31*i)) (Nat.le_of_lt hlt)
    omega
  · intro hlt
    rcases Nat.lt_or_ge m n with g | g
    · exact g
    · have := Nat.div_le_div_right (c := 2^(31*i)) g; omega
theorem eq_step (m n i : Nat) (h : m / 2^(31*(i+1)) = n / 2^(31*(i+1))) (he : dg m i = dg n i) : m / 2^(31*i) = n / 2^(31*i) := by
  unfold dg at he; rw [div31, div31] at h; omega
theorem top_of (m k : Nat) (hk : 200 ≤ k) (h : m < 2^200) : m / 2^k = 0 :=
  Nat.div_eq_of_lt (Nat.lt_of_lt_of_le h (Nat.pow_le_pow_right (by decide) hk))
theorem top_zero (m : Nat) (h : m < 2^200) (k : Nat) (hk : k = 9) : m / 2^(31*k) = 0 := top_of m _ (by omega) h
theorem dg_ext (m n : Nat) (hm : m < 2^200) (hn : n < 2^200) (h : ∀ i, i < 9 → dg m i = dg n i) : m = n := by
  have key : ∀ j k, j + k = 9 → m / 2^(31*k) = n / 2^(31*k) := by
    intro j
    induction j with
    | zero => intro k hk; rw [top_zero m hm k (by omega), top_zero n hn k (by omega)]
    | succ j ih => intro k hk; exact eq_step m n _ (ih (k+1) (by omega)) (h _ (by omega))
  simpa using key 9 0 (by omega)
def tim (P x n i k : Nat) : Nat := P + x * 2^(31*i) * (n % 2^(31*k))
def tover (P x n i k : Nat) : Nat := tim P x n i k / 2^(31*(i+k)) - P / 2^(31*(i+k))
theorem tim_zero (P x n i : Nat) : tim P x n i 0 = P := by simp [tim, Nat.mod_one]
theorem tover_zero (P x n i : Nat) : tover P x n i 0 = 0 := by simp [tover, tim_zero]
theorem mod31 (n k : Nat) : n % 2^(31*(k+1)) = n % 2^(31*k) + 2^(31*k) * dg n k := by
  unfold dg; rw [pow31, Nat.mod_mul]
theorem tim_succ (P x n i k : Nat) : tim P x n i (k+1) = tim P x n i k + x * dg n k * 2^(31*(i+k)) := by
  unfold tim; rw [mod31, Nat.mul_add, Nat.mul_add 31 i k, Nat.pow_add]
  rw [← Nat.add_assoc]; congr 1
  simp only [Nat.mul_assoc, Nat.mul_left_comm, Nat.mul_comm]
theorem tim_ge (P x n i k : Nat) : P ≤ tim P x n i k := Nat.le_add_right _ _
theorem dg_add_high (a b j k : Nat) (h : j < k) : dg (a + b * 2^(31*k)) j = dg a j := by
  unfold dg
  have : b * 2^(31*k) = 2^(31*j) * (2147483648 * (b * 2^(31*(k-j-1)))) := by
    rw [show 31*k = 31*j + 31 + 31*(k-j-1) from by omega, Nat.pow_add, Nat.pow_add, show (2:Nat)^31 = 2147483648 from rfl]
    simp only [Nat.mul_assoc, Nat.mul_left_comm, Nat.mul_comm]
  rw [this, Nat.add_mul_div_left _ _ (Nat.two_pow_pos _), Nat.add_mul_mod_self_left]
theorem tim_low (P x n i k j : Nat) (h : j < i + k) : dg (tim P x n i (k+1)) j = dg (tim P x n i k) j := by
  rw [tim_succ]; exact dg_add_high _ _ _ _ h
theorem tim_div (P x n i k : Nat) : tim P x n i (k+1) / 2^(31*(i+k)) = tim P x n i k / 2^(31*(i+k)) + x * dg n k := by
  rw [tim_succ, Nat.add_mul_div_right _ _ (Nat.two_pow_pos _)]
theorem times_step (P x n i k : Nat) : dg P (i+k) + x * dg n k + tover P x n i k = dg (tim P x n i (k+1)) (i+k) + 2147483648 * tover P x n i (k+1) := by
  have hd := tim_div P x n i k
  have h0 := Nat.div_le_div_right (c := 2^(31*(i+k))) (tim_ge P x n i k)
  have h1 := Nat.div_le_div_right (c := 2^(31*(i+(k+1)))) (tim_ge P x n i (k+1))
  unfold tover
  rw [show i + (k+1) = (i+k)+1 from rfl, div31, div31] at *
  generalize x * dg n k = y at *
  unfold dg
  rw [hd] at h1 ⊢
  generalize tim P x n i k / 2^(31*(i+k)) = T at *
  generalize P / 2^(31*(i+k)) = p at *
  omega
theorem tim_four (P x n i : Nat) (hn : n < 2^(31*4)) : tim P x n i 4 = P + x * n * 2^(31*i) := by
  unfold tim; rw [Nat.mod_eq_of_lt hn]; congr 1; exact Nat.mul_right_comm _ _ _
def low (m i : Nat) : Nat := m % 2^(31*i)
theorem low_zero (m : Nat) : low m 0 = 0 := by simp [low, Nat.mod_one]
theorem low_succ (m n i : Nat) : low m (i+1) * n = low m i * n + dg m i * n * 2^(31*i) := by
  unfold low; rw [mod31, Nat.add_mul]; congr 1; rw [Nat.mul_comm (2^(31*i)), Nat.mul_right_comm]
theorem low_lt (m n i : Nat) (hn : n < 2^(31*4)) : low m i * n < 2^(31*(i+4)) := by
  rw [show 31*(i+4) = 31*i + 31*4 from by omega, Nat.pow_add]
  have h1 : low m i < 2^(31*i) := Nat.mod_lt _ (Nat.two_pow_pos _)
  exact Nat.mul_lt_mul_of_lt_of_le h1 (Nat.le_of_lt hn) (Nat.two_pow_pos _)
theorem dg_high (a j k : Nat) (h : a < 2^(31*k)) (hj : k ≤ j) : dg a j = 0 := by
  unfold dg; rw [Nat.div_eq_of_lt (Nat.lt_of_lt_of_le h (Nat.pow_le_pow_right (by decide) (by omega)))]
theorem tover_four (P x n i : Nat) (hP : P < 2^(31*(i+4))) (hT : tim P x n i 4 < 2^(31*(i+1+4))) : tover P x n i 4 = dg (tim P x n i 4) (i+4) := by
  unfold tover dg
  rw [Nat.div_eq_of_lt hP, Nat.sub_zero, Nat.mod_eq_of_lt]
  rw [show i+1+4 = (i+4)+1 from by omega, pow31] at hT
  exact Nat.div_lt_of_lt_mul hT
theorem tover_le (P x n i k : Nat) (hx : x < 2147483648) : tover P x n i k ≤ 2147483648 := by
  induction k with
  | zero => rw [tover_zero]; omega
  | succ k ih =>
    have h := times_step P x n i k
    have h1 := dg_lt P (i+k)
    have h2 : x * dg n k ≤ 2147483647 * 2147483647 := Nat.mul_le_mul (by omega) (by have := dg_lt n k; omega)
    omega
end Go.Proofs.Ytnikajkklocncaa
namespace Go.Proofs.Ytnikajkklocncaa
open Go.RowKit
def bigA (n : Nat) : Array Value := #[.int .i64 (dg n 0), .int .i64 (dg n 1), .int .i64 (dg n 2), .int .i64 (dg n 3), .int .i64 (dg n 4), .int .i64 (dg n 5), .int .i64 (dg n 6), .int .i64 (dg n 7), .int .i64 (dg n 8)]
def zeros9 : Array Value := #[Value.int .i64 0, .int .i64 0, .int .i64 0, .int .i64 0, .int .i64 0, .int .i64 0, .int .i64 0, .int .i64 0, .int .i64 0]
theorem bigA_eq (n : Nat) : bigA n = ints (row 9 (fun i => (dg n i : Int))) := rfl
theorem bigA_get (n : Nat) (i : Nat) (h : i < 9) : (bigA n)[i]? = some (.int .i64 (dg n i)) := by rw [bigA_eq]; exact ints_row_get 9 _ i h
set_option maxHeartbeats 400000 in
theorem plus_any (m n : Nat) (w : World)  :
    Calls Try.prog 93 #[.agg (bigA m), .agg (bigA n)] w fun e w' => e = .returned (.agg (bigA (m+n))) ∧ Below w.heap.size w w' := by
  go_enter Try.func93, Try.ntmps93
  go_wp2
  go_loopw [6, 7] (fun o i W => ∃ k : Nat, k ≤ 9 ∧ i = .int .i64 k ∧ o = .int .i64 (carry m n k) ∧
     blk W w.heap.size (bigA m) 81 ∧ blk W (w.heap.size + 1) (bigA n) 81 ∧ blk W (w.heap.size + 1 + 1) zeros9 81 ∧ blk W (w.heap.size + 1 + 1 + 1) (ints (row 9 (fun i => if i < k then (dg (m+n) i : Int) else 0))) 81 ∧ Below w.heap.size w W)
     (fun _ i _ => 9 - (intOf i).toNat)
  case atStart =>
    refine ⟨0, by omega, by rfl, by rw [carry_zero]; rfl, ?_, ?_, ?_, ?_, ?_⟩
    all_goals first | (repeat (first | (refine blk.at_ ?_ rfl; simp; done) | refine blk.alloc ?_ _)) | skip
    exact ((((Below.refl _ _).alloc (Nat.le_refl _) _).alloc (by simp) _).alloc (by simp; omega) _).alloc (by simp; omega) _
  case round =>
    obtain ⟨k, hk, rfl, rfl, h0, h1, h2, h3, hb⟩ := hrel
    by_cases hlt : k < 9
    · have c0 := h0.cellv (bigA_get m k hlt)
      have c1 := h1.cellv (bigA_get n k hlt)
      have b1 := dg_lt m k
      have b2 := dg_lt n k
      have b3 := carry_le m n k
      have c3 := h3.free k
      have c4 := h3.cellv (ints_row_get 9 _ k hlt)
      have H0 := hid h0; have H1 := hid h1; have H2 := hid h2; have H3 := hid h3; have HB := hid hb
      clear h0 h1 h2 h3 hb
      go_wp2
      go_quiet (fail)
      have hs := plus_step m n k
      have b4 := dg_lt (m+n) k
      have HS := hid hs; clear hs
      go_wp2
      go_roundw
      case rel =>
        have hs := HS.out
        refine ⟨k + 1, by omega, by go_num, ?_, (H0.out.drewN _).off (by omega) _, (H1.out.drewN _).off (by omega) _, (H2.out.drewN _).off (by omega) _, ?_, bset (bdrewN HB.out _) (by omega) _⟩
        · rw [show ((dg m k : Int) + dg n k + carry m n k) / 2147483648 = (carry m n (k+1) : Int) by omega]
        · rw [band31_i64 _ (by omega) (by omega), show ((dg m k : Int) + dg n k + carry m n k) % 2147483648 = (dg (m+n) k : Int) by omega]
          refine (H3.out.drewN _).setTo _ _ (ints_row_set 9 _ _ _ _ ?_)
          intro i hi
          by_cases e : i = k
          · subst e; simp
          · by_cases h : i < k
            · simp [e, h, show i < k + 1 by omega]
            · simp [e, h, show ¬ i < k + 1 by omega]
      case measure => (simp [intOf]; try omega)
    · have hk9 : k = 9 := by omega
      subst hk9
      have f2 : ∀ i, wr.frozen? ⟨w.heap.size + 1 + 1, i, none⟩ = false := fun i => h2.free i
      have c2 : ∀ i, wr.cell? ⟨w.heap.size + 1 + 1, i, none⟩ = zeros9[i]? := fun i => h2.cell i
      have c3 : ∀ i, wr.cell? ⟨w.heap.size + 1 + 1 + 1, i, none⟩ = (bigA (m+n))[i]? := fun i => h3.cell i
      unfold zeros9 at c2
      unfold bigA at c3
      have HB := hid hb
      clear h0 h1 h2 h3 hb
      go_wp2
      refine bodyPost_ret (v := .agg (bigA (m+n))) (by simp [results, Try.results93, go_sem, bigA, c2]) rfl ⟨rfl, ?_⟩
      have hb := HB.out
      (repeat (refine bset ?_ (by omega) _)); exact hb
set_option maxHeartbeats 800000 in
theorem minus_any (m n : Nat) (hmn : n ≤ m) (w : World)  :
    Calls Try.prog 95 #[.agg (bigA m), .agg (bigA n)] w fun e w' => e = .returned (.agg (bigA (m-n))) ∧ Below w.heap.size w w' := by
  go_enter Try.func95, Try.ntmps95
  go_wp2
  go_loopw [6, 7] (fun o i W => ∃ k : Nat, k ≤ 9 ∧ i = .int .i64 k ∧ o = .int .i64 (borrow m n k) ∧
     blk W w.heap.size (bigA m) 81 ∧ blk W (w.heap.size + 1) (bigA n) 81 ∧ blk W (w.heap.size + 1 + 1) zeros9 81 ∧ blk W (w.heap.size + 1 + 1 + 1) (ints (row 9 (fun i => if i < k then (dg (m-n) i : Int) else 0))) 81 ∧ Below w.heap.size w W)
     (fun _ i _ => 9 - (intOf i).toNat)
  case atStart =>
    refine ⟨0, by omega, by rfl, by rw [borrow_zero]; rfl, ?_, ?_, ?_, ?_, ?_⟩
    all_goals first | (repeat (first | (refine blk.at_ ?_ rfl; simp; done) | refine blk.alloc ?_ _)) | skip
    exact ((((Below.refl _ _).alloc (Nat.le_refl _) _).alloc (by simp) _).alloc (by simp; omega) _).alloc (by simp; omega) _
  case round =>
    obtain ⟨k, hk, rfl, rfl, h0, h1, h2, h3, hb⟩ := hrel
    by_cases hlt : k < 9
    · have c0 := h0.cellv (bigA_get m k hlt)
      have c1 := h1.cellv (bigA_get n k hlt)
      have b1 := dg_lt m k
      have b2 := dg_lt n k
      have b3 := borrow_le m n k hmn
      have c3 := h3.free k
      have c4 := h3.cellv (ints_row_get 9 _ k hlt)
      have H0 := hid h0; have H1 := hid h1; have H2 := hid h2; have H3 := hid h3; have HB := hid hb
      clear h0 h1 h2 h3 hb
      have hs := minus_step m n k hmn
      have b4 := dg_lt (m-n) k
      have b5 := borrow_le m n (k+1) hmn
      rcases Nat.lt_or_ge 0 (borrow m n (k+1)) with hone | hzero
      · have hneg : (dg m k : Int) - dg n k - borrow m n k < 0 := by omega
        have HS := hid hs; clear hs
        go_wp2
        go_quiet (fail)
        go_wp2
        go_roundw
        case rel =>
          have hs := HS.out
          refine ⟨k + 1, by omega, by go_num, ?_, (H0.out.drewN _).off (by omega) _, (H1.out.drewN _).off (by omega) _, (H2.out.drewN _).off (by omega) _, ?_, bset (bdrewN HB.out _) (by omega) _⟩
          · rw [show borrow m n (k+1) = 1 by omega]; rfl
          · refine (H3.out.drewN _).setTo _ _ (ints_row_set 9 _ _ _ _ ?_)
            intro i hi
            by_cases e : i = k
            · subst e; simp; omega
            · by_cases h : i < k
              · simp [e, h, show i < k + 1 by omega]
              · simp [e, h, show ¬ i < k + 1 by omega]
        case measure => (simp [intOf]; try omega)
      · have hneg : 0 ≤ (dg m k : Int) - dg n k - borrow m n k := by omega
        have HS := hid hs; clear hs
        go_wp2
        go_quiet (fail)
        go_wp2
        go_roundw
        case rel =>
          have hs := HS.out
          refine ⟨k + 1, by omega, by go_num, ?_, (H0.out.drewN _).off (by omega) _, (H1.out.drewN _).off (by omega) _, (H2.out.drewN _).off (by omega) _, ?_, bset (bdrewN HB.out _) (by omega) _⟩
          · rw [show borrow m n (k+1) = 0 by omega]; rfl
          · refine (H3.out.drewN _).setTo _ _ (ints_row_set 9 _ _ _ _ ?_)
            intro i hi
            by_cases e : i = k
            · subst e; simp; omega
            · by_cases h : i < k
              · simp [e, h, show i < k + 1 by omega]
              · simp [e, h, show ¬ i < k + 1 by omega]
        case measure => (simp [intOf]; try omega)
    · have hk9 : k = 9 := by omega
      subst hk9
      have f2 : ∀ i, wr.frozen? ⟨w.heap.size + 1 + 1, i, none⟩ = false := fun i => h2.free i
      have c2 : ∀ i, wr.cell? ⟨w.heap.size + 1 + 1, i, none⟩ = zeros9[i]? := fun i => h2.cell i
      have c3 : ∀ i, wr.cell? ⟨w.heap.size + 1 + 1 + 1, i, none⟩ = (bigA (m-n))[i]? := fun i => h3.cell i
      unfold zeros9 at c2
      unfold bigA at c3
      have HB := hid hb
      clear h0 h1 h2 h3 hb
      go_wp2
      refine bodyPost_ret (v := .agg (bigA (m-n))) (by simp [results, Try.results95, go_sem, bigA, c2]) rfl ⟨rfl, ?_⟩
      have hb := HB.out
      (repeat (refine bset ?_ (by omega) _)); exact hb
def Two200 (n : Nat) : Prop := n < 2^200
set_option maxHeartbeats 800000 in
theorem less_any (m n : Nat) (hm : Two200 m) (hn : Two200 n) (w : World)  :
    Calls Try.prog 94 #[.agg (bigA m), .agg (bigA n)] w fun e w' => e = .returned (.bool (decide (m < n))) ∧ Below w.heap.size w w' := by
  go_enter Try.func94, Try.ntmps94
  go_wp2
  go_loopw [5] (fun i W => ∃ k : Nat, k ≤ 9 ∧ i = .int .i64 ((k : Int) - 1) ∧ m / 2^(31*k) = n / 2^(31*k) ∧
     blk W w.heap.size (bigA m) 81 ∧ blk W (w.heap.size + 1) (bigA n) 81 ∧ Below w.heap.size w W)
     (fun i _ => (intOf i + 1).toNat)
  case atStart =>
    refine ⟨9, by omega, by rfl, by rw [top_zero m hm 9 rfl, top_zero n hn 9 rfl], ?_, ?_, ?_⟩
    all_goals first | (repeat (first | (refine blk.at_ ?_ rfl; simp; done) | refine blk.alloc ?_ _)) | skip
    exact ((Below.refl _ _).alloc (Nat.le_refl _) _).alloc (by simp) _
  case round =>
    obtain ⟨k, hk, rfl, hd, h0, h1, hb⟩ := hrel
    rcases k with _ | k
    · have he : m = n := by simpa using hd
      have H0 := hid h0; have H1 := hid h1; have HB := hid hb; have HD := hid hd; have HE := hid he
      clear h0 h1 hb hd he hm hn
      go_wp2
      go_ret
      exact ⟨ret_bool (by simp [HE.out]), HB.out⟩
    · rw [show ((k + 1 : Nat) : Int) - 1 = (k : Int) by omega]
      have hlt : k < 9 := by omega
      have c0 := h0.cellv (bigA_get m k hlt)
      have c1 := h1.cellv (bigA_get n k hlt)
      have b1 := dg_lt m k
      have b2 := dg_lt n k
      have H0 := hid h0; have H1 := hid h1; have HB := hid hb; have HD := hid hd
      clear h0 h1 hb hd hm hn
      by_cases he : dg m k = dg n k
      · have hx : ((dg m k : Int) != (dg n k : Int)) = false := by simp [he]
        have HE := hid he; clear he
        go_wp2
        go_quiet (fail)
        go_wp2
        go_roundw
        case rel => exact ⟨k, by omega, rfl, eq_step m n k HD.out HE.out, H0.out.drewN _, H1.out.drewN _, bdrewN HB.out _⟩
        case measure => (simp [intOf]; try omega)
      · have hx : ((dg m k : Int) != (dg n k : Int)) = true   := by (simp; try omega)
        have hl := less_step m n k HD.out he
        have HE := hid he; clear he
        have HL := hid hl; clear hl
        go_wp2
        go_quiet (fail)
        go_wp2
        go_quiet (fail)
        go_wp2
        go_ret
        refine ⟨ret_bool (decide_eq_decide.2 ?_), bdrewN (bdrewN HB.out _) _⟩
        have := HL.out
        omega
theorem dg_of_size (n i : Nat) (h : n ≤ 9223372036854775808) (hi : 3 ≤ i) : dg n i = 0 :=
  dg_high n i 3 (Nat.lt_of_le_of_lt h (by decide)) hi
set_option maxHeartbeats 800000 in
theorem of_any (a : Int) (h0 : -9223372036854775808 ≤ a) (h1 : a ≤ 9223372036854775807) (w : World)  :
    Calls Try.prog 90 #[.int .i64 a] w fun e w' => e = .returned (.agg (bigA a.natAbs)) ∧ Below w.heap.size w w' := by
  rcases Int.lt_or_le a 0 with hneg | hpos
  all_goals
    go_enter Try.func90, Try.ntmps90
    go_wp2
    go_loopw [4, 5] (fun u i W => ∃ k : Nat, k ≤ 3 ∧ i = .int .i64 k ∧ u = .int .u64 (a.natAbs / 2^(31*k) : Nat) ∧
       blk W w.heap.size zeros9 81 ∧ blk W (w.heap.size + 1) (ints (row 9 (fun i => if i < k then (dg a.natAbs i : Int) else 0))) 81 ∧ Below w.heap.size w W)
       (fun _ i _ => 3 - (intOf i).toNat)
    case atStart =>
      refine ⟨0, by omega, by rfl, ?_, ?_, ?_, ?_⟩
      · simp only [Nat.mul_zero, Nat.pow_zero, Nat.div_one]
        first | (rw [show (a.natAbs : Int) = a by omega]; done) | (rw [show (a.natAbs : Int) = -a by omega, IntKind.wrap_u64, IntKind.wrap_u64]; congr 1; omega)
      all_goals first | (repeat (first | (refine blk.at_ ?_ rfl; simp; done) | refine blk.alloc ?_ _)) | skip
      exact ((Below.refl _ _).alloc (Nat.le_refl _) _).alloc (by simp) _
    case round =>
      obtain ⟨k, hk, rfl, rfl, h0, h1, hb⟩ := hrel
      by_cases hlt : k < 3
      · have c3 := h1.free k
        have c4 := h1.cellv (ints_row_get 9 _ k (by omega))
        have b4 : a.natAbs / 2^(31*k) ≤ 9223372036854775808 := Nat.le_trans (Nat.div_le_self _ _) (by omega)
        have H0 := hid h0; have H1 := hid h1; have HB := hid hb
        have hd := div31 a.natAbs k
        have HD := hid hd
        clear h0 h1 hb hd
        have hx : a.natAbs / 2^(31*k) % 2147483648 = dg a.natAbs k := rfl
        have HX := hid hx
        clear hx
        generalize a.natAbs / 2^(31*k) = u at *
        go_wp2
        go_roundw
        case rel =>
          rw [band31_u64 _ (by omega) (by omega)]
          have hx := HX.out
          refine ⟨k + 1, by omega, by go_num, ?_, H0.out.off (by omega) _, ?_, bset HB.out (by omega) _⟩
          · rw [HD.out]; congr 1
          · refine H1.out.setTo _ _ (ints_row_set 9 _ _ _ _ ?_)
            intro i hi
            by_cases e : i = k
            · subst e; simp; rw [IntWalk.wrap64_in _ ⟨by omega, by omega⟩]; omega
            · by_cases h : i < k
              · simp [e, h, show i < k + 1 by omega]
              · simp [e, h, show ¬ i < k + 1 by omega]
        case measure => (simp [intOf]; try omega)
      · have hk9 : k = 3 := by omega
        subst hk9
        have h2 := h1.to (cs' := bigA a.natAbs) (by
          rw [bigA_eq]; congr 1; apply row_ext; intro i hi
          by_cases h : i < 3
          · simp [h]
          · simp [h, dg_of_size a.natAbs i (by omega) (by omega)])
        have f2 : ∀ i, wr.frozen? ⟨w.heap.size, i, none⟩ = false := fun i => h0.free i
        have c2 : ∀ i, wr.cell? ⟨w.heap.size, i, none⟩ = zeros9[i]? := fun i => h0.cell i
        have c3 : ∀ i, wr.cell? ⟨w.heap.size + 1, i, none⟩ = (bigA a.natAbs)[i]? := fun i => h2.cell i
        unfold zeros9 at c2
        unfold bigA at c3
        have HB := hid hb
        clear h0 h1 h2 hb
        go_wp2
        refine bodyPost_ret (v := .agg (bigA a.natAbs)) (by simp [results, Try.results90, go_sem, bigA, c2]) rfl ⟨rfl, ?_⟩
        have hb := HB.out
        (repeat (refine bset ?_ (by omega) _)); exact hb
end Go.Proofs.Ytnikajkklocncaa
namespace Go.Proofs.Ytnikajkklocncaa
open Go.RowKit
theorem gs {α : Type} {o x : α} {l : List α} {n : Nat} (h : l.toArray[n]? = some x) : (o :: l).toArray[n + 1]? = some x := by
  simpa using h
theorem bundrew {B : Nat} {w w' : World} (h : Below B w.drew w') : Below B w w' := ⟨h.os, h.tape, h.output, h.size, h.block⟩
end Go.Proofs.Ytnikajkklocncaa
namespace Go.Proofs.Ytnikajkklocncaa
open Go.RowKit
def wHi (v : Int) : Int := v / 18446744073709551616 % 18446744073709551616
def wLo (v : Int) : Int := v % 18446744073709551616
def wdA (v : Int) : Array Value := #[.int .u64 (wHi v), .int .u64 (wLo v)]
end Go.Proofs.Ytnikajkklocncaa
namespace Go.Proofs.Ytnikajkklocncaa
open Go.RowKit
theorem abs_bd {a b : Int} (a0 : -9223372036854775808 ≤ a) (a1 : a ≤ 9223372036854775807) (b0 : -9223372036854775808 ≤ b) (b1 : b ≤ 9223372036854775807) : (a * b).natAbs ≤ 85070591730234615865843651857942052864 := by
  rw [Int.natAbs_mul]
  have h1 : a.natAbs ≤ 9223372036854775808 := by omega
  have h2 : b.natAbs ≤ 9223372036854775808 := by omega
  exact Nat.mul_le_mul h1 h2
theorem w_size (p : Nat) (h : p ≤ 85070591730234615865843651857942052864) : wHi (p : Int) = ((p / 18446744073709551616 : Nat) : Int) ∧ wLo (p : Int) = ((p % 18446744073709551616 : Nat) : Int) := by
  unfold wHi wLo; omega
theorem cmp_pos {v : Int} (h : 0 < v) : cmpI v = 1 := by unfold cmpI; rw [if_neg (by omega), if_neg (by omega)]
theorem cmp_neg {v : Int} (h : v < 0) : cmpI v = -1 := by unfold cmpI; rw [if_neg (by omega), if_pos h]
theorem cmp_zero : cmpI 0 = 0 := rfl
def prodV (v : Int) : Value := .tuple #[.int .i64 (cmpI v), .agg (wdA (v.natAbs : Int))]
set_option maxHeartbeats 400000 in
theorem prod_any (a b : Int) (a0 : -9223372036854775808 ≤ a) (a1 : a ≤ 9223372036854775807) (b0 : -9223372036854775808 ≤ b) (b1 : b ≤ 9223372036854775807) (w : World) :
  Calls Try.prog 85 #[.int .i64 a, .int .i64 b] w fun e w' => e = .returned (prodV (a * b)) ∧ Below w.heap.size w w' := by
 have hp := abs_bd a0 a1 b0 b1
 have hm := fun w => Try.bits_Mul64 a.natAbs b.natAbs (by omega) (by omega) w
 have hmul : a.natAbs * b.natAbs = (a * b).natAbs := abs_mul a b
 rw [hmul] at hm
 have hw := hid (w_size _ hp)
 clear hp hmul
 have hcase : (a = 0 ∨ b = 0) ∨ ((a < 0 ↔ b < 0) ∧ a ≠ 0 ∧ b ≠ 0) ∨ (¬ (a < 0 ↔ b < 0) ∧ a ≠ 0 ∧ b ≠ 0) := by omega
 rcases hcase with h | h | h
 ·
  have hz : a * b = 0 := by rcases h with h | h <;> simp [h]
  rw [hz] at hw ⊢
  clear hz
  by_cases ha : a = 0
  ·
   have t1 : (a == 0) = true := by simp [ha]
   clear ha h
   go_enter Try.func85, Try.ntmps85
   go_wp2_with (first | (go_at_call_of 92 (Value.int IntKind.i64 a); refine (a_size a a0 a1 _).mono ?_; rintro e w' ⟨rfl, rfl⟩) | (go_at_call_of 92 (Value.int IntKind.i64 b); refine (a_size b b0 b1 _).mono ?_; rintro e w' ⟨rfl, rfl⟩) | (go_at_call 91; refine (hm _).mono ?_; rintro e w' ⟨rfl, hww⟩; subst hww))
   refine bodyPost_ret (v := prodV 0) (by simp [results, Try.results85, go_sem, prodV, wdA, cmpI, wHi, wLo]) rfl ⟨rfl, ?_⟩
   exact (Below.refl _ _).alloc (Nat.le_refl _) _
  ·
   have t1 : (a == 0) = false := by simp [ha]
   have t2 : (b == 0) = true := by simp; omega
   clear ha h
   go_enter Try.func85, Try.ntmps85
   go_wp2_with (first | (go_at_call_of 92 (Value.int IntKind.i64 a); refine (a_size a a0 a1 _).mono ?_; rintro e w' ⟨rfl, rfl⟩) | (go_at_call_of 92 (Value.int IntKind.i64 b); refine (a_size b b0 b1 _).mono ?_; rintro e w' ⟨rfl, rfl⟩) | (go_at_call 91; refine (hm _).mono ?_; rintro e w' ⟨rfl, hww⟩; subst hww))
   refine bodyPost_ret (v := prodV 0) (by simp [results, Try.results85, go_sem, prodV, wdA, cmpI, wHi, wLo]) rfl ⟨rfl, ?_⟩
   exact (Below.refl _ _).alloc (Nat.le_refl _) _
 ·
  have t1 : (a == 0) = false := by simp; omega
  have t2 : (b == 0) = false := by simp; omega
  have t3 : (decide (a < 0) != decide (b < 0)) = false := by simp [h.1]
  have hs : cmpI (a * b) = 1 := by
   rcases Int.lt_or_le a 0 with g | g
   · exact cmp_pos (Int.mul_pos_of_neg_of_neg g (h.1.1 g))
   · exact cmp_pos (Int.mul_pos (by omega) (by omega))
  have HS := hid hs
  have hiff := h.1
  clear hs h
  go_enter Try.func85, Try.ntmps85
  go_wp2_with (first | (go_at_call_of 92 (Value.int IntKind.i64 a); refine (a_size a a0 a1 _).mono ?_; rintro e w' ⟨rfl, rfl⟩) | (go_at_call_of 92 (Value.int IntKind.i64 b); refine (a_size b b0 b1 _).mono ?_; rintro e w' ⟨rfl, rfl⟩) | (go_at_call 91; refine (hm _).mono ?_; rintro e w' ⟨rfl, hww⟩; subst hww))
  refine bodyPost_ret (v := prodV (a * b)) (by simp [results, Try.results85, go_sem, prodV, wdA, hw.out.1, hw.out.2, HS.out]) rfl ⟨rfl, ?_⟩
  exact (Below.refl _ _).alloc (Nat.le_refl _) _
 ·
  have t1 : (a == 0) = false := by simp; omega
  have t2 : (b == 0) = false := by simp; omega
  have hs : cmpI (a * b) = -1 := by
   rcases Int.lt_or_le a 0 with g | g
   · exact cmp_neg (Int.mul_neg_of_neg_of_pos g (by omega))
   · exact cmp_neg (Int.mul_neg_of_pos_of_neg (by omega) (by omega))
  have t3 : (!decide (a < 0) == decide (b < 0)) = true := by
   have := h.1
   by_cases g : a < 0 <;> by_cases g2 : b < 0 <;> simp [g, g2] at this ⊢
  have HS := hid hs
  have hiff := h.1
  clear hs h
  go_enter Try.func85, Try.ntmps85
  go_wp2_with (first | (go_at_call_of 92 (Value.int IntKind.i64 a); refine (a_size a a0 a1 _).mono ?_; rintro e w' ⟨rfl, rfl⟩) | (go_at_call_of 92 (Value.int IntKind.i64 b); refine (a_size b b0 b1 _).mono ?_; rintro e w' ⟨rfl, rfl⟩) | (go_at_call 91; refine (hm _).mono ?_; rintro e w' ⟨rfl, hww⟩; subst hww))
  refine bodyPost_ret (v := prodV (a * b)) (by simp [results, Try.results85, go_sem, prodV, wdA, hw.out.1, hw.out.2, HS.out]) rfl ⟨rfl, ?_⟩
  exact (Below.refl _ _).alloc (Nat.le_refl _) _
theorem eq_wide (a b c d : Int) (w : World) : (Op.equalIn 10000 88 (.agg #[.int .u64 a, .int .u64 b]) (.agg #[.int .u64 c, .int .u64 d])).run Try.prog w = .ok (a == c && b == d) w := by
  have u3 := Try.underlying45
  have q3 := Try.isAgg45
  have z3 := Try.sizeOf45
  have hS : Try.prog.underlying 88 = some (.struct (Try.prog.fieldsOf 88)) := by kernel_rfl
  have hp : Try.prog.stoodInHeld 88 = false := by kernel_rfl
  rw [show (10000 : Nat) = 9999 + 1 from rfl, run_equalIn_agg w 9999 88 _ _ hS hp]
  simp only [Program.fieldsOf, Try.underlying88]
  go_simp
  by_cases h1 : a = c <;> by_cases h2 : b = d <;> simp [h1, h2]
set_option maxHeartbeats 800000 in
theorem order_any (p q : Nat) (hp : p ≤ 85070591730234615865843651857942052864) (hq : q ≤ 85070591730234615865843651857942052864) (w : World) :
  Calls Try.prog 86 #[.agg (wdA (p : Int)), .agg (wdA (q : Int))] w fun e w' => e = .returned (.int .i64 (cmpI ((p : Int) - q))) ∧ Below w.heap.size w w' := by
 have ep := w_size p hp
 have eq := w_size q hq
 unfold wdA
 rw [ep.1, ep.2, eq.1, eq.2]
 clear ep eq
 have hpe := Nat.div_add_mod p 18446744073709551616
 have hqe := Nat.div_add_mod q 18446744073709551616
 have hpm := Nat.mod_lt p (show 18446744073709551616 > 0 by decide)
 have hqm := Nat.mod_lt q (show 18446744073709551616 > 0 by decide)
 clear hp hq
 generalize p / 18446744073709551616 = ph at *
 generalize p % 18446744073709551616 = pl at *
 generalize q / 18446744073709551616 = qh at *
 generalize q % 18446744073709551616 = ql at *
 have HP := hid hpe
 have HQ := hid hqe
 have HPM := hid hpm
 have HQM := hid hqm
 clear hpe hqe hpm hqm
 have he := fun w => eq_wide (ph : Int) (pl : Int) (qh : Int) (ql : Int) w
 by_cases h1 : ph = qh ∧ pl = ql
 ·
  have hx : ((ph : Int) == (qh : Int) && (pl : Int) == (ql : Int)) = true := by simp; omega
  rw [hx] at he
  have H1 := hid h1
  clear hx h1
  go_enter Try.func86, Try.ntmps86
  go_wp2
  go_ret
  have g1 := H1.out; have g2 := HP.out; have g3 := HQ.out
  refine ⟨ret_i64 ?_, ((Below.refl _ _).alloc (Nat.le_refl _) _).alloc (by simp) _⟩
  rw [show (p : Int) - q = 0 by rw [g1.1, g1.2] at g2; omega]; rfl
 ·
  have hx : ((ph : Int) == (qh : Int) && (pl : Int) == (ql : Int)) = false := by
   rw [Bool.eq_false_iff]; intro g; apply h1; simp at g; omega
  rw [hx] at he
  clear hx
  rcases Nat.lt_trichotomy ph qh with h | h | h
  ·
   have H := hid h
   have hlt : (ph : Int) < qh := by omega
   clear h h1
   go_enter Try.func86, Try.ntmps86
   go_wp2
   go_ret
   have g1 := H.out; have g2 := HP.out; have g3 := HQ.out; have g4 := HPM.out; have g5 := HQM.out
   exact ⟨ret_i64 (cmp_neg (by omega)).symm, ((Below.refl _ _).alloc (Nat.le_refl _) _).alloc (by simp) _⟩
  ·
   have H := hid h
   have hb1 : ¬ (ph : Int) < qh := by omega
   have hb2 : ((ph : Int) == qh) = true := by simp; omega
   rcases Nat.lt_or_ge pl ql with h3 | h3
   ·
    have H3 := hid h3
    have hlt : (pl : Int) < ql := by omega
    clear h h1 h3
    go_enter Try.func86, Try.ntmps86
    go_wp2
    go_ret
    have g1 := H.out; have g2 := HP.out; have g3 := HQ.out; have g4 := H3.out
    exact ⟨ret_i64 (cmp_neg (by rw [g1] at g2; omega)).symm, ((Below.refl _ _).alloc (Nat.le_refl _) _).alloc (by simp) _⟩
   ·
    have H3 := hid (show ql < pl by omega)
    have hlt : ¬ (pl : Int) < ql := by omega
    clear h h1 h3
    go_enter Try.func86, Try.ntmps86
    go_wp2
    go_ret
    have g1 := H.out; have g2 := HP.out; have g3 := HQ.out; have g4 := H3.out
    exact ⟨ret_i64 (cmp_pos (by rw [g1] at g2; omega)).symm, ((Below.refl _ _).alloc (Nat.le_refl _) _).alloc (by simp) _⟩
  ·
   have H := hid h
   have hlt : ¬ (ph : Int) < qh := by omega
   have hb2 : ((ph : Int) == qh) = false := by simp; omega
   clear h h1
   go_enter Try.func86, Try.ntmps86
   go_wp2
   go_ret
   have g1 := H.out; have g2 := HP.out; have g3 := HQ.out; have g4 := HPM.out; have g5 := HQM.out
   exact ⟨ret_i64 (cmp_pos (by omega)).symm, ((Below.refl _ _).alloc (Nat.le_refl _) _).alloc (by simp) _⟩
theorem cmp_bd (v : Int) : -1 ≤ cmpI v ∧ cmpI v ≤ 1 := by unfold cmpI; split <;> (try split) <;> omega
theorem cmp_opp (v : Int) : cmpI (-v) = - cmpI v := by unfold cmpI; split <;> (try split) <;> (try split) <;> omega
def CrossAt (x y : Int) (w : World) (e : Ending) (w' : World) : Prop := e = .returned (.int .i64 (cmpI (x - y))) ∧ Below w.heap.size w w'
theorem prod_sign (a b s : Int) (a0 : -9223372036854775808 ≤ a) (a1 : a ≤ 9223372036854775807) (b0 : -9223372036854775808 ≤ b) (b1 : b ≤ 9223372036854775807) (hs : cmpI (a * b) = s) (w : World) :
    Calls Try.prog 85 #[.int .i64 a, .int .i64 b] w fun e w' => e = .returned (.tuple #[.int .i64 s, .agg (wdA ((a * b).natAbs : Int))]) ∧ Below w.heap.size w w' := by
  have := prod_any a b a0 a1 b0 b1 w
  unfold prodV at this
  rw [hs] at this
  exact this
set_option maxHeartbeats 800000 in
theorem cross_lt (a b c d s t : Int) (a0 : -9223372036854775808 ≤ a) (a1 : a ≤ 9223372036854775807) (b0 : -9223372036854775808 ≤ b) (b1 : b ≤ 9223372036854775807)
  (c0 : -9223372036854775808 ≤ c) (c1 : c ≤ 9223372036854775807) (d0 : -9223372036854775808 ≤ d) (d1 : d ≤ 9223372036854775807)
  (hs : cmpI (a * b) = s) (ht : cmpI (c * d) = t) (h : s < t ∨ t < s) (w : World) :
  Calls Try.prog 80 #[.int .i64 a, .int .i64 b, .int .i64 c, .int .i64 d] w (CrossAt (a * b) (c * d) w) := by
 have h1 := prod_sign a b s a0 a1 b0 b1 hs
 have h2 := prod_sign c d t c0 c1 d0 d1 ht
 have hres : cmpI (a * b - c * d) = if s < t then -1 else 1 := by
  unfold cmpI at hs ht ⊢
  generalize a * b = x at *
  generalize c * d = y at *
  split at hs <;> (try split at hs) <;> split at ht <;> (try split at ht) <;> subst hs <;> subst ht <;> simp at h ⊢ <;> (try split) <;> (try split) <;> omega
 have HR := hid hres
 have bs := cmp_bd (a * b)
 have bt := cmp_bd (c * d)
 rw [hs] at bs
 rw [ht] at bt
 have H1 := hid h1
 have H2 := hid h2
 clear h1 h2 hres hs ht
 rcases h with h | h
 all_goals
  go_enter Try.func80, Try.ntmps80
  go_wp2_with fail
  refine (H1.out _).mono ?_
  rintro e w1 ⟨rfl, hb1⟩
  unfold wdA
  obtain ⟨hc1, hf1⟩ := bcell hb1
  have HB1 := hid hb1
  clear hb1
  go_wp2_with fail
  refine (H2.out _).mono ?_
  rintro e w2 ⟨rfl, hb2⟩
  unfold wdA
  have HB2 := hid hb2
  clear hb2
  go_wp2_with fail
  go_ret
  refine ⟨ret_i64 ?_, ?_⟩
  · rw [HR.out]; first | rw [if_pos h] | rw [if_neg (by omega)]
  ·
   have z1 := HB1.out.size
   have z2 := HB2.out.size
   simp at z2
   exact (((HB1.out.alloc z1 _).trans (HB2.out.mono (by simp; omega))).alloc (by omega) _)
theorem same_sign {x y s : Int} (hx : cmpI x = s) (hy : cmpI y = s) : cmpI (x - y) = s * cmpI ((x.natAbs : Int) - y.natAbs) := by
  rcases Int.lt_trichotomy x 0 with h | h | h
  · rw [cmp_neg h] at hx
    subst hx
    have : y < 0 := by
      rcases Int.lt_trichotomy y 0 with g | g | g
      · exact g
      · subst g; simp [cmpI] at hy
      · rw [cmp_pos g] at hy; omega
    rw [show x - y = -((x.natAbs : Int) - y.natAbs) by omega, cmp_opp]; omega
  · subst h
    rw [cmp_zero] at hx
    subst hx
    have : y = 0 := by
      rcases Int.lt_trichotomy y 0 with g | g | g
      · rw [cmp_neg g] at hy; omega
      · exact g
      · rw [cmp_pos g] at hy; omega
    subst this; rfl
  · rw [cmp_pos h] at hx
    subst hx
    have : 0 < y := by
      rcases Int.lt_trichotomy y 0 with g | g | g
      · rw [cmp_neg g] at hy; omega
      · subst g; simp [cmpI] at hy
      · exact g
    rw [show x - y = ((x.natAbs : Int) - y.natAbs) by omega]; omega
set_option maxHeartbeats 800000 in
theorem cross_eq (a b c d s : Int) (a0 : -9223372036854775808 ≤ a) (a1 : a ≤ 9223372036854775807) (b0 : -9223372036854775808 ≤ b) (b1 : b ≤ 9223372036854775807)
  (c0 : -9223372036854775808 ≤ c) (c1 : c ≤ 9223372036854775807) (d0 : -9223372036854775808 ≤ d) (d1 : d ≤ 9223372036854775807)
  (hs : cmpI (a * b) = s) (ht : cmpI (c * d) = s) (w : World) :
  Calls Try.prog 80 #[.int .i64 a, .int .i64 b, .int .i64 c, .int .i64 d] w (CrossAt (a * b) (c * d) w) := by
 have h1 := prod_sign a b s a0 a1 b0 b1 hs
 have h2 := prod_sign c d s c0 c1 d0 d1 ht
 have hres := same_sign hs ht
 have h3 := order_any (a * b).natAbs (c * d).natAbs (abs_bd a0 a1 b0 b1) (abs_bd c0 c1 d0 d1)
 have hr := cmp_bd (((a * b).natAbs : Int) - (c * d).natAbs)
 have bs := cmp_bd (a * b)
 rw [hs] at bs
 have HR := hid hres
 have H1 := hid h1
 have H2 := hid h2
 have H3 := hid h3
 clear h1 h2 hres hs ht h3
 have hs3 : s = -1 ∨ s = 0 ∨ s = 1 := by omega
 generalize cmpI (((a * b).natAbs : Int) - (c * d).natAbs) = r at *
 rcases hs3 with rfl | rfl | rfl
 all_goals
  go_enter Try.func80, Try.ntmps80
  go_wp2_with fail
  refine (H1.out _).mono ?_
  rintro e w1 ⟨rfl, hb1⟩
  unfold wdA
  obtain ⟨hc1, hf1⟩ := bcell hb1
  have z1 := hb1.size
  have HB1 := hid hb1
  clear hb1
  go_wp2_with fail
  refine (H2.out _).mono ?_
  rintro e w2 ⟨rfl, hb2⟩
  unfold wdA
  obtain ⟨hc2, hf2⟩ := bcell hb2
  have z2 := hb2.size
  simp at z2
  have z3 : w1.heap.size < w2.heap.size := by omega
  have HB2 := hid hb2
  clear hb2
  go_wp2_with fail
  refine (H3.out _).mono ?_
  rintro e w3 ⟨rfl, hb3⟩
  have HB3 := hid hb3
  clear hb3
  go_wp2_with fail
  go_ret
  refine ⟨ret_i64 (by rw [HR.out]; omega), ?_⟩
  have hB2 := ((HB1.out.alloc z1 _).trans (HB2.out.mono (by simp; omega))).alloc (by omega) (.cells #[.int .u64 (wHi ((c * d).natAbs : Int)), .int .u64 (wLo ((c * d).natAbs : Int))] 88)
  exact hB2.trans (HB3.out.mono (by simp; omega))
theorem cross_any (a b c d : Int) (a0 : -9223372036854775808 ≤ a) (a1 : a ≤ 9223372036854775807) (b0 : -9223372036854775808 ≤ b) (b1 : b ≤ 9223372036854775807)
    (c0 : -9223372036854775808 ≤ c) (c1 : c ≤ 9223372036854775807) (d0 : -9223372036854775808 ≤ d) (d1 : d ≤ 9223372036854775807) (w : World) :
    Calls Try.prog 80 #[.int .i64 a, .int .i64 b, .int .i64 c, .int .i64 d] w (CrossAt (a * b) (c * d) w) := by
  by_cases h : cmpI (a * b) = cmpI (c * d)
  · exact cross_eq a b c d _ a0 a1 b0 b1 c0 c1 d0 d1 rfl h.symm w
  · exact cross_lt a b c d _ _ a0 a1 b0 b1 c0 c1 d0 d1 rfl rfl (by omega) w
end Go.Proofs.Ytnikajkklocncaa
namespace Go.Proofs.Ytnikajkklocncaa
open Go.RowKit
theorem dg_mul (m i n k : Nat) : 0 ≤ (dg m i : Int) * (dg n k : Int) ∧ (dg m i : Int) * (dg n k : Int) ≤ 4611686014132420609 := by
  have h1 := dg_lt m i
  have h2 := dg_lt n k
  generalize dg m i = x at *
  generalize dg n k = y at *
  refine ⟨Int.mul_nonneg (by omega) (by omega), ?_⟩
  have h3 : (x : Int) * y ≤ 2147483647 * y := Int.mul_le_mul_of_nonneg_right (by omega) (by omega)
  omega
theorem times_stepI (P x n i k : Nat) : (dg P (i+k) : Int) + (x : Int) * (dg n k : Int) + (tover P x n i k : Int) = (dg (tim P x n i (k+1)) (i+k) : Int) + 2147483648 * (tover P x n i (k+1) : Int) := by
  have h := congrArg (fun z : Nat => (z : Int)) (times_step P x n i k)
  simpa only [Int.natCast_add, Int.natCast_mul, Int.cast_ofNat_Int] using h
def Four (n : Nat) : Prop := n < 2^(31*4)
set_option maxHeartbeats 1600000 in
theorem times_any (m n : Nat) (hm : Four m) (hn : Four n) (w : World)  :
    Calls Try.prog 89 #[.agg (bigA m), .agg (bigA n)] w fun e w' => e = .returned (.agg (bigA (m*n))) ∧ Below w.heap.size w w' := by
  go_enter Try.func89, Try.ntmps89
  go_wp2
  go_loopw [6] (fun i W => ∃ k : Nat, k ≤ 4 ∧ i = .int .i64 k ∧
     blk W w.heap.size (bigA m) 81 ∧ blk W (w.heap.size + 1) (bigA n) 81 ∧ blk W (w.heap.size + 1 + 1) zeros9 81 ∧ blk W (w.heap.size + 1 + 1 + 1) (bigA (low m k * n)) 81 ∧ Below w.heap.size w W)
     (fun i _ => 4 - (intOf i).toNat)
  case atStart =>
    refine ⟨0, by omega, by rfl, ?_, ?_, ?_, ?_, ?_⟩
    all_goals try rw [low_zero, Nat.zero_mul]
    all_goals first | (repeat (first | (refine blk.at_ ?_ (by simp [bigA, dg, zeros9]); simp; done) | (refine blk.at_ ?_ rfl; simp; done) | refine blk.alloc ?_ _)) | skip
    exact ((((Below.refl _ _).alloc (Nat.le_refl _) _).alloc (by simp) _).alloc (by simp; omega) _).alloc (by simp; omega) _
  case round =>
    obtain ⟨i, hi, rfl, h0, h1, h2, h3, hb⟩ := hrel
    by_cases hlt : i < 4
    · have hx := dg_lt m i
      have H0 := hid h0; have H1 := hid h1; have H2 := hid h2; have H3 := hid h3; have HB := hid hb;
      clear h0 h1 h2 h3 hb
      obtain ⟨wo, hwo⟩ : ∃ wo : World, wo = wr := ⟨_, rfl⟩
      obtain rfl := hwo
      go_wp2
      go_loopw [7, 8] (fun o j W => ∃ k : Nat, k ≤ 4 ∧ j = .int .i64 k ∧ o = .int .i64 (tover (low m i * n) (dg m i) n i k) ∧
        blk W w.heap.size (bigA m) 81 ∧ blk W (w.heap.size + 1) (bigA n) 81 ∧ blk W (w.heap.size + 1 + 1) zeros9 81 ∧
        blk W (w.heap.size + 1 + 1 + 1) (ints (row 9 (fun j => if j < i + k then (dg (tim (low m i * n) (dg m i) n i k) j : Int) else (dg (low m i * n) j : Int)))) 81 ∧ Below w.heap.size w W)
        (fun _ j _ => 4 - (intOf j).toNat)
      case atStart =>
        refine ⟨0, by omega, by rfl, by rw [tover_zero]; rfl, H0.out, H1.out, H2.out, H3.out.to ?_, HB.out⟩
        rw [bigA_eq, tim_zero]; congr 1; apply row_ext; intro j _; simp
      case round =>
        obtain ⟨k, hk, rfl, rfl, h0, h1, h2, h3, hb⟩ := hrel
        by_cases hlt2 : k < 4
        · have c0 := h0.cellv (bigA_get m i (by omega))
          have c1 := h1.cellv (bigA_get n k (by omega))
          have c3 := h3.free (i + k)
          have c4 := h3.cellv (ints_row_get 9 _ (i + k) (by omega))
          have b0 := dg_lt (low m i * n) (i + k)
          have b1 := dg_lt n k
          have b2 := tover_le (low m i * n) (dg m i) n i k hx
          obtain ⟨b3, b4⟩ := dg_mul m i n k
          have hs := times_stepI (low m i * n) (dg m i) n i k
          have b5 := dg_lt (tim (low m i * n) (dg m i) n i (k+1)) (i + k)
          simp only [Nat.lt_irrefl, if_false] at c4
          have hlow : ∀ j, j < i + k → dg (tim (low m i * n) (dg m i) n i (k+1)) j = dg (tim (low m i * n) (dg m i) n i k) j := fun j hj => tim_low _ _ _ _ _ _ hj
          have h0' := hid h0; have h1' := hid h1; have h2' := hid h2; have h3' := hid h3; have hb' := hid hb; have hs' := hid hs; have hl' := hid hlow
          clear h0 h1 h2 h3 hb hs hlow H0 H1 H2 H3 HB
          go_wp2
          go_quiet (fail)
          go_wp2
          go_roundw
          case rel =>
            have hsI := hs'.out
            refine ⟨k + 1, by omega, by go_num, ?_, (h0'.out.drewN _).off (by omega) _, (h1'.out.drewN _).off (by omega) _, (h2'.out.drewN _).off (by omega) _, ?_, bset (bdrewN hb'.out _) (by omega) _⟩
            · rw [hsI]; congr 1; omega
            · rw [band31_i64 _ (by omega) (by omega), hsI]
              refine (h3'.out.drewN _).setTo _ _ (ints_row_set 9 _ _ _ _ ?_)
              intro j hj
              by_cases e : j = i + k
              · subst e; simp [show i + k < i + (k + 1) by omega]; omega
              · by_cases h : j < i + k
                · simp [e, h, show j < i + (k + 1) by omega, hl'.out j h]
                · simp [e, h, show ¬ j < i + (k + 1) by omega]
          case measure => (simp [intOf]; try omega)
        · have hk4 : k = 4 := by omega
          subst hk4
          have b0 := dg_lt (low m i * n) (i + 4)
          have b6 : dg (low m i * n) (i + 4) = 0 := dg_high _ _ _ (low_lt m n i hn) (Nat.le_refl _)
          have ht : tim (low m i * n) (dg m i) n i 4 = low m (i+1) * n := by
            rw [low_succ]; exact tim_four _ _ _ _ hn
          have b7 := tover_four (low m i * n) (dg m i) n i (low_lt m n i hn) (by rw [ht]; exact (low_lt m n (i+1) hn))
          rw [ht] at b7 h3
          rw [b7]
          have b8 := dg_lt (low m (i+1) * n) (i + 4)
          have c3 := h3.free (i + 4)
          have c4 := h3.cellv (ints_row_get 9 _ (i + 4) (by omega))
          simp only [Nat.lt_irrefl, if_false, b6] at c4
          have h0' := hid h0; have h1' := hid h1; have h2' := hid h2; have h3' := hid h3; have hb' := hid hb
          clear h0 h1 h2 h3 hb H0 H1 H2 H3 HB b7 ht b6
          go_wp2
          go_roundw
          case rel =>
            refine ⟨i + 1, by omega, by go_num, h0'.out.off (by omega) _, h1'.out.off (by omega) _, h2'.out.off (by omega) _, ?_, bset hb'.out (by omega) _⟩
            rw [bigA_eq]
            refine h3'.out.setTo _ _ (ints_row_set 9 _ _ _ _ ?_)
            intro j hj
            by_cases e : j = i + 4
            · subst e; simp
            · by_cases h : j < i + 4
              · simp [e, h]
              · simp [e, h]
                rw [dg_high _ j (i+4) (low_lt m n i hn) (by omega), dg_high _ j (i+1+4) (low_lt m n (i+1) hn) (by omega)]
          case measure => (simp [intOf]; try omega)
    · have hk9 : i = 4 := by omega
      subst hk9
      have he : low m 4 * n = m * n := by unfold low; rw [Nat.mod_eq_of_lt hm]
      rw [he] at h3
      have f2 : ∀ i, wr.frozen? ⟨w.heap.size + 1 + 1, i, none⟩ = false := fun i => h2.free i
      have c2 : ∀ i, wr.cell? ⟨w.heap.size + 1 + 1, i, none⟩ = zeros9[i]? := fun i => h2.cell i
      have c3 : ∀ i, wr.cell? ⟨w.heap.size + 1 + 1 + 1, i, none⟩ = (bigA (m*n))[i]? := fun i => h3.cell i
      unfold zeros9 at c2
      unfold bigA at c3
      have HB := hid hb
      clear h0 h1 h2 h3 hb he hm hn
      go_wp2
      refine bodyPost_ret (v := .agg (bigA (m*n))) (by simp [results, Try.results89, go_sem, bigA, c2]) rfl ⟨rfl, ?_⟩
      have hb := HB.out
      (repeat (refine bset ?_ (by omega) _)); exact hb
end Go.Proofs.Ytnikajkklocncaa
namespace Go.Proofs.Ytnikajkklocncaa
open Go.RowKit
attribute [local go_sem ↓] Go.wp_at_zero Go.wp_at_succ
def sgA (s : Bool) (n : Nat) : Array Value := #[.bool s, .int .i64 (dg n 0), .int .i64 (dg n 1), .int .i64 (dg n 2), .int .i64 (dg n 3), .int .i64 (dg n 4), .int .i64 (dg n 5), .int .i64 (dg n 6), .int .i64 (dg n 7), .int .i64 (dg n 8)]
set_option maxHeartbeats 400000 in
theorem neg_any (s : Bool) (n : Nat) (w : World)  :
    Calls Try.prog 88 #[.agg (sgA s n)] w fun e w' => e = .returned (.agg (sgA (!s) n)) ∧ Below w.heap.size w w' := by
  unfold sgA
  go_enter Try.func88, Try.ntmps88
  go_wp2
  refine bodyPost_ret (v := .agg (sgA (!s) n)) (by simp [results, Try.results88, go_sem, sgA]) rfl ⟨rfl, ?_⟩
  exact ((Below.refl _ _).alloc (Nat.le_refl _) _).alloc (by simp) _
set_option maxHeartbeats 400000 in
theorem num_any (a : Int) (h0 : -9223372036854775808 ≤ a) (h1 : a ≤ 9223372036854775807) (w : World)  :
    Calls Try.prog 83 #[.int .i64 a] w fun e w' => e = .returned (.agg (sgA (decide (a < 0)) a.natAbs)) ∧ Below w.heap.size w w' := by
  go_enter Try.func83, Try.ntmps83
  go_wp2_with fail
  refine (of_any a h0 h1 _).mono ?_
  rintro e w1 ⟨rfl, hb⟩
  unfold bigA
  obtain ⟨hc, hf⟩ := bcell hb
  have HB := hid hb
  clear hb
  go_wp2
  refine bodyPost_ret (v := .agg (sgA (decide (a < 0)) a.natAbs)) (by simp [results, Try.results83, go_sem, sgA, hc]) rfl ⟨rfl, ?_⟩
  (repeat (refine bset ?_ (by omega) _)); exact ((Below.refl _ _).alloc (Nat.le_refl _) _).trans (HB.out.mono (by simp))
def zero10 : Array Value := #[.bool false, .int .i64 0, .int .i64 0, .int .i64 0, .int .i64 0, .int .i64 0, .int .i64 0, .int .i64 0, .int .i64 0, .int .i64 0]
def addW (w : World) (s t : Bool) (m n : Nat) : World := ((w.alloc (.cells (sgA s m) 83)).alloc (.cells (sgA t n) 83)).alloc (.cells zero10 83)
def addF (w : World) (s t : Bool) (m n : Nat) (W : World) : Prop :=
    (∀ i, W.cell? ⟨w.heap.size, i, none⟩ = (#[.bool s, .int .i64 (dg m 0), .int .i64 (dg m 1), .int .i64 (dg m 2), .int .i64 (dg m 3), .int .i64 (dg m 4), .int .i64 (dg m 5), .int .i64 (dg m 6), .int .i64 (dg m 7), .int .i64 (dg m 8)] : Array Value)[i]?) ∧
    (∀ i, W.cell? ⟨w.heap.size + 1, i, none⟩ = (#[.bool t, .int .i64 (dg n 0), .int .i64 (dg n 1), .int .i64 (dg n 2), .int .i64 (dg n 3), .int .i64 (dg n 4), .int .i64 (dg n 5), .int .i64 (dg n 6), .int .i64 (dg n 7), .int .i64 (dg n 8)] : Array Value)[i]?) ∧
    (∀ i, W.cell? ⟨w.heap.size + 1 + 1, i, none⟩ = (#[.bool false, .int .i64 0, .int .i64 0, .int .i64 0, .int .i64 0, .int .i64 0, .int .i64 0, .int .i64 0, .int .i64 0, .int .i64 0] : Array Value)[i]?) ∧
    (∀ i, W.frozen? ⟨w.heap.size + 1 + 1, i, none⟩ = false) ∧ Below w.heap.size w W ∧ w.heap.size < W.heap.size ∧ w.heap.size + 1 < W.heap.size ∧ w.heap.size + 1 + 1 < W.heap.size
theorem add_start (w : World) (s t : Bool) (m n : Nat) : addF w s t m n (addW w s t m n) := by
  have h0 : blk (addW w s t m n) w.heap.size (sgA s m) 83 := by unfold addW; repeat (first | (refine blk.at_ ?_ rfl; simp; done) | refine blk.alloc ?_ _)
  have h1 : blk (addW w s t m n) (w.heap.size + 1) (sgA t n) 83 := by unfold addW; repeat (first | (refine blk.at_ ?_ rfl; simp; done) | refine blk.alloc ?_ _)
  have h2 : blk (addW w s t m n) (w.heap.size + 1 + 1) zero10 83 := by unfold addW; repeat (first | (refine blk.at_ ?_ rfl; simp; done) | refine blk.alloc ?_ _)
  have hz : w.heap.size + 1 + 1 < (addW w s t m n).heap.size := by simp [addW]
  exact ⟨fun i => h0.cell i, fun i => h1.cell i, fun i => h2.cell i, fun i => h2.free i, (((Below.refl _ _).alloc (Nat.le_refl _) _).alloc (by simp) _).alloc (by simp; omega) _, by omega, by omega, hz⟩
theorem add_keep {w : World} {s t : Bool} {m n : Nat} {W w1 : World} (h : addF w s t m n W) (hb : Below W.heap.size W w1) : addF w s t m n w1 := by
  obtain ⟨c0, c1, c2, f2, hB, hz0, hz1, hz⟩ := h
  obtain ⟨hc, hf⟩ := bcell hb
  have hs := hb.size
  exact ⟨fun i => by rw [hc _ _ hz0]; exact c0 i, fun i => by rw [hc _ _ hz1]; exact c1 i, fun i => by rw [hc _ _ hz]; exact c2 i, fun i => by rw [hf _ _ hz]; exact f2 i, hB.trans (hb.mono (by omega)), by omega, by omega, by omega⟩
set_option maxHeartbeats 1600000 in
theorem add_same (s : Bool) (m n : Nat) (w : World)  :
    Calls Try.prog 87 #[.agg (sgA s m), .agg (sgA s n)] w fun e w' => e = .returned (.agg (sgA s (m+n))) ∧ Below w.heap.size w w' := by
  have q0 : (sgA s m)[0]? = some (.bool s) := rfl
  have q1 : (sgA s n)[0]? = some (.bool s) := rfl
  have hs : ((s == s) = true) := by simp
  go_enter Try.func87, Try.ntmps87
  go_wp2_with fail
  clear q0 q1
  generalize hW : ((w.alloc (.cells (sgA s m) 83)).alloc (.cells (sgA s n) 83)).alloc (.cells #[.bool false, .int .i64 0, .int .i64 0, .int .i64 0, .int .i64 0, .int .i64 0, .int .i64 0, .int .i64 0, .int .i64 0, .int .i64 0] 83) = W
  obtain ⟨c0, c1, c2, f2, hB, hz0, hz1, hz⟩ : addF w s s m n W := by rw [← hW]; exact add_start w s s m n
  have HB := hid hB
  clear hW hB
  go_region_with (go_at_call 93; refine (plus_any m n _).mono ?_; rintro e w1 ⟨rfl, hb⟩; have hb1 : Below W.heap.size W w1 := ⟨hb.os, hb.tape, hb.output, hb.size, hb.block⟩; clear hb; obtain ⟨hc, hf⟩ := bcell hb1; have hb2 := hid hb1; clear hb1; unfold bigA)
  all_goals
    go_wp2
    refine bodyPost_ret (v := .agg (sgA s (m+n))) (by simp [results, Try.results87, go_sem, sgA, hc, c2, *]) rfl ⟨rfl, ?_⟩
    (repeat (refine bset ?_ (by omega) _)); exact HB.out.trans (hb2.out.mono (by omega))
end Go.Proofs.Ytnikajkklocncaa
namespace Go.Proofs.Ytnikajkklocncaa
open Go.RowKit
attribute [local go_sem ↓] Go.wp_at_zero Go.wp_at_succ
set_option maxHeartbeats 1600000 in
theorem add_ft_lt (m n : Nat) (hm : Two200 m) (hn : Two200 n) (hlt : m < n) (w : World)  :
    Calls Try.prog 87 #[.agg (sgA false m), .agg (sgA true n)] w fun e w' => e = .returned (.agg (sgA true (n-m))) ∧ Below w.heap.size w w' := by
  unfold sgA
  have hs : ((false == true) = false) := by decide
  have hlt' := hlt
  clear hlt
  have hd : decide (m < n) = true := by simp; omega
  go_enter Try.func87, Try.ntmps87
  go_wp2_with fail
  refine (less_any m n hm hn _).mono ?_
  rintro e W ⟨rfl, hb⟩
  rw [hd]
  obtain ⟨c0, c1, c2, f2, hB, hz0, hz1, hz⟩ := add_keep (add_start w false true m n) hb
  have HB := hid hB
  clear hB hb hd
  go_wp2_with fail
  go_region_with (go_at_call 95; refine (minus_any n m (Nat.le_of_lt hlt') _).mono ?_; rintro e w1 ⟨rfl, hb⟩; have hb1 : Below W.heap.size W w1 := ⟨hb.os, hb.tape, hb.output, hb.size, hb.block⟩; clear hb; obtain ⟨hc, hf⟩ := bcell hb1; have hb2 := hid hb1; clear hb1; unfold bigA)
  all_goals
    go_wp2
    refine bodyPost_ret (v := .agg (sgA true (n-m))) (by simp [results, Try.results87, go_sem, sgA, hc, c2, *]) rfl ⟨rfl, ?_⟩
    (repeat (refine bset ?_ (by omega) _)); exact HB.out.trans (hb2.out.mono (by omega))
end Go.Proofs.Ytnikajkklocncaa
namespace Go.Proofs.Ytnikajkklocncaa
open Go.RowKit
attribute [local go_sem ↓] Go.wp_at_zero Go.wp_at_succ
set_option maxHeartbeats 1600000 in
theorem add_tf_lt (m n : Nat) (hm : Two200 m) (hn : Two200 n) (hlt : m < n) (w : World)  :
    Calls Try.prog 87 #[.agg (sgA true m), .agg (sgA false n)] w fun e w' => e = .returned (.agg (sgA false (n-m))) ∧ Below w.heap.size w w' := by
  unfold sgA
  have hs : ((true == false) = false) := by decide
  have hlt' := hlt
  clear hlt
  have hd : decide (m < n) = true := by simp; omega
  go_enter Try.func87, Try.ntmps87
  go_wp2_with fail
  refine (less_any m n hm hn _).mono ?_
  rintro e W ⟨rfl, hb⟩
  rw [hd]
  obtain ⟨c0, c1, c2, f2, hB, hz0, hz1, hz⟩ := add_keep (add_start w true false m n) hb
  have HB := hid hB
  clear hB hb hd
  go_wp2_with fail
  go_region_with (go_at_call 95; refine (minus_any n m (Nat.le_of_lt hlt') _).mono ?_; rintro e w1 ⟨rfl, hb⟩; have hb1 : Below W.heap.size W w1 := ⟨hb.os, hb.tape, hb.output, hb.size, hb.block⟩; clear hb; obtain ⟨hc, hf⟩ := bcell hb1; have hb2 := hid hb1; clear hb1; unfold bigA)
  all_goals
    go_wp2
    refine bodyPost_ret (v := .agg (sgA false (n-m))) (by simp [results, Try.results87, go_sem, sgA, hc, c2, *]) rfl ⟨rfl, ?_⟩
    (repeat (refine bset ?_ (by omega) _)); exact HB.out.trans (hb2.out.mono (by omega))
end Go.Proofs.Ytnikajkklocncaa
namespace Go.Proofs.Ytnikajkklocncaa
open Go.RowKit
attribute [local go_sem ↓] Go.wp_at_zero Go.wp_at_succ
set_option maxHeartbeats 1600000 in
theorem add_ft_ge (m n : Nat) (hm : Two200 m) (hn : Two200 n) (hle : n ≤ m) (w : World)  :
    Calls Try.prog 87 #[.agg (sgA false m), .agg (sgA true n)] w fun e w' => e = .returned (.agg (sgA false (m-n))) ∧ Below w.heap.size w w' := by
  unfold sgA
  have hs : ((false == true) = false) := by decide
  have hle' := hle
  clear hle
  have hd : decide (m < n) = false := by simp; omega
  go_enter Try.func87, Try.ntmps87
  go_wp2_with fail
  refine (less_any m n hm hn _).mono ?_
  rintro e W ⟨rfl, hb⟩
  rw [hd]
  obtain ⟨c0, c1, c2, f2, hB, hz0, hz1, hz⟩ := add_keep (add_start w false true m n) hb
  have HB := hid hB
  clear hB hb hd
  go_wp2_with fail
  go_region_with (go_at_call 95; refine (minus_any m n hle' _).mono ?_; rintro e w1 ⟨rfl, hb⟩; have hb1 : Below W.heap.size W w1 := ⟨hb.os, hb.tape, hb.output, hb.size, hb.block⟩; clear hb; obtain ⟨hc, hf⟩ := bcell hb1; have hb2 := hid hb1; clear hb1; unfold bigA)
  all_goals
    go_wp2
    refine bodyPost_ret (v := .agg (sgA false (m-n))) (by simp [results, Try.results87, go_sem, sgA, hc, c2, *]) rfl ⟨rfl, ?_⟩
    (repeat (refine bset ?_ (by omega) _)); exact HB.out.trans (hb2.out.mono (by omega))
end Go.Proofs.Ytnikajkklocncaa
namespace Go.Proofs.Ytnikajkklocncaa
open Go.RowKit
attribute [local go_sem ↓] Go.wp_at_zero Go.wp_at_succ
set_option maxHeartbeats 1600000 in
theorem add_tf_ge (m n : Nat) (hm : Two200 m) (hn : Two200 n) (hle : n ≤ m) (w : World)  :
    Calls Try.prog 87 #[.agg (sgA true m), .agg (sgA false n)] w fun e w' => e = .returned (.agg (sgA true (m-n))) ∧ Below w.heap.size w w' := by
  unfold sgA
  have hs : ((true == false) = false) := by decide
  have hle' := hle
  clear hle
  have hd : decide (m < n) = false := by simp; omega
  go_enter Try.func87, Try.ntmps87
  go_wp2_with fail
  refine (less_any m n hm hn _).mono ?_
  rintro e W ⟨rfl, hb⟩
  rw [hd]
  obtain ⟨c0, c1, c2, f2, hB, hz0, hz1, hz⟩ := add_keep (add_start w true false m n) hb
  have HB := hid hB
  clear hB hb hd
  go_wp2_with fail
  go_region_with (go_at_call 95; refine (minus_any m n hle' _).mono ?_; rintro e w1 ⟨rfl, hb⟩; have hb1 : Below W.heap.size W w1 := ⟨hb.os, hb.tape, hb.output, hb.size, hb.block⟩; clear hb; obtain ⟨hc, hf⟩ := bcell hb1; have hb2 := hid hb1; clear hb1; unfold bigA)
  all_goals
    go_wp2
    refine bodyPost_ret (v := .agg (sgA true (m-n))) (by simp [results, Try.results87, go_sem, sgA, hc, c2, *]) rfl ⟨rfl, ?_⟩
    (repeat (refine bset ?_ (by omega) _)); exact HB.out.trans (hb2.out.mono (by omega))
end Go.Proofs.Ytnikajkklocncaa
namespace Go.Proofs.Ytnikajkklocncaa
open Go.RowKit
attribute [local go_sem ↓] Go.wp_at_zero Go.wp_at_succ
theorem ite_ok (a b : Int) (p : Bool) (w : World) : (if a = b then Result.ok p w else Result.ok false w) = Result.ok (a == b && p) w := by
  by_cases h : a = b <;> simp [h]
theorem eq_nine (a0 a1 a2 a3 a4 a5 a6 a7 a8 b0 b1 b2 b3 b4 b5 b6 b7 b8 : Int) (w : World) :
   (Op.equalIn 10000 81 (.agg #[.int .i64 a0, .int .i64 a1, .int .i64 a2, .int .i64 a3, .int .i64 a4, .int .i64 a5, .int .i64 a6, .int .i64 a7, .int .i64 a8]) (.agg #[.int .i64 b0, .int .i64 b1, .int .i64 b2, .int .i64 b3, .int .i64 b4, .int .i64 b5, .int .i64 b6, .int .i64 b7, .int .i64 b8])).run Try.prog w =
     .ok (a0 == b0 && (a1 == b1 && (a2 == b2 && (a3 == b3 && (a4 == b4 && (a5 == b5 && (a6 == b6 && (a7 == b7 && a8 == b8)))))))) w := by
  have u3 := Try.underlying3
  have q3 := Try.isAgg3
  have z3 := Try.sizeOf3
  rw [show (10000 : Nat) = 9999 + 1 from rfl, Op.equalIn]
  simp only [Sem.run_bind, run_underlying Try.underlying81, Result.andThen_ok]
  simp only [Std.Legacy.Range.forIn_eq_forIn_range', Std.Legacy.Range.size, Nat.sub_zero, Nat.add_sub_cancel, Nat.div_one, List.range'_succ, List.range'_zero, List.forIn_cons, List.forIn_nil]
  go_simp
  simp only [ite_ok, Bool.and_true]
theorem eq_sizes (m n : Nat) (hm : Two200 m) (hn : Two200 n) (w : World) :
   (Op.equalIn 10000 81 (.agg #[.int .i64 (dg m 0), .int .i64 (dg m 1), .int .i64 (dg m 2), .int .i64 (dg m 3), .int .i64 (dg m 4), .int .i64 (dg m 5), .int .i64 (dg m 6), .int .i64 (dg m 7), .int .i64 (dg m 8)])
     (.agg #[.int .i64 (dg n 0), .int .i64 (dg n 1), .int .i64 (dg n 2), .int .i64 (dg n 3), .int .i64 (dg n 4), .int .i64 (dg n 5), .int .i64 (dg n 6), .int .i64 (dg n 7), .int .i64 (dg n 8)])).run Try.prog w = .ok (decide (m = n)) w := by
  rw [eq_nine]
  congr 1
  by_cases h : m = n
  · subst h; simp
  · simp only [h, decide_false]
    have : ¬ ∀ i, i < 9 → dg m i = dg n i := fun g => h (dg_ext m n hm hn g)
    rw [Bool.eq_false_iff]
    intro g
    simp only [Bool.and_eq_true, beq_iff_eq, Int.natCast_inj] at g
    apply this
    intro i hi
    obtain ⟨g0, g1, g2, g3, g4, g5, g6, g7, g8⟩ := g
    match i, hi with
    | 0, _ => exact g0
    | 1, _ => exact g1
    | 2, _ => exact g2
    | 3, _ => exact g3
    | 4, _ => exact g4
    | 5, _ => exact g5
    | 6, _ => exact g6
    | 7, _ => exact g7
    | 8, _ => exact g8
theorem dg_zero (i : Nat) : dg 0 i = 0 := by simp [dg]
theorem eq_zero_size (m : Nat) (hm : Two200 m) (w : World) :
   (Op.equalIn 10000 81 (.agg #[.int .i64 (dg m 0), .int .i64 (dg m 1), .int .i64 (dg m 2), .int .i64 (dg m 3), .int .i64 (dg m 4), .int .i64 (dg m 5), .int .i64 (dg m 6), .int .i64 (dg m 7), .int .i64 (dg m 8)])
     (.agg #[.int .i64 0, .int .i64 0, .int .i64 0, .int .i64 0, .int .i64 0, .int .i64 0, .int .i64 0, .int .i64 0, .int .i64 0])).run Try.prog w = .ok (decide (m = 0)) w := by
  have := eq_sizes m 0 hm (Nat.two_pow_pos _) w
  simpa only [dg_zero, Int.natCast_zero] using this
theorem eq_zero_false (m : Nat) (hm : Two200 m) (h : m ≠ 0) (w : World) :
   (Op.equalIn 10000 81 (.agg #[.int .i64 (dg m 0), .int .i64 (dg m 1), .int .i64 (dg m 2), .int .i64 (dg m 3), .int .i64 (dg m 4), .int .i64 (dg m 5), .int .i64 (dg m 6), .int .i64 (dg m 7), .int .i64 (dg m 8)]) (.agg #[.int .i64 0, .int .i64 0, .int .i64 0, .int .i64 0, .int .i64 0, .int .i64 0, .int .i64 0, .int .i64 0, .int .i64 0])).run Try.prog w = .ok false w := by
  rw [eq_zero_size m hm w]; congr 1; simp [h]
theorem eq_zero_true (m : Nat) (hm : Two200 m) (h : m = 0) (w : World) :
   (Op.equalIn 10000 81 (.agg #[.int .i64 (dg m 0), .int .i64 (dg m 1), .int .i64 (dg m 2), .int .i64 (dg m 3), .int .i64 (dg m 4), .int .i64 (dg m 5), .int .i64 (dg m 6), .int .i64 (dg m 7), .int .i64 (dg m 8)]) (.agg #[.int .i64 0, .int .i64 0, .int .i64 0, .int .i64 0, .int .i64 0, .int .i64 0, .int .i64 0, .int .i64 0, .int .i64 0])).run Try.prog w = .ok true w := by
  rw [eq_zero_size m hm w]; congr 1; simp [h]
end Go.Proofs.Ytnikajkklocncaa
namespace Go.Proofs.Ytnikajkklocncaa
open Go.RowKit
theorem addF_drew {w W : World} {s t : Bool} {m n : Nat} (h : addF w s t m n W) : addF w s t m n W.drew := ⟨h.1, h.2.1, h.2.2.1, h.2.2.2.1, h.2.2.2.2.1.drew, h.2.2.2.2.2⟩
def addG (w : World) (s t : Bool) (m n : Nat) (W : World) : Prop :=
    (∀ i, W.cell? ⟨w.heap.size, i, none⟩ = (#[.bool s, .int .i64 (dg m 0), .int .i64 (dg m 1), .int .i64 (dg m 2), .int .i64 (dg m 3), .int .i64 (dg m 4), .int .i64 (dg m 5), .int .i64 (dg m 6), .int .i64 (dg m 7), .int .i64 (dg m 8)] : Array Value)[i]?) ∧
    (∀ i, W.cell? ⟨w.heap.size + 1, i, none⟩ = (#[.bool t, .int .i64 (dg n 0), .int .i64 (dg n 1), .int .i64 (dg n 2), .int .i64 (dg n 3), .int .i64 (dg n 4), .int .i64 (dg n 5), .int .i64 (dg n 6), .int .i64 (dg n 7), .int .i64 (dg n 8)] : Array Value)[i]?) ∧ True
theorem addG_set {w : World} {s t : Bool} {m n : Nat} {W : World} (h : addG w s t m n W) {b i : Nat} (hb : w.heap.size + 1 < b) (v : Value) : addG w s t m n (W.setCell ⟨b, i, none⟩ v) :=
  ⟨fun j => by rw [World.cell?_setCell_other _ _ _ _ (by intro e; injection e; omega)]; exact h.1 j, fun j => by rw [World.cell?_setCell_other _ _ _ _ (by intro e; injection e; omega)]; exact h.2.1 j, trivial⟩
theorem addG_alloc {w : World} {s t : Bool} {m n : Nat} {W : World} (h : addG w s t m n W) (o : Obj) (hb : w.heap.size + 1 < W.heap.size) : addG w s t m n (W.alloc o) :=
  ⟨fun j => by rw [World.cell?_alloc_lt _ _ _ (by simp; omega)]; exact h.1 j, fun j => by rw [World.cell?_alloc_lt _ _ _ (by simp; omega)]; exact h.2.1 j, trivial⟩
theorem addG_below {w : World} {s t : Bool} {m n : Nat} {W w1 : World} (h : addG w s t m n W) (hb : Below W.heap.size W w1) (hz : w.heap.size + 1 < W.heap.size) : addG w s t m n w1 := by
  obtain ⟨hc, hf⟩ := bcell hb
  exact ⟨fun i => by rw [hc _ _ (by omega)]; exact h.1 i, fun i => by rw [hc _ _ (by omega)]; exact h.2.1 i, trivial⟩
theorem addF_G {w W : World} {s t : Bool} {m n : Nat} (h : addF w s t m n W) : addG w s t m n W := ⟨h.1, h.2.1, trivial⟩
set_option maxHeartbeats 800000 in
theorem mul_any (s t : Bool) (m n : Nat) (hm : Four m) (hn : Four n) (w : World)  :
  Calls Try.prog 82 #[.agg (sgA s m), .agg (sgA t n)] w fun e w' => e = .returned (.agg (sgA (s != t) (m*n))) ∧ Below w.heap.size w w' := by
 go_enter Try.func82, Try.ntmps82
 go_wp2_with fail
 generalize hW : ((w.alloc (.cells (sgA s m) 83)).alloc (.cells (sgA t n) 83)).alloc (.cells #[.bool false, .int .i64 0, .int .i64 0, .int .i64 0, .int .i64 0, .int .i64 0, .int .i64 0, .int .i64 0, .int .i64 0, .int .i64 0] 83) = W
 have hF : addF w s t m n W := by rw [← hW]; exact add_start w s t m n
 clear hW
 refine wp_region_held_drew (S := fun w' => addG w s t m n w') (by kernel_rfl) (addF_G (addF_drew hF)) (fun hHeld => ?_)
 obtain ⟨c0', c1', c2, f2, hB, hz0, hz1, hz⟩ := hF
 clear c0' c1'
 refine wpAnyH_take (i := 0) (v := ?_) rfl (by kernel_rfl) (by kernel_rfl) (by kernel_rfl) (fun _ _ _ h => h) (Or.inl ⟨by rfl, ?_⟩) hHeld ?_
 rotate_left
 · rintro w' _; go_simp; with_reducible rfl
 try simp only [Act.put, List.setIfInBounds_toArray, List.set_cons_zero, List.set_cons_succ]
 refine wpAnyH_take (i := 2) (v := ?_) rfl (by kernel_rfl) (by kernel_rfl) (by kernel_rfl) (fun _ _ _ h => h) (Or.inl ⟨by rfl, ?_⟩) hHeld ?_
 rotate_left
 · rintro w' _; go_simp; with_reducible rfl
 try simp only [Act.put, List.setIfInBounds_toArray, List.set_cons_zero, List.set_cons_succ]
 refine wpAnyH_take (i := 5) (v := ?_) rfl (by kernel_rfl) (by kernel_rfl) (by kernel_rfl) (fun _ _ _ h => h) (Or.inl ⟨by rfl, ?_⟩) hHeld ?_
 rotate_left
 · rintro w' _; go_simp; with_reducible rfl
 try simp only [Act.put, List.setIfInBounds_toArray, List.set_cons_zero, List.set_cons_succ]
 refine wpAnyH_take (i := 7) (v := ?_) rfl (by kernel_rfl) (by kernel_rfl) (by kernel_rfl) (fun _ _ _ h => h) (Or.inl ⟨by rfl, ?_⟩) hHeld ?_
 rotate_left
 · rintro w' _; go_simp; with_reducible rfl
 try simp only [Act.put, List.setIfInBounds_toArray, List.set_cons_zero, List.set_cons_succ]
 refine wpAnyH_take (i := 1) (v := ?_) rfl (by kernel_rfl) (by kernel_rfl) (by kernel_rfl) (fun _ _ _ h => h) (Or.inl ⟨by rfl, ?_⟩) hHeld ?_
 rotate_left
 · rintro w' ⟨c0, c1, -⟩; go_simp; with_reducible rfl
 try simp only [Act.put, List.setIfInBounds_toArray, List.set_cons_zero, List.set_cons_succ]
 refine wpAnyH_take (i := 3) (v := ?_) rfl (by kernel_rfl) (by kernel_rfl) (by kernel_rfl) (fun _ _ _ h => h) (Or.inl ⟨by rfl, ?_⟩) hHeld ?_
 rotate_left
 · rintro w' ⟨c0, c1, -⟩; go_simp; with_reducible rfl
 try simp only [Act.put, List.setIfInBounds_toArray, List.set_cons_zero, List.set_cons_succ]
 refine wpAnyH_take (i := 4) (v := ?_) rfl (by kernel_rfl) (by kernel_rfl) (by kernel_rfl) (fun _ _ _ h => h) (Or.inl ⟨by rfl, ?_⟩) hHeld ?_
 rotate_left
 · rintro w' _; go_simp; with_reducible rfl
 try simp only [Act.put, List.setIfInBounds_toArray, List.set_cons_zero, List.set_cons_succ]
 refine wpAnyH_take (i := 6) (v := ?_) rfl (by kernel_rfl) (by kernel_rfl) (by kernel_rfl) (fun _ _ _ h => h) (Or.inl ⟨by rfl, ?_⟩) hHeld ?_
 rotate_left
 · rintro w' ⟨c0, c1, -⟩; go_simp; with_reducible rfl
 try simp only [Act.put, List.setIfInBounds_toArray, List.set_cons_zero, List.set_cons_succ]
 refine wpAnyH_take (i := 8) (v := ?_) rfl (by kernel_rfl) (by kernel_rfl) (by kernel_rfl) (fun _ _ _ h => h) (Or.inl ⟨by rfl, ?_⟩) hHeld ?_
 rotate_left
 · rintro w' ⟨c0, c1, -⟩; go_simp; with_reducible rfl
 try simp only [Act.put, List.setIfInBounds_toArray, List.set_cons_zero, List.set_cons_succ]
 refine wpAnyH_ready (rs := [9]) (by kernel_rfl) (by simp) (AllReadyH.cons rfl (fun K hK => ?_) AllReadyH.nil)
 go_simp
 refine (times_any m n hm hn _).mono ?_
 rintro e w1 ⟨rfl, hb⟩
 unfold bigA
 have hb1 : Below W.heap.size W w1 := bundrew hb
 obtain ⟨hc, hf⟩ := bcell hb1
 refine hK.out _ _ (addG_below hHeld hb (by simp; omega)) (fun hHeld => ?_)
 clear hK K hb
 try simp only [Act.put, List.setIfInBounds_toArray, List.set_cons_zero, List.set_cons_succ]
 refine wpAnyH_take (i := 10) (v := ?_) rfl (by kernel_rfl) (by kernel_rfl) (by kernel_rfl) (fun _ _ _ h => h) (Or.inl ⟨by rfl, ?_⟩) hHeld ?_
 rotate_left
 · rintro w' _; go_simp; with_reducible rfl
 try simp only [Act.put, List.setIfInBounds_toArray, List.set_cons_zero, List.set_cons_succ]
 refine wpAnyH_ready (rs := [11]) (by kernel_rfl) (by simp) (AllReadyH.cons rfl (fun K hK => ?_) AllReadyH.nil)
 have HB := hid hB
 have HB1 := hid hb1
 have HH := hid hHeld
 clear hB hb1 hHeld
 go_simp
 refine hK.out _ _ ?_ (fun hHeld => ?_)
 · (repeat (refine addG_set ?_ (by omega) _)); exact HH.out
 clear hK K
 refine wpAnyH_done (by kernel_rfl) ?_ _
 go_wp2
 refine bodyPost_ret (v := .agg (sgA (s != t) (m*n))) (by simp [results, Try.results82, go_sem, sgA, hc, c2, *]; first | done | (cases s <;> cases t <;> rfl)) rfl ⟨rfl, ?_⟩
 (repeat (refine bset ?_ (by omega) _)); exact HB.out.trans (HB1.out.mono (by omega))
end Go.Proofs.Ytnikajkklocncaa
namespace Go.Proofs.Ytnikajkklocncaa
open Go.RowKit
def val (s : Bool) (m : Nat) : Int := if s then -(m : Int) else m
theorem val_not (s : Bool) (m : Nat) : val (!s) m = - val s m := by cases s <;> simp [val]
theorem val_neq (s t : Bool) (m n : Nat) : val (s != t) (m * n) = val s m * val t n := by
  cases s <;> cases t <;> simp [val, Int.natCast_mul, Int.neg_mul, Int.mul_neg, Int.neg_neg]
theorem val_num (a : Int) : val (decide (a < 0)) a.natAbs = a := by
  unfold val; by_cases h : a < 0
  · simp [h]; omega
  · simp [h]; omega
def Two190 (n : Nat) : Prop := n < 2^190
theorem Two190.up {n : Nat} (h : Two190 n) : Two200 n := Nat.lt_trans h (Nat.pow_lt_pow_right (by decide) (by decide))
theorem two_sum {m n : Nat} (hm : Two190 m) (hn : Two190 n) : Two200 (m + n) := by
  have h : (2:Nat)^190 + 2^190 < 2^200 := by decide
  unfold Two190 at hm hn; unfold Two200; omega
def IsSum (v : Int) (b : Nat) (w : World) (e : Ending) (w' : World) : Prop := ∃ s m, e = .returned (.agg (sgA s m)) ∧ val s m = v ∧ m ≤ b ∧ Below w.heap.size w w'
theorem add_any (s t : Bool) (m n : Nat) (hm : Two190 m) (hn : Two190 n) (w : World) :
    Calls Try.prog 87 #[.agg (sgA s m), .agg (sgA t n)] w (IsSum (val s m + val t n) (m + n) w) := by
  cases s <;> cases t
  · exact (add_same false m n w).mono fun e w' h => ⟨false, m + n, h.1, by simp [val], Nat.le_refl _, h.2⟩
  · rcases Nat.lt_or_ge m n with h | h
    · exact (add_ft_lt m n hm.up hn.up h w).mono fun e w' g => ⟨true, n - m, g.1, by simp [val]; omega, by omega, g.2⟩
    · exact (add_ft_ge m n hm.up hn.up h w).mono fun e w' g => ⟨false, m - n, g.1, by simp [val]; omega, by omega, g.2⟩
  · rcases Nat.lt_or_ge m n with h | h
    · exact (add_tf_lt m n hm.up hn.up h w).mono fun e w' g => ⟨false, n - m, g.1, by simp [val]; omega, by omega, g.2⟩
    · exact (add_tf_ge m n hm.up hn.up h w).mono fun e w' g => ⟨true, m - n, g.1, by simp [val]; omega, by omega, g.2⟩
  · exact (add_same true m n w).mono fun e w' h => ⟨true, m + n, h.1, by simp [val]; omega, Nat.le_refl _, h.2⟩
def cmpS (w : World) (s t : Bool) (m n : Nat) (W : World) : Prop := addG w s t m n W ∧ Below w.heap.size w W ∧ w.heap.size + 1 < W.heap.size
theorem cmpS_below {w : World} {s t : Bool} {m n : Nat} {W w1 : World} (h : cmpS w s t m n W) (hb : Below W.heap.size W w1) : cmpS w s t m n w1 :=
  ⟨addG_below h.1 hb h.2.2, h.2.1.trans (hb.mono (by have := h.2.2; omega)), by have := hb.size; have := h.2.2; omega⟩
theorem cmpS_alloc {w : World} {s t : Bool} {m n : Nat} {W : World} (h : cmpS w s t m n W) (o : Obj) : cmpS w s t m n (W.alloc o) :=
  ⟨addG_alloc h.1 o h.2.2, h.2.1.alloc (by have := h.2.2; omega) o, by have := h.2.2; simp; omega⟩
theorem cmpS_set {w : World} {s t : Bool} {m n : Nat} {W : World} (h : cmpS w s t m n W) {b i : Nat} (hb : w.heap.size + 1 < b) (v : Value) : cmpS w s t m n (W.setCell ⟨b, i, none⟩ v) :=
  ⟨addG_set h.1 hb v, bset h.2.1 (by omega) v, by have := h.2.2; simpa using this⟩
theorem cmp_start (w : World) (s t : Bool) (m n : Nat) : cmpS w s t m n ((w.alloc (.cells (sgA s m) 83)).alloc (.cells (sgA t n) 83)).drew := by
  have h0 : blk ((w.alloc (.cells (sgA s m) 83)).alloc (.cells (sgA t n) 83)) w.heap.size (sgA s m) 83 := by repeat (first | (refine blk.at_ ?_ rfl; simp; done) | refine blk.alloc ?_ _)
  have h1 : blk ((w.alloc (.cells (sgA s m) 83)).alloc (.cells (sgA t n) 83)) (w.heap.size + 1) (sgA t n) 83 := by repeat (first | (refine blk.at_ ?_ rfl; simp; done) | refine blk.alloc ?_ _)
  exact ⟨⟨fun i => h0.cell i, fun i => h1.cell i, trivial⟩, (((Below.refl _ _).alloc (Nat.le_refl _) _).alloc (by simp) _).drew, by simp⟩
def CmpMid (w : World) (v : Int) (b : Nat) (W : World) : Prop := ∃ s m, val s m = v ∧ Two200 m ∧ w.heap.size ≤ b ∧ Below w.heap.size w W ∧ blk W b (sgA s m) 83
set_option maxRecDepth 100000 in
set_option maxHeartbeats 1600000 in
theorem cmp_any (s t : Bool) (m n : Nat) (hm : Two190 m) (hn : Two190 n) (w : World) :
  Calls Try.prog 81 #[.agg (sgA s m), .agg (sgA t n)] w fun e w' => e = .returned (.int .i64 (cmpI (val s m - val t n))) ∧ Below w.heap.size w w' := by
 go_enter Try.func81, Try.ntmps81
 go_upto_region 1 with fail
 go_cut [5] (fun s5 W => ∃ b, s5 = .pointer (some ⟨b, 0, none⟩) ∧ CmpMid w (val s m - val t n) b W)
 case first =>
  have hS := cmp_start w s t m n
  revert hS
  generalize ((w.alloc (.cells (sgA s m) 83)).alloc (.cells (sgA t n) 83)) = W0
  intro hS
  refine wp_region_held_drew (S := fun w' => cmpS w s t m n w') (by kernel_rfl) hS (fun hHeld => ?_)
  clear hS
  refine wpAnyH_take (i := 0) (v := ?_) rfl (by kernel_rfl) (by kernel_rfl) (by kernel_rfl) (fun _ _ _ h => h) (Or.inl ⟨by rfl, ?_⟩) hHeld ?_
  rotate_left
  · rintro w' hS; obtain ⟨⟨c0, c1, -⟩, -⟩ := hS; go_simp; with_reducible rfl
  try simp only [Act.put, List.setIfInBounds_toArray, List.set_cons_zero, List.set_cons_succ]
  refine wpAnyH_take (i := 1) (v := ?_) rfl (by kernel_rfl) (by kernel_rfl) (by kernel_rfl) (fun _ _ _ h => h) (Or.inl ⟨by rfl, ?_⟩) hHeld ?_
  rotate_left
  · rintro w' hS; obtain ⟨⟨c0, c1, -⟩, -⟩ := hS; go_simp; with_reducible rfl
  try simp only [Act.put, List.setIfInBounds_toArray, List.set_cons_zero, List.set_cons_succ]
  refine wpAnyH_ready (rs := [2, 4]) (by kernel_rfl) (by simp) (AllReadyH.cons rfl (fun K hK => ?_) (AllReadyH.cons rfl (fun K hK => ?_) AllReadyH.nil))
  ·
   go_simp
   refine (neg_any t n _).mono ?_
   rintro e w1 ⟨rfl, hb⟩
   have hN := cmpS_below hHeld hb
   refine hK.out _ _ hN (fun _ => ?_)
   clear hK K hHeld
   have hHeld := hN
   clear hN
   try simp only [Act.put, List.setIfInBounds_toArray, List.set_cons_zero, List.set_cons_succ]
   refine wpAnyH_ready (rs := [3, 4]) (by kernel_rfl) (by simp) (AllReadyH.cons rfl (fun K hK => ?_) (AllReadyH.cons rfl (fun K hK => ?_) AllReadyH.nil))
   ·
    go_simp
    refine (add_any s (!t) m n hm hn _).mono ?_
    rintro e w2 ⟨s', m', rfl, hv, hle, hba⟩
    have hA := cmpS_below hHeld hba
    refine hK.out _ _ hA (fun _ => ?_)
    clear hK K hHeld
    have hHeld := hA
    try simp only [Act.put, List.setIfInBounds_toArray, List.set_cons_zero, List.set_cons_succ]
    refine wpAnyH_ready (rs := [4]) (by kernel_rfl) (by simp) (AllReadyH.cons rfl (fun K hK => ?_) AllReadyH.nil)
    go_simp
    have hL := cmpS_alloc hHeld (.cells #[.bool false, .int .i64 0, .int .i64 0, .int .i64 0, .int .i64 0, .int .i64 0, .int .i64 0, .int .i64 0, .int .i64 0, .int .i64 0] 83)
    refine hK.out _ _ hL (fun _ => ?_)
    clear hK K hHeld
    have hHeld := hL
    clear hL
    try simp only [Act.put, List.setIfInBounds_toArray, List.set_cons_zero, List.set_cons_succ]
    refine wpAnyH_ready (rs := [5]) (by kernel_rfl) (by simp) (AllReadyH.cons rfl (fun K hK => ?_) AllReadyH.nil)
    have hlt := hA.2.2
    have hm2 : Two200 m' := Nat.lt_of_le_of_lt hle (two_sum hm hn)
    have HA := hid hA
    have HV := hid hv
    clear hHeld hA hv hba hle
    unfold sgA
    go_simp
    refine hK.out _ _ ?_ (fun _ => ?_)
    · exact cmpS_alloc HA.out _
    clear hK K
    refine wpAnyH_done (by kernel_rfl) ?_ _
    go_wp2_with fail
    go_meet
    exact ⟨_, rfl, s', m', by rw [HV.out, val_not]; omega, hm2, by have := HA.out.2.1.size; omega, HA.out.2.1.alloc (by have := HA.out.2.1.size; omega) _, blk.new _ _ _⟩
   ·
    obtain ⟨g, hg⟩ : ∃ g, g = w1.heap.size := ⟨_, rfl⟩
    have hg2 := hHeld.2.2
    rw [← hg] at hg2
    go_simp
    have hL := cmpS_alloc hHeld (.cells #[.bool false, .int .i64 0, .int .i64 0, .int .i64 0, .int .i64 0, .int .i64 0, .int .i64 0, .int .i64 0, .int .i64 0, .int .i64 0] 83)
    refine hK.out _ _ hL (fun _ => ?_)
    clear hK K hHeld
    have hHeld := hL
    clear hL
    try simp only [Act.put, List.setIfInBounds_toArray, List.set_cons_zero, List.set_cons_succ]
    have hgb : blk (w1.alloc (.cells #[.bool false, .int .i64 0, .int .i64 0, .int .i64 0, .int .i64 0, .int .i64 0, .int .i64 0, .int .i64 0, .int .i64 0, .int .i64 0] 83)) g zero10 83 := hg ▸ blk.new w1 zero10 _
    rw [← hg]
    clear hg
    have hg := hgb
    clear hgb
    refine wpAnyH_ready (rs := [3]) (by kernel_rfl) (by simp) (AllReadyH.cons rfl (fun K hK => ?_) AllReadyH.nil)
    go_simp
    refine (add_any s (!t) m n hm hn _).mono ?_
    rintro e w2 ⟨s', m', rfl, hv, hle, hba⟩
    have hA := cmpS_below hHeld hba
    refine hK.out _ _ hA (fun _ => ?_)
    clear hK K hHeld
    have hHeld := hA
    try simp only [Act.put, List.setIfInBounds_toArray, List.set_cons_zero, List.set_cons_succ]
    refine wpAnyH_ready (rs := [5]) (by kernel_rfl) (by simp) (AllReadyH.cons rfl (fun K hK => ?_) AllReadyH.nil)
    have hlt := hA.2.2
    have hm2 : Two200 m' := Nat.lt_of_le_of_lt hle (two_sum hm hn)
    have HA := hid hA
    have HV := hid hv
    have h5 : blk w2 g zero10 83 := hg.below hba (by have := hg.lt; omega)
    have c5 : ∀ i, w2.cell? ⟨g, i, none⟩ = (#[.bool false, .int .i64 0, .int .i64 0, .int .i64 0, .int .i64 0, .int .i64 0, .int .i64 0, .int .i64 0, .int .i64 0, .int .i64 0] : Array Value)[i]? := fun i => h5.cell i
    have f5 : ∀ i, w2.frozen? ⟨g, i, none⟩ = false := fun i => h5.free i
    have H5 := hid h5
    clear h5 hg
    clear hHeld hA hv hba hle
    unfold sgA
    go_simp
    refine hK.out _ _ ?_ (fun _ => ?_)
    · ((repeat (refine cmpS_set ?_ (by omega) _)); exact HA.out)
    clear hK K
    refine wpAnyH_done (by kernel_rfl) ?_ _
    go_wp2_with fail
    go_meet
    refine ⟨_, rfl, s', m', by rw [HV.out, val_not]; omega, hm2, by omega, ?_, ?_⟩
    · (repeat (refine bset ?_ (by omega) _)); exact HA.out.2.1
    ·
     have := ((((((((((H5.out.set 0 (.bool s')).set 1 (.int .i64 (dg m' 0))).set 2 (.int .i64 (dg m' 1))).set 3 (.int .i64 (dg m' 2))).set 4 (.int .i64 (dg m' 3))).set 5 (.int .i64 (dg m' 4))).set 6 (.int .i64 (dg m' 5))).set 7 (.int .i64 (dg m' 6))).set 8 (.int .i64 (dg m' 7))).set 9 (.int .i64 (dg m' 8)))
     exact this.to (by simp [zero10, sgA])
  ·
   obtain ⟨g, hg⟩ : ∃ g, g = W0.drew.heap.size := ⟨_, rfl⟩
   have hg2 := hHeld.2.2
   rw [← hg] at hg2
   go_simp
   have hL := cmpS_alloc hHeld (.cells #[.bool false, .int .i64 0, .int .i64 0, .int .i64 0, .int .i64 0, .int .i64 0, .int .i64 0, .int .i64 0, .int .i64 0, .int .i64 0] 83)
   refine hK.out _ _ hL (fun _ => ?_)
   clear hK K hHeld
   have hHeld := hL
   clear hL
   try simp only [Act.put, List.setIfInBounds_toArray, List.set_cons_zero, List.set_cons_succ]
   have hgb : blk (W0.drew.alloc (.cells #[.bool false, .int .i64 0, .int .i64 0, .int .i64 0, .int .i64 0, .int .i64 0, .int .i64 0, .int .i64 0, .int .i64 0, .int .i64 0] 83)) g zero10 83 := hg ▸ blk.new W0.drew zero10 _
   rw [show W0.heap.size = g from hg.symm]
   clear hg
   have hg := hgb
   clear hgb
   refine wpAnyH_ready (rs := [2]) (by kernel_rfl) (by simp) (AllReadyH.cons rfl (fun K hK => ?_) AllReadyH.nil)
   go_simp
   refine (neg_any t n _).mono ?_
   rintro e w1 ⟨rfl, hb⟩
   have hN := cmpS_below hHeld hb
   have hgb := hg.below hb hg.lt
   refine hK.out _ _ hN (fun _ => ?_)
   clear hK K hHeld hb hg
   have hHeld := hN
   have hg := hgb
   clear hN hgb
   try simp only [Act.put, List.setIfInBounds_toArray, List.set_cons_zero, List.set_cons_succ]
   refine wpAnyH_ready (rs := [3]) (by kernel_rfl) (by simp) (AllReadyH.cons rfl (fun K hK => ?_) AllReadyH.nil)
   go_simp
   refine (add_any s (!t) m n hm hn _).mono ?_
   rintro e w2 ⟨s', m', rfl, hv, hle, hba⟩
   have hA := cmpS_below hHeld hba
   refine hK.out _ _ hA (fun _ => ?_)
   clear hK K hHeld
   have hHeld := hA
   try simp only [Act.put, List.setIfInBounds_toArray, List.set_cons_zero, List.set_cons_succ]
   refine wpAnyH_ready (rs := [5]) (by kernel_rfl) (by simp) (AllReadyH.cons rfl (fun K hK => ?_) AllReadyH.nil)
   have hlt := hA.2.2
   have hm2 : Two200 m' := Nat.lt_of_le_of_lt hle (two_sum hm hn)
   have HA := hid hA
   have HV := hid hv
   have h5 : blk w2 g zero10 83 := hg.below hba (by have := hg.lt; omega)
   have c5 : ∀ i, w2.cell? ⟨g, i, none⟩ = (#[.bool false, .int .i64 0, .int .i64 0, .int .i64 0, .int .i64 0, .int .i64 0, .int .i64 0, .int .i64 0, .int .i64 0, .int .i64 0] : Array Value)[i]? := fun i => h5.cell i
   have f5 : ∀ i, w2.frozen? ⟨g, i, none⟩ = false := fun i => h5.free i
   have H5 := hid h5
   clear h5 hg
   clear hHeld hA hv hba hle
   unfold sgA
   go_simp
   refine hK.out _ _ ?_ (fun _ => ?_)
   · ((repeat (refine cmpS_set ?_ (by omega) _)); exact HA.out)
   clear hK K
   refine wpAnyH_done (by kernel_rfl) ?_ _
   go_wp2_with fail
   go_meet
   refine ⟨_, rfl, s', m', by rw [HV.out, val_not]; omega, hm2, by omega, ?_, ?_⟩
   · (repeat (refine bset ?_ (by omega) _)); exact HA.out.2.1
   ·
    have := ((((((((((H5.out.set 0 (.bool s')).set 1 (.int .i64 (dg m' 0))).set 2 (.int .i64 (dg m' 1))).set 3 (.int .i64 (dg m' 2))).set 4 (.int .i64 (dg m' 3))).set 5 (.int .i64 (dg m' 4))).set 6 (.int .i64 (dg m' 5))).set 7 (.int .i64 (dg m' 6))).set 8 (.int .i64 (dg m' 7))).set 9 (.int .i64 (dg m' 8)))
    exact this.to (by simp [zero10, sgA])
 case rest =>
  obtain ⟨b, rfl, s', m', hv, hm', hb, hB, hblk⟩ := hcut
  have c5 : ∀ i, wc.cell? ⟨b, i, none⟩ = (#[.bool s', .int .i64 (dg m' 0), .int .i64 (dg m' 1), .int .i64 (dg m' 2), .int .i64 (dg m' 3), .int .i64 (dg m' 4), .int .i64 (dg m' 5), .int .i64 (dg m' 6), .int .i64 (dg m' 7), .int .i64 (dg m' 8)] : Array Value)[i]? := fun i => hblk.cell i
  have HB := hid hB
  have HV := hid hv
  clear hB hblk hv hm hn
  rcases Nat.eq_zero_or_pos m' with h0 | h0
  ·
   have e0 := eq_zero_true m' hm' h0
   have H0 := hid h0
   clear h0 hm'
   go_wp2
   go_ret
   refine ⟨ret_i64 ?_, HB.out⟩
   rw [← HV.out, H0.out]; cases s' <;> rfl
  ·
   have e0 := eq_zero_false m' hm' (by omega)
   have H0 := hid h0
   clear h0 hm'
   rcases s' with _ | _
   ·
    go_wp2
    go_ret
    refine ⟨ret_i64 ?_, HB.out⟩
    have := H0.out
    rw [← HV.out]; unfold cmpI val; simp; omega
   ·
    go_wp2
    go_ret
    refine ⟨ret_i64 ?_, HB.out⟩
    have := H0.out
    rw [← HV.out]; unfold cmpI val; simp; omega
end Go.Proofs.Ytnikajkklocncaa
namespace Go.Proofs.Ytnikajkklocncaa
open Go.RowKit
def Sg (v : Int) (x : Array Value) : Prop := ∃ s m, x = sgA s m ∧ val s m = v
theorem Sg.size {v : Int} {x : Array Value} (h : Sg v x) : x.size = 10 := by obtain ⟨s, m, rfl, -⟩ := h; rfl
theorem Sg.one {v : Int} {x : Array Value} (h : Sg v x) : allOne x.toList = true := by obtain ⟨s, m, rfl, -⟩ := h; rfl
theorem val_abs (s : Bool) (m : Nat) : (val s m).natAbs = m := by cases s <;> simp [val]
def Lt (k : Nat) (v : Int) : Prop := v.natAbs < 2 ^ k
theorem Lt.int {a : Int} (a0 : -9223372036854775808 ≤ a) (a1 : a ≤ 9223372036854775807) : Lt 64 a := by
  unfold Lt
  have : (2:Nat)^64 = 18446744073709551616 := by decide
  omega
theorem Lt.up {k j : Nat} {v : Int} (h : Lt k v) (hk : k ≤ j) : Lt j v := Nat.lt_of_lt_of_le h (Nat.pow_le_pow_right (by decide) hk)
theorem Lt.mul {k j : Nat} {u v : Int} (hu : Lt k u) (hv : Lt j v) : Lt (k + j) (u * v) := by
  unfold Lt at *
  rw [Int.natAbs_mul, Nat.pow_add]
  exact Nat.mul_lt_mul'' hu hv
theorem Lt.add {k : Nat} {u v : Int} (hu : Lt k u) (hv : Lt k v) : Lt (k + 1) (u + v) := by
  unfold Lt at *
  rw [Nat.pow_succ]
  have := Int.natAbs_add_le u v
  omega
theorem num_v (a : Int) (a0 : -9223372036854775808 ≤ a) (a1 : a ≤ 9223372036854775807) (w : World) :
    Calls Try.prog 83 #[.int .i64 a] w fun e w' => ∃ x, e = .returned (.agg x) ∧ Sg a x ∧ Below w.heap.size w w' :=
  (num_any a a0 a1 w).mono fun _ _ ⟨h, hb⟩ => ⟨_, h, ⟨_, _, rfl, val_num a⟩, hb⟩
theorem mul_v {u v : Int} {x y : Array Value} (hx : Sg u x) (hy : Sg v y) (hu : Lt 124 u) (hv : Lt 124 v) (w : World) :
    Calls Try.prog 82 #[.agg x, .agg y] w fun e w' => ∃ z, e = .returned (.agg z) ∧ Sg (u * v) z ∧ Below w.heap.size w w' := by
  obtain ⟨s, m, rfl, rfl⟩ := hx
  obtain ⟨t, n, rfl, rfl⟩ := hy
  unfold Lt at hu hv
  rw [val_abs] at hu hv
  exact (mul_any s t m n hu hv w).mono fun _ _ ⟨h, hb⟩ => ⟨_, h, ⟨_, _, rfl, val_neq s t m n⟩, hb⟩
theorem cmp_v {u v : Int} {x y : Array Value} (hx : Sg u x) (hy : Sg v y) (hu : Lt 190 u) (hv : Lt 190 v) (w : World) :
    Calls Try.prog 81 #[.agg x, .agg y] w fun e w' => e = .returned (.int .i64 (cmpI (u - v))) ∧ Below w.heap.size w w' := by
  obtain ⟨s, m, rfl, rfl⟩ := hx
  obtain ⟨t, n, rfl, rfl⟩ := hy
  unfold Lt at hu hv
  rw [val_abs] at hu hv
  exact cmp_any s t m n hu hv w
end Go.Proofs.Ytnikajkklocncaa
namespace Go.Proofs.Ytnikajkklocncaa
open Go.RowKit
set_option maxRecDepth 100000 in
set_option maxHeartbeats 400000 in
theorem below09 (n : Int) (w : World) :
    Calls Try.prog 77 #[.int .i64 n] w fun e w' => e = .returned (.bool (decide (n < 0))) ∧ w = w' := by
  have hbs := Below.refl (B := w.heap.size) w
  have hM := Mem.start w
  refine Calls.of_ends (vs := [.int .i64 n]) Try.func77 rfl Try.ntmps77 rfl ?_
  intro a hA
  replace hA : St 5 [(0, _)] a := hA
  refine Ends.seq (Ends.region ?_)
  refine S.val hA (R.assign rfl) rfl ?_; clear hA a; intro a hA
  refine S.done ?_
  replace hA : St 5 [(0, _)] a := hA.sub ((.cons rfl .nil))
  refine Ends.seq (Ends.region ?_)
  refine S.val hA (R.move rfl) rfl ?_; clear hA a; intro a hA
  refine S.val hA (R.lss rfl rfl) rfl ?_; clear hA a; intro a hA
  refine S.val hA (R.assign rfl) rfl ?_; clear hA a; intro a hA
  refine S.done ?_
  replace hA : St 5 [(2, _)] a := hA.sub ((.cons rfl .nil))
  refine Ends.ret1 Try.func77 Try.results77 hA rfl ?_
  exact ⟨rfl, rfl⟩
theorem dec_bool {p : Prop} [Decidable p] {b : Bool} (h : p ↔ b = true) : decide p = b := by cases b <;> simp_all
theorem callsNilq {P : Program} {f : FuncId} {vs : Array Value} {w : World} {R : Ending → World → Prop} (h : Calls P f vs w R) : Calls P f (vs ++ #[]) w R := by rwa [Array.append_empty]
set_option maxRecDepth 100000 in
set_option maxHeartbeats 400000 in
theorem index09 (ax : Option Addr) (X : List Int) (cx : Nat) (w : World) (hx : IntSl w (.slice ax X.length cx) X) :
  Calls Try.prog 84 #[.slice ax X.length cx, .func (.func 77) #[] #[]] w fun e w' => ∃ r : Int, e = .returned (.int .i64 r) ∧ (0 ≤ r ↔ hasNeg X = true) ∧ Below w.heap.size w w' := by
 have hbs := Below.refl (B := w.heap.size) w
 have hlX := hx.lenB
 have hM := Mem.start w
 refine Calls.of_ends (vs := [.slice ax X.length cx, .func (.func 77) #[] #[]]) Try.func84 rfl Try.ntmps84 rfl ?_
 intro a hA
 replace hA : St 19 [(0, _), (1, _)] a := hA
 refine Ends.seq (Ends.region ?_)
 refine S.val hA (R.assign rfl) rfl ?_; clear hA a; intro a hA
 refine S.done ?_
 replace hA : St 19 [(0, _), (1, _)] a := hA.sub ((.cons rfl (.cons rfl .nil)))
 refine Ends.seq (Ends.seq (Ends.region ?_))
 refine S.val hA (R.move rfl) rfl ?_; clear hA a; intro a hA
 refine S.val hA (R.lenS Try.underlying22 rfl rfl) rfl ?_; clear hA a; intro a hA
 refine S.val hA (R.move rfl) rfl ?_; clear hA a; intro a hA
 refine S.done ?_
 replace hA : St 19 [(0, _), (1, _), (7, _), (8, _)] a := hA.sub ((.cons rfl (.cons rfl (.cons rfl (.cons rfl .nil)))))
 refine Ends.block ?_
 refine Ends.loop (σ := Nat) (fun k (a : Act) (wv : World) => St 19 [(0, .slice ax X.length cx), (1, .func (.func 77) #[] #[]), (7, .int .i64 ((X.length : Int))), (8, .int .i64 ((k : Int)))] a ∧ Mem w nof [] wv ∧ (k ≤ X.length) ∧ (∀ j, j < k → 0 ≤ X.getD j 0)) (fun k => X.length - k) 0 ⟨hA.sub ((.cons rfl (.cons rfl (.cons rfl (.cons rfl .nil))))), hM, (Nat.zero_le _), (fun j hj => absurd hj (Nat.not_lt_zero _))⟩ ?_
 clear hA hM a
 rintro k a w1 ⟨hA, hM, hk, hk2⟩ hNext
 refine Ends.seq (Ends.region ?_)
 refine S.val hA (R.lss rfl rfl) rfl ?_; clear hA a; intro a hA
 refine S.done ?_
 replace hA : St 19 [(0, _), (1, _), (7, _), (8, _), (9, _)] a := hA.sub ((.cons rfl (.cons rfl (.cons rfl (.cons rfl (.cons rfl .nil))))))
 refine Ends.seq ?_
 refine Ends.ite hA rfl (fun hc1 => ?_) (fun hc1 => ?_)
 ·
  refine Ends.skip (Ends.seq (Ends.block (Ends.seq (Ends.region ?_))))
  refine S.val hA (R.move rfl) rfl ?_; clear hA a; intro a hA
  refine S.val hA (R.assign rfl) rfl ?_; clear hA a; intro a hA
  refine S.done ?_
  replace hA : St 19 [(0, _), (1, _), (5, _), (7, _), (8, _)] a := hA.sub ((.cons rfl (.cons rfl (.cons rfl (.cons rfl (.cons rfl .nil))))))
  refine Ends.seq (Ends.region ?_)
  refine S.val hA (R.move rfl) rfl ?_; clear hA a; intro a hA
  refine S.val hA (R.move rfl) rfl ?_; clear hA a; intro a hA
  refine S.val hA (R.move rfl) rfl ?_; clear hA a; intro a hA
  refine S.val hA (R.idxI hx (j := k) sl22 rfl rfl (by omega) (rfl)) rfl ?_; clear hA a; intro a hA
  refine S.val hA (R.loadI (hx.mem hM) sz3 rfl (by omega)) rfl ?_; clear hA a; intro a hA
  refine S.call hA (R.callV Try.func77 (by kernel_rfl) rfl rfl rfl) rfl (callsNilq (below09 (X.getD k 0) _)) ?_; clear hA a
  rintro e w2 ⟨rfl, rfl⟩
  refine ⟨.bool (decide (X.getD k 0 < 0)), rfl, fun a hA => ?_⟩
  refine S.done ?_
  replace hA : St 19 [(0, _), (1, _), (5, _), (7, _), (8, _), (16, _)] a := hA.sub ((.cons rfl (.cons rfl (.cons rfl (.cons rfl (.cons rfl (.cons rfl .nil)))))))
  refine Ends.ite hA rfl (fun hc2 => ?_) (fun hc2 => ?_)
  ·
   refine Ends.seq (Ends.region ?_)
   refine S.val hA (R.move rfl) rfl ?_; clear hA a; intro a hA
   refine S.val hA (R.assign rfl) rfl ?_; clear hA a; intro a hA
   refine S.done ?_
   replace hA : St 19 [(0, _), (1, _), (4, _), (7, _), (8, _)] a := hA.sub ((.cons rfl (.cons rfl (.cons rfl (.cons rfl (.cons rfl .nil))))))
   refine Ends.ret1 Try.func84 Try.results84 hA rfl ?_
   exact ⟨(k : Int), rfl, by rw [hasNeg_at (k := k) (by omega) (by omega)]; simp, Mem.trans0 hbs hM.nilL⟩
  ·
   refine Ends.skip (Ends.inBlock (Ends.region ?_))
   refine S.val hA (R.addI rfl rfl (r := ((k : Int)) + 1) rfl (by omega)) rfl ?_; clear hA a; intro a hA
   refine S.val hA (R.move rfl) rfl ?_; clear hA a; intro a hA
   refine S.done ?_
   replace hA : St 19 [(0, _), (1, _), (7, _), (8, _)] a := hA.sub ((.cons rfl (.cons rfl (.cons rfl (.cons rfl .nil)))))
   exact hNext ((k + 1)) _ _ ((by show X.length - (k + 1) < X.length - k; omega)) ⟨hA.sub ((.cons rfl (.cons rfl (.cons rfl (.cons rfl .nil))))), hM, (by omega), (fun j hj => (Nat.lt_or_ge j k).elim (fun g => hk2 j g) (fun g => by have e : j = k := (by omega); rw [e]; omega))⟩
 ·
  refine Ends.exit rfl ?_
  replace hA : St 19 [] a := hA.sub (.nil)
  refine Ends.seq (Ends.region ?_)
  refine S.val hA (R.assign rfl) rfl ?_; clear hA a; intro a hA
  refine S.done ?_
  replace hA : St 19 [(4, _)] a := hA.sub ((.cons rfl .nil))
  refine Ends.ret1 Try.func84 Try.results84 hA rfl ?_
  obtain rfl : k = X.length := by omega
  exact ⟨-1, rfl, by rw [hasNeg_no hk2]; simp, Mem.trans0 hbs hM.nilL⟩
set_option maxRecDepth 100000 in
set_option maxHeartbeats 400000 in
theorem contains09 (ax : Option Addr) (X : List Int) (cx : Nat) (w : World) (hx : IntSl w (.slice ax X.length cx) X) :
    Calls Try.prog 76 #[.slice ax X.length cx, .func (.func 77) #[] #[]] w fun e w' => e = .returned (.bool (hasNeg X)) ∧ Below w.heap.size w w' := by
  have hbs := Below.refl (B := w.heap.size) w
  have hM := Mem.start w
  refine Calls.of_ends (vs := [.slice ax X.length cx, .func (.func 77) #[] #[]]) Try.func76 rfl Try.ntmps76 rfl ?_
  intro a hA
  replace hA : St 9 [(0, _), (1, _)] a := hA
  refine Ends.seq (Ends.region ?_)
  refine S.val hA (R.assign rfl) rfl ?_; clear hA a; intro a hA
  refine S.done ?_
  replace hA : St 9 [(0, _), (1, _)] a := hA.sub ((.cons rfl (.cons rfl .nil)))
  refine Ends.seq (Ends.region ?_)
  refine S.val hA (R.move rfl) rfl ?_; clear hA a; intro a hA
  refine S.val hA (R.move rfl) rfl ?_; clear hA a; intro a hA
  refine S.call hA (R.callF Try.func84 rfl rfl rfl) rfl (index09 ax X cx _ (hx.mem hM)) ?_; clear hA a
  rintro e w1 ⟨ri1, rfl, hri2, hb⟩
  replace hM := hM.callB hb; clear hb
  refine ⟨.int .i64 ri1, rfl, fun a hA => ?_⟩
  refine S.val hA (R.geq rfl rfl) rfl ?_; clear hA a; intro a hA
  refine S.val hA (R.assign rfl) rfl ?_; clear hA a; intro a hA
  refine S.done ?_
  replace hA : St 9 [(4, _)] a := hA.sub ((.cons rfl .nil))
  refine Ends.ret1 Try.func76 Try.results76 hA rfl ?_
  exact ⟨by rw [dec_bool hri2], Mem.trans0 hbs hM.nilL⟩
theorem cmpI_pos (z : Int) : 0 < cmpI z ↔ 0 < z := by unfold cmpI; repeat' split; all_goals omega
def bdI (X : List Int) : Prop := ∀ z, -9223372036854775808 ≤ X.getD z 0 ∧ X.getD z 0 ≤ 9223372036854775807
set_option maxRecDepth 100000 in
set_option maxHeartbeats 400000 in
theorem byratio1 (bw bv : Nat) (au : Option Addr) (U : List Int) (cu : Nat) (av : Option Addr) (V : List Int) (cv : Nat) (x y : Int) (hvw : V.length = U.length) (hbv : bdI V) (hbw : bdI U) (hx : inRq V.length x) (hy : inRq V.length y) (w : World) (hqbw : w.heap[bw]? = some (.cells #[.slice au U.length cu] 22 (0, 0))) (hqbv : w.heap[bv]? = some (.cells #[.slice av V.length cv] 22 (0, 0))) (hu : IntSl w (.slice au U.length cu) U) (hv : IntSl w (.slice av V.length cv) V) :
  Calls Try.prog 79 #[.int .i64 x, .int .i64 y, .pointer (some ⟨bw, 0, none⟩), .pointer (some ⟨bv, 0, none⟩)] w fun e w' => e = .returned (.bool (ltq V U x y)) ∧ Below w.heap.size w w' := by
 have hbs := Below.refl (B := w.heap.size) w
 unfold inRq at hx hy
 have hM := Mem.start w
 refine Calls.of_ends (vs := [.int .i64 x, .int .i64 y, .pointer (some ⟨bw, 0, none⟩), .pointer (some ⟨bv, 0, none⟩)]) Try.func79 rfl Try.ntmps79 rfl ?_
 intro a hA
 replace hA : St 37 [(0, _), (1, _), (2, _), (3, _)] a := hA
 refine Ends.seq (Ends.region ?_)
 refine S.val hA (R.assign rfl) rfl ?_; clear hA a; intro a hA
 refine S.done ?_
 replace hA : St 37 [(0, _), (1, _), (2, _), (3, _)] a := hA.sub ((.cons rfl (.cons rfl (.cons rfl (.cons rfl .nil)))))
 refine Ends.seq (Ends.block (Ends.seq (Ends.region ?_)))
 refine S.val hA (R.load sz22 rfl (hM.cellB hqbw rfl)) rfl ?_; clear hA a; intro a hA
 refine S.val hA (R.move rfl) rfl ?_; clear hA a; intro a hA
 refine S.val hA (R.idxI hu (j := y.toNat) sl22 rfl rfl (by omega) (rfl)) rfl ?_; clear hA a; intro a hA
 refine S.val hA (R.loadI (hu.mem hM) sz3 rfl (by omega)) rfl ?_; clear hA a; intro a hA
 refine S.val hA (R.eql rfl rfl) rfl ?_; clear hA a; intro a hA
 refine S.val hA (R.assign rfl) rfl ?_; clear hA a; intro a hA
 refine S.done ?_
 replace hA : St 37 [(0, _), (1, _), (2, _), (3, _), (7, _)] a := hA.sub ((.cons rfl (.cons rfl (.cons rfl (.cons rfl (.cons rfl .nil))))))
 refine Ends.ite hA rfl (fun hc1 => ?_) (fun hc1 => ?_)
 ·
  refine Ends.seq (Ends.region ?_)
  refine S.val hA (R.assign rfl) rfl ?_; clear hA a; intro a hA
  refine S.done ?_
  replace hA : St 37 [(0, _), (1, _), (2, _), (3, _), (6, _)] a := hA.sub ((.cons rfl (.cons rfl (.cons rfl (.cons rfl (.cons rfl .nil))))))
  refine Ends.ret1 Try.func79 Try.results79 hA rfl ?_
  exact ⟨by unfold ltq; rw [if_pos (by omega)], Mem.trans0 hbs hM.nilL⟩
 ·
  refine Ends.seq (Ends.region ?_)
  refine S.val hA (R.load sz22 rfl (hM.cellB hqbw rfl)) rfl ?_; clear hA a; intro a hA
  refine S.val hA (R.move rfl) rfl ?_; clear hA a; intro a hA
  refine S.val hA (R.idxI hu (j := x.toNat) sl22 rfl rfl (by omega) (rfl)) rfl ?_; clear hA a; intro a hA
  refine S.val hA (R.loadI (hu.mem hM) sz3 rfl (by omega)) rfl ?_; clear hA a; intro a hA
  refine S.val hA (R.eql rfl rfl) rfl ?_; clear hA a; intro a hA
  refine S.val hA (R.assign rfl) rfl ?_; clear hA a; intro a hA
  refine S.done ?_
  replace hA : St 37 [(0, _), (1, _), (2, _), (3, _), (13, _)] a := hA.sub ((.cons rfl (.cons rfl (.cons rfl (.cons rfl (.cons rfl .nil))))))
  refine Ends.ite hA rfl (fun hc2 => ?_) (fun hc2 => ?_)
  ·
   refine Ends.seq (Ends.region ?_)
   refine S.val hA (R.assign rfl) rfl ?_; clear hA a; intro a hA
   refine S.done ?_
   replace hA : St 37 [(0, _), (1, _), (2, _), (3, _), (6, _)] a := hA.sub ((.cons rfl (.cons rfl (.cons rfl (.cons rfl (.cons rfl .nil))))))
   refine Ends.ret1 Try.func79 Try.results79 hA rfl ?_
   exact ⟨by unfold ltq; rw [if_neg (by omega), if_pos (by omega)], Mem.trans0 hbs hM.nilL⟩
  ·
   refine Ends.skip (Ends.inBlock (Ends.seq ?_))
   refine Ends.drawn (Mem w nof []) (.cons (0, true) (.cons (1, true) (.cons (2, true) (.cons (3, true) (.cons (4, true) (.cons (5, true) (.cons (6, true) (.cons (7, true) (.cons (8, true) (.cons (9, true) (.cons (10, true) (.cons (11, true) (.cons (12, true) (.cons (13, true) (.cons (14, true) (.cons (15, true) (.cons (16, false) (.cons (17, true) (.cons (18, true) .nil))))))))))))))))))) 19 mixed (by kernel_rfl) (by kernel_rfl) (by kernel_rfl) hM.drew ?_
   replace hM := hM.drew
   refine D.val hA rfl (by kernel_rfl) (fun _ hM => R.load sz22 rfl (hM.cellB hqbv rfl)) rfl ?_; clear hA a; intro a hA
   refine D.valF hA rfl (fun _ => R.move rfl) rfl ?_; clear hA a; intro a hA
   refine D.valF hA rfl (fun _ => R.idxI hv (j := x.toNat) sl22 rfl rfl (by omega) (rfl)) rfl ?_; clear hA a; intro a hA
   refine D.val hA rfl (by kernel_rfl) (fun _ hM => R.loadI (hv.mem hM) sz3 rfl (by omega)) rfl ?_; clear hA a; intro a hA
   refine D.val hA rfl (by kernel_rfl) (fun _ hM => R.load sz22 rfl (hM.cellB hqbw rfl)) rfl ?_; clear hA a; intro a hA
   refine D.valF hA rfl (fun _ => R.move rfl) rfl ?_; clear hA a; intro a hA
   refine D.valF hA rfl (fun _ => R.idxI hu (j := y.toNat) sl22 rfl rfl (by omega) (rfl)) rfl ?_; clear hA a; intro a hA
   refine D.val hA rfl (by kernel_rfl) (fun _ hM => R.loadI (hu.mem hM) sz3 rfl (by omega)) rfl ?_; clear hA a; intro a hA
   refine D.val hA rfl (by kernel_rfl) (fun _ hM => R.load sz22 rfl (hM.cellB hqbv rfl)) rfl ?_; clear hA a; intro a hA
   refine D.valF hA rfl (fun _ => R.move rfl) rfl ?_; clear hA a; intro a hA
   refine D.valF hA rfl (fun _ => R.idxI hv (j := y.toNat) sl22 rfl rfl (by omega) (rfl)) rfl ?_; clear hA a; intro a hA
   refine D.val hA rfl (by kernel_rfl) (fun _ hM => R.loadI (hv.mem hM) sz3 rfl (by omega)) rfl ?_; clear hA a; intro a hA
   refine D.val hA rfl (by kernel_rfl) (fun _ hM => R.load sz22 rfl (hM.cellB hqbw rfl)) rfl ?_; clear hA a; intro a hA
   refine D.valF hA rfl (fun _ => R.move rfl) rfl ?_; clear hA a; intro a hA
   refine D.valF hA rfl (fun _ => R.idxI hu (j := x.toNat) sl22 rfl rfl (by omega) (rfl)) rfl ?_; clear hA a; intro a hA
   refine D.val hA rfl (by kernel_rfl) (fun _ hM => R.loadI (hu.mem hM) sz3 rfl (by omega)) rfl ?_; clear hA a; intro a hA
   refine D.call hA rfl (R.callF Try.func80 rfl rfl rfl) rfl (cross_any (V.getD x.toNat 0) (U.getD y.toNat 0) (V.getD y.toNat 0) (U.getD x.toNat 0) (hbv _).1 (hbv _).2 (hbw _).1 (hbw _).2 (hbv _).1 (hbv _).2 (hbw _).1 (hbw _).2 _) ?_; clear hA a
   rintro e w1 ⟨rfl, hb⟩
   replace hM := hM.callB hb; clear hb
   refine ⟨.int .i64 (cmpI ((V.getD x.toNat 0) * (U.getD y.toNat 0) - (V.getD y.toNat 0) * (U.getD x.toNat 0))), rfl, hM, fun a hA => ?_⟩
   refine D.valF hA rfl (fun _ => R.gtr rfl rfl) rfl ?_; clear hA a; intro a hA
   refine D.valF hA rfl (fun _ => R.assign rfl) rfl ?_; clear hA a; intro a hA
   refine D.done ?_
   replace hA : St 37 [(6, _)] a := hA.sub ((.cons rfl .nil))
   refine Ends.ret1 Try.func79 Try.results79 hA rfl ?_
   exact ⟨by unfold ltq; rw [if_neg (by omega), if_neg (by omega)]; exact congrArg (fun z => Ending.returned (.bool z)) (decide_eq_decide.2 ((cmpI_pos _).trans (by omega))), Mem.trans0 hbs hM.nilL⟩
def badQ (v w : List Int) : Prop := ((v.length ≠ w.length ∨ 64 < v.length) ∨ hasNeg v = true) ∨ hasNeg w = true
instance (v w : List Int) : Decidable (badQ v w) := by unfold badQ; infer_instance
theorem badQ_iff {v w : List Int} : badQ v w ↔ ((((v.length : Int) ≠ (w.length : Int)) ∨ (64 : Int) < (v.length : Int)) ∨ (hasNeg v) = true) ∨ (hasNeg w) = true := by
  unfold badQ
  have e1 : ((v.length : Int) ≠ (w.length : Int)) ↔ v.length ≠ w.length := by omega
  have e2 : ((64 : Int) < (v.length : Int)) ↔ 64 < v.length := by omega
  rw [e1, e2]
def qL (v w : List Int) : List Int := if badQ v w then [] else byQ v w
def qE (v w : List Int) : Int := if badQ v w then 1 else 0
theorem not_bad {v w : List Int} (h : ¬ badQ v w) : v.length = w.length ∧ v.length ≤ 64 ∧ (∀ x ∈ v, 0 ≤ x) ∧ ∀ x ∈ w, 0 ≤ x := by
  unfold badQ at h
  simp only [not_or, Bool.not_eq_true, Decidable.not_not] at h
  exact ⟨h.1.1.1, by omega, nn_of h.1.2, nn_of h.2⟩
theorem cmpI_zero (z : Int) : cmpI z = 0 ↔ z = 0 := by unfold cmpI; repeat' split; all_goals omega
set_option maxRecDepth 100000 in
set_option maxHeartbeats 400000 in
theorem better09 (av : Option Addr) (V : List Int) (cv : Nat) (au : Option Addr) (U : List Int) (cu : Nat) (i j : Nat) (hi : i < V.length ∧ i < U.length) (hj : j < V.length ∧ j < U.length) (hbv : bdI V) (hbu : bdI U) (w : World) (hv : IntSl w (.slice av V.length cv) V) (hu : IntSl w (.slice au U.length cu) U) :
  Calls Try.prog 72 #[.slice av V.length cv, .slice au U.length cu, .int .i64 ((i : Int)), .int .i64 ((j : Int))] w fun e w' => e = .returned (.bool (btr V U i j)) ∧ Below w.heap.size w w' := by
 have hbs := Below.refl (B := w.heap.size) w
 have q1 := hbv i
 have q2 := hbv j
 have q3 := hbu i
 have q4 := hbu j
 have hM := Mem.start w
 refine Calls.of_ends (vs := [.slice av V.length cv, .slice au U.length cu, .int .i64 ((i : Int)), .int .i64 ((j : Int))]) Try.func72 rfl Try.ntmps72 rfl ?_
 intro a hA
 replace hA : St 73 [(0, _), (1, _), (2, _), (3, _)] a := hA
 refine Ends.seq (Ends.region ?_)
 refine S.val hA (R.assign rfl) rfl ?_; clear hA a; intro a hA
 refine S.done ?_
 replace hA : St 73 [(0, _), (1, _), (2, _), (3, _)] a := hA.sub ((.cons rfl (.cons rfl (.cons rfl (.cons rfl .nil)))))
 refine Ends.seq (Ends.seq ?_)
 refine Ends.cut (fun (a : Act) (wv : World) => St 73 [(0, .slice av V.length cv), (1, .slice au U.length cu), (2, .int .i64 ((i : Int))), (3, .int .i64 ((j : Int))), (21, .bool (decide (((U.getD i 0) = 0 ∨ (U.getD j 0) = 0))))] a ∧ Mem w nof [] wv) ?_ (fun k2 hJ => ?_)
 ·
  clear hA hM a; rintro a w1 ⟨hA, hM⟩
  refine Ends.ite hA rfl (fun hc1 => ?_) (fun hc1 => ?_)
  ·
   refine Ends.seq ?_
   refine Ends.cut (fun (a : Act) (wv : World) => St 73 [(0, .slice av V.length cv), (1, .slice au U.length cu), (2, .int .i64 ((i : Int))), (3, .int .i64 ((j : Int))), (8, .bool (decide (((U.getD i 0) = 0 ∧ ((U.getD j 0) ≠ 0 ∨ ((i : Int)) < ((j : Int)))))))] a ∧ Mem w nof [] wv) ?_ (fun k2 hJ => ?_)
   ·
    clear hA hM a; rintro a w2 ⟨hA, hM⟩
    refine Ends.ret1 Try.func72 Try.results72 hA rfl ?_
    exact ⟨by unfold btr; rw [if_pos (by omega)] <;> exact congrArg (fun z => Ending.returned (.bool z)) (decide_eq_decide.2 (by omega)), Mem.trans0 hbs hM.nilL⟩
   ·
    refine Ends.region ?_
    refine S.val hA (R.move rfl) rfl ?_; clear hA a; intro a hA
    refine S.val hA (R.move rfl) rfl ?_; clear hA a; intro a hA
    refine S.val hA (R.idxI hu (j := i) sl22 rfl rfl (by omega) (rfl)) rfl ?_; clear hA a; intro a hA
    refine S.val hA (R.loadI (hu.mem hM) sz3 rfl (by omega)) rfl ?_; clear hA a; intro a hA
    refine S.val hA (R.eql rfl rfl) rfl ?_; clear hA a; intro a hA
    refine S.val hA (R.move rfl) rfl ?_; clear hA a; intro a hA
    refine hA.split (d := 27) rfl ?_ ?_
    ·
     clear hA; intro hg2 hA
     refine S.valg (dj := 27) hA (by kernel_rfl) rfl (R.move rfl) rfl ?_; clear hA a; intro a hA
     refine S.valg (dj := 27) hA (by kernel_rfl) rfl (R.move rfl) rfl ?_; clear hA a; intro a hA
     refine S.valg (dj := 27) hA (by kernel_rfl) rfl (R.idxI hu (j := j) sl22 rfl rfl (by omega) (rfl)) rfl ?_; clear hA a; intro a hA
     refine S.valg (dj := 27) hA (by kernel_rfl) rfl (R.loadI (hu.mem hM) sz3 rfl (by omega)) rfl ?_; clear hA a; intro a hA
     refine S.valg (dj := 27) hA (by kernel_rfl) rfl (R.neq rfl rfl) rfl ?_; clear hA a; intro a hA
     refine S.valg (dj := 27) hA (by kernel_rfl) rfl (R.move rfl) rfl ?_; clear hA a; intro a hA
     refine hA.split (d := 33) rfl ?_ ?_
     ·
      clear hA; intro hg3 hA
      refine S.no (dj := 33) hA (by kernel_rfl) rfl rfl rfl ?_; clear hA a; intro a hA
      refine S.no (dj := 33) hA (by kernel_rfl) rfl rfl rfl ?_; clear hA a; intro a hA
      refine S.no (dj := 33) hA (by kernel_rfl) rfl rfl rfl ?_; clear hA a; intro a hA
      refine S.valg (dj := 27) hA (by kernel_rfl) rfl (R.pickT rfl rfl) rfl ?_; clear hA a; intro a hA
      refine S.val hA (R.pickT rfl rfl) rfl ?_; clear hA a; intro a hA
      refine S.val hA (R.assign rfl) rfl ?_; clear hA a; intro a hA
      refine S.done ?_
      replace hA : St 73 [(0, _), (1, _), (2, _), (3, _), (8, _)] a := hA.sub ((.cons rfl (.cons rfl (.cons rfl (.cons rfl (.cons rfl .nil))))))
      exact hJ _ _ ⟨hA.sub (.cons rfl (.cons rfl (.cons rfl (.cons rfl (.cons (by first | rfl | exact congrArg (fun b => some (Value.bool b)) (by first | exact decide_eq_decide.2 (by omega) | exact or_bool (by omega) | exact and_bool (by omega) | (simp; done) | (simp [hg2, hg3]; done) | (have h80 := hg2; (try simp at h80); have h81 := hg3; (try simp at h81); simp [h80, h81]; done) | exact (decide_eq_false (fun h9 => hg2 h9.1)).symm | exact (decide_eq_false (fun h9 => hg3 h9.1)).symm)) .nil))))), hM⟩
     ·
      clear hA; intro hg3 hA
      refine S.valg (dj := 33) hA (by kernel_rfl) rfl (R.move rfl) rfl ?_; clear hA a; intro a hA
      refine S.valg (dj := 33) hA (by kernel_rfl) rfl (R.move rfl) rfl ?_; clear hA a; intro a hA
      refine S.valg (dj := 33) hA (by kernel_rfl) rfl (R.lss rfl rfl) rfl ?_; clear hA a; intro a hA
      refine S.valg (dj := 27) hA (by kernel_rfl) rfl (R.pickF rfl rfl) rfl ?_; clear hA a; intro a hA
      refine S.val hA (R.pickT rfl rfl) rfl ?_; clear hA a; intro a hA
      refine S.val hA (R.assign rfl) rfl ?_; clear hA a; intro a hA
      refine S.done ?_
      replace hA : St 73 [(0, _), (1, _), (2, _), (3, _), (8, _)] a := hA.sub ((.cons rfl (.cons rfl (.cons rfl (.cons rfl (.cons rfl .nil))))))
      exact hJ _ _ ⟨hA.sub (.cons rfl (.cons rfl (.cons rfl (.cons rfl (.cons (by first | rfl | exact congrArg (fun b => some (Value.bool b)) (by first | exact decide_eq_decide.2 (by omega) | exact or_bool (by omega) | exact and_bool (by omega) | (simp; done) | (simp [hg2, hg3]; done) | (have h80 := hg2; (try simp at h80); have h81 := hg3; (try simp at h81); simp [h80, h81]; done) | exact (decide_eq_false (fun h9 => hg2 h9.1)).symm | exact (decide_eq_false (fun h9 => hg3 h9.1)).symm)) .nil))))), hM⟩
    ·
     clear hA; intro hg2 hA
     refine S.no (dj := 27) hA (by kernel_rfl) rfl rfl rfl ?_; clear hA a; intro a hA
     refine S.no (dj := 27) hA (by kernel_rfl) rfl rfl rfl ?_; clear hA a; intro a hA
     refine S.no (dj := 27) hA (by kernel_rfl) rfl rfl rfl ?_; clear hA a; intro a hA
     refine S.no (dj := 27) hA (by kernel_rfl) rfl rfl rfl ?_; clear hA a; intro a hA
     refine S.no (dj := 27) hA (by kernel_rfl) rfl rfl rfl ?_; clear hA a; intro a hA
     refine S.no (dj := 27) hA (by kernel_rfl) rfl rfl rfl ?_; clear hA a; intro a hA
     refine S.noU (dj := 33) hA (by kernel_rfl) rfl rfl ?_; clear hA a; intro a hA
     refine S.noU (dj := 33) hA (by kernel_rfl) rfl rfl ?_; clear hA a; intro a hA
     refine S.noU (dj := 33) hA (by kernel_rfl) rfl rfl ?_; clear hA a; intro a hA
     refine S.no (dj := 27) hA (by kernel_rfl) rfl rfl rfl ?_; clear hA a; intro a hA
     refine S.val hA (R.pickF rfl rfl) rfl ?_; clear hA a; intro a hA
     refine S.val hA (R.assign rfl) rfl ?_; clear hA a; intro a hA
     refine S.done ?_
     replace hA : St 73 [(0, _), (1, _), (2, _), (3, _), (8, _)] a := hA.sub ((.cons rfl (.cons rfl (.cons rfl (.cons rfl (.cons rfl .nil))))))
     exact hJ _ _ ⟨hA.sub (.cons rfl (.cons rfl (.cons rfl (.cons rfl (.cons (by first | rfl | exact congrArg (fun b => some (Value.bool b)) (by first | exact decide_eq_decide.2 (by omega) | exact or_bool (by omega) | exact and_bool (by omega) | (simp; done) | (simp [hg2]; done) | (have h80 := hg2; (try simp at h80); simp [h80]; done) | exact (decide_eq_false (fun h9 => hg2 h9.1)).symm)) .nil))))), hM⟩
  ·
   refine Ends.skip (Ends.seq ?_)
   refine Ends.drawn (Mem w nof []) (.cons (0, true) (.cons (1, true) (.cons (2, true) (.cons (3, true) (.cons (5, true) (.cons (6, true) (.cons (7, true) (.cons (8, true) (.cons (11, true) (.cons (12, true) (.cons (13, true) (.cons (14, true) (.cons (16, true) (.cons (17, true) (.cons (18, true) (.cons (19, true) (.cons (4, false) (.cons (9, false) (.cons (10, false) (.cons (15, false) (.cons (20, false) (.cons (21, false) (.cons (22, false) (.cons (23, true) .nil)))))))))))))))))))))))) 24 mixed (by kernel_rfl) (by kernel_rfl) (by kernel_rfl) hM.drew ?_
   replace hM := hM.drew
   refine D.valF hA rfl (fun _ => R.move rfl) rfl ?_; clear hA a; intro a hA
   refine D.valF hA rfl (fun _ => R.move rfl) rfl ?_; clear hA a; intro a hA
   refine D.valF hA rfl (fun _ => R.idxI hv (j := i) sl22 rfl rfl (by omega) (rfl)) rfl ?_; clear hA a; intro a hA
   refine D.val hA rfl (by kernel_rfl) (fun _ hM => R.loadI (hv.mem hM) sz3 rfl (by omega)) rfl ?_; clear hA a; intro a hA
   refine D.valF hA rfl (fun _ => R.move rfl) rfl ?_; clear hA a; intro a hA
   refine D.valF hA rfl (fun _ => R.move rfl) rfl ?_; clear hA a; intro a hA
   refine D.valF hA rfl (fun _ => R.idxI hu (j := j) sl22 rfl rfl (by omega) (rfl)) rfl ?_; clear hA a; intro a hA
   refine D.val hA rfl (by kernel_rfl) (fun _ hM => R.loadI (hu.mem hM) sz3 rfl (by omega)) rfl ?_; clear hA a; intro a hA
   refine D.valF hA rfl (fun _ => R.move rfl) rfl ?_; clear hA a; intro a hA
   refine D.valF hA rfl (fun _ => R.move rfl) rfl ?_; clear hA a; intro a hA
   refine D.valF hA rfl (fun _ => R.idxI hv (j := j) sl22 rfl rfl (by omega) (rfl)) rfl ?_; clear hA a; intro a hA
   refine D.val hA rfl (by kernel_rfl) (fun _ hM => R.loadI (hv.mem hM) sz3 rfl (by omega)) rfl ?_; clear hA a; intro a hA
   refine D.valF hA rfl (fun _ => R.move rfl) rfl ?_; clear hA a; intro a hA
   refine D.valF hA rfl (fun _ => R.move rfl) rfl ?_; clear hA a; intro a hA
   refine D.valF hA rfl (fun _ => R.idxI hu (j := i) sl22 rfl rfl (by omega) (rfl)) rfl ?_; clear hA a; intro a hA
   refine D.val hA rfl (by kernel_rfl) (fun _ hM => R.loadI (hu.mem hM) sz3 rfl (by omega)) rfl ?_; clear hA a; intro a hA
   refine D.call hA rfl (R.callF Try.func83 rfl rfl rfl) rfl (num_v (V.getD i 0) (by omega) (by omega) _) ?_; clear hA a
   rintro e w3 ⟨x4, rfl, sg5, hb⟩
   replace hM := hM.callB hb; clear hb
   refine ⟨.agg x4, rfl, hM, fun a hA => ?_⟩
   refine D.call hA rfl (R.callF Try.func83 rfl rfl rfl) rfl (num_v (U.getD j 0) (by omega) (by omega) _) ?_; clear hA a
   rintro e w4 ⟨x6, rfl, sg7, hb⟩
   replace hM := hM.callB hb; clear hb
   refine ⟨.agg x6, rfl, hM, fun a hA => ?_⟩
   refine D.call hA rfl (R.callF Try.func82 rfl rfl rfl) rfl (mul_v sg5 sg7 ((Lt.int (by omega) (by omega)).up (by decide)) ((Lt.int (by omega) (by omega)).up (by decide)) _) ?_; clear hA a
   rintro e w5 ⟨x8, rfl, sg9, hb⟩
   replace hM := hM.callB hb; clear hb
   refine ⟨.agg x8, rfl, hM, fun a hA => ?_⟩
   refine D.call hA rfl (R.callF Try.func83 rfl rfl rfl) rfl (num_v (V.getD j 0) (by omega) (by omega) _) ?_; clear hA a
   rintro e w6 ⟨x10, rfl, sg11, hb⟩
   replace hM := hM.callB hb; clear hb
   refine ⟨.agg x10, rfl, hM, fun a hA => ?_⟩
   refine D.call hA rfl (R.callF Try.func83 rfl rfl rfl) rfl (num_v (U.getD i 0) (by omega) (by omega) _) ?_; clear hA a
   rintro e w7 ⟨x12, rfl, sg13, hb⟩
   replace hM := hM.callB hb; clear hb
   refine ⟨.agg x12, rfl, hM, fun a hA => ?_⟩
   refine D.call hA rfl (R.callF Try.func82 rfl rfl rfl) rfl (mul_v sg11 sg13 ((Lt.int (by omega) (by omega)).up (by decide)) ((Lt.int (by omega) (by omega)).up (by decide)) _) ?_; clear hA a
   rintro e w8 ⟨x14, rfl, sg15, hb⟩
   replace hM := hM.callB hb; clear hb
   refine ⟨.agg x14, rfl, hM, fun a hA => ?_⟩
   refine D.call hA rfl (R.callF Try.func81 rfl rfl rfl) rfl (cmp_v sg9 sg15 (((Lt.int (by omega) (by omega)).mul (Lt.int (by omega) (by omega))).up (by decide)) (((Lt.int (by omega) (by omega)).mul (Lt.int (by omega) (by omega))).up (by decide)) _) ?_; clear hA a
   rintro e w9 ⟨rfl, hb⟩
   replace hM := hM.callB hb; clear hb
   refine ⟨.int .i64 (cmpI ((V.getD i 0) * (U.getD j 0) - ((V.getD j 0) * (U.getD i 0)))), rfl, hM, fun a hA => ?_⟩
   refine D.valF hA rfl (fun _ => R.assign rfl) rfl ?_; clear hA a; intro a hA
   refine D.done ?_
   replace hA : St 73 [(2, _), (3, _), (9, _)] a := hA.sub ((.cons rfl (.cons rfl (.cons rfl .nil))))
   refine Ends.seq ?_
   refine Ends.cut (fun (a : Act) (wv : World) => St 73 [(8, .bool (decide ((0 < (cmpI ((V.getD i 0) * (U.getD j 0) - ((V.getD j 0) * (U.getD i 0)))) ∨ ((cmpI ((V.getD i 0) * (U.getD j 0) - ((V.getD j 0) * (U.getD i 0)))) = 0 ∧ ((i : Int)) < ((j : Int)))))))] a ∧ Mem w nof [] wv) ?_ (fun k2 hJ => ?_)
   ·
    clear hA hM a; rintro a w10 ⟨hA, hM⟩
    refine Ends.ret1 Try.func72 Try.results72 hA rfl ?_
    have hcp := cmpI_pos (V.getD i 0 * U.getD j 0 - V.getD j 0 * U.getD i 0)
    have hcz := cmpI_zero (V.getD i 0 * U.getD j 0 - V.getD j 0 * U.getD i 0)
    exact ⟨by unfold btr; rw [if_neg (by omega)] <;> exact congrArg (fun z => Ending.returned (.bool z)) (decide_eq_decide.2 (by omega)), Mem.trans0 hbs hM.nilL⟩
   ·
    refine Ends.region ?_
    refine S.val hA (R.move rfl) rfl ?_; clear hA a; intro a hA
    refine S.val hA (R.gtr rfl rfl) rfl ?_; clear hA a; intro a hA
    refine S.val hA (R.move rfl) rfl ?_; clear hA a; intro a hA
    refine hA.split (d := 64) rfl ?_ ?_
    ·
     clear hA; intro hg16 hA
     refine S.no (dj := 64) hA (by kernel_rfl) rfl rfl rfl ?_; clear hA a; intro a hA
     refine S.no (dj := 64) hA (by kernel_rfl) rfl rfl rfl ?_; clear hA a; intro a hA
     refine S.no (dj := 64) hA (by kernel_rfl) rfl rfl rfl ?_; clear hA a; intro a hA
     refine S.noU (dj := 67) hA (by kernel_rfl) rfl rfl ?_; clear hA a; intro a hA
     refine S.noU (dj := 67) hA (by kernel_rfl) rfl rfl ?_; clear hA a; intro a hA
     refine S.noU (dj := 67) hA (by kernel_rfl) rfl rfl ?_; clear hA a; intro a hA
     refine S.no (dj := 64) hA (by kernel_rfl) rfl rfl rfl ?_; clear hA a; intro a hA
     refine S.val hA (R.pickT rfl rfl) rfl ?_; clear hA a; intro a hA
     refine S.val hA (R.assign rfl) rfl ?_; clear hA a; intro a hA
     refine S.done ?_
     replace hA : St 73 [(8, _)] a := hA.sub ((.cons rfl .nil))
     exact hJ _ _ ⟨hA.sub (.cons (by first | rfl | exact congrArg (fun b => some (Value.bool b)) (by first | exact decide_eq_decide.2 (by omega) | exact or_bool (by omega) | exact and_bool (by omega) | (simp; done) | (simp [hg16]; done) | (have h80 := hg16; (try simp at h80); simp [h80]; done) | exact (decide_eq_false (fun h9 => hg16 h9.1)).symm)) .nil), hM⟩
    ·
     clear hA; intro hg16 hA
     refine S.valg (dj := 64) hA (by kernel_rfl) rfl (R.move rfl) rfl ?_; clear hA a; intro a hA
     refine S.valg (dj := 64) hA (by kernel_rfl) rfl (R.eql rfl rfl) rfl ?_; clear hA a; intro a hA
     refine S.valg (dj := 64) hA (by kernel_rfl) rfl (R.move rfl) rfl ?_; clear hA a; intro a hA
     refine hA.split (d := 67) rfl ?_ ?_
     ·
      clear hA; intro hg17 hA
      refine S.valg (dj := 67) hA (by kernel_rfl) rfl (R.move rfl) rfl ?_; clear hA a; intro a hA
      refine S.valg (dj := 67) hA (by kernel_rfl) rfl (R.move rfl) rfl ?_; clear hA a; intro a hA
      refine S.valg (dj := 67) hA (by kernel_rfl) rfl (R.lss rfl rfl) rfl ?_; clear hA a; intro a hA
      refine S.valg (dj := 64) hA (by kernel_rfl) rfl (R.pickT rfl rfl) rfl ?_; clear hA a; intro a hA
      refine S.val hA (R.pickF rfl rfl) rfl ?_; clear hA a; intro a hA
      refine S.val hA (R.assign rfl) rfl ?_; clear hA a; intro a hA
      refine S.done ?_
      replace hA : St 73 [(8, _)] a := hA.sub ((.cons rfl .nil))
      exact hJ _ _ ⟨hA.sub (.cons (by first | rfl | exact congrArg (fun b => some (Value.bool b)) (by first | exact decide_eq_decide.2 (by omega) | exact or_bool (by omega) | exact and_bool (by omega) | (simp; done) | (simp [hg16, hg17]; done) | (have h80 := hg16; (try simp at h80); have h81 := hg17; (try simp at h81); simp [h80, h81]; done) | exact (decide_eq_false (fun h9 => hg16 h9.1)).symm | exact (decide_eq_false (fun h9 => hg17 h9.1)).symm)) .nil), hM⟩
     ·
      clear hA; intro hg17 hA
      refine S.no (dj := 67) hA (by kernel_rfl) rfl rfl rfl ?_; clear hA a; intro a hA
      refine S.no (dj := 67) hA (by kernel_rfl) rfl rfl rfl ?_; clear hA a; intro a hA
      refine S.no (dj := 67) hA (by kernel_rfl) rfl rfl rfl ?_; clear hA a; intro a hA
      refine S.valg (dj := 64) hA (by kernel_rfl) rfl (R.pickF rfl rfl) rfl ?_; clear hA a; intro a hA
      refine S.val hA (R.pickF rfl rfl) rfl ?_; clear hA a; intro a hA
      refine S.val hA (R.assign rfl) rfl ?_; clear hA a; intro a hA
      refine S.done ?_
      replace hA : St 73 [(8, _)] a := hA.sub ((.cons rfl .nil))
      exact hJ _ _ ⟨hA.sub (.cons (by first | rfl | exact congrArg (fun b => some (Value.bool b)) (by first | exact decide_eq_decide.2 (by omega) | exact or_bool (by omega) | exact and_bool (by omega) | (simp; done) | (simp [hg16, hg17]; done) | (have h80 := hg16; (try simp at h80); have h81 := hg17; (try simp at h81); simp [h80, h81]; done) | exact (decide_eq_false (fun h9 => hg16 h9.1)).symm | exact (decide_eq_false (fun h9 => hg17 h9.1)).symm)) .nil), hM⟩
 ·
  refine Ends.region ?_
  refine S.val hA (R.move rfl) rfl ?_; clear hA a; intro a hA
  refine S.val hA (R.move rfl) rfl ?_; clear hA a; intro a hA
  refine S.val hA (R.idxI hu (j := i) sl22 rfl rfl (by omega) (rfl)) rfl ?_; clear hA a; intro a hA
  refine S.val hA (R.loadI (hu.mem hM) sz3 rfl (by omega)) rfl ?_; clear hA a; intro a hA
  refine S.val hA (R.eql rfl rfl) rfl ?_; clear hA a; intro a hA
  refine S.val hA (R.move rfl) rfl ?_; clear hA a; intro a hA
  refine hA.split (d := 15) rfl ?_ ?_
  ·
   clear hA; intro hg18 hA
   refine S.no (dj := 15) hA (by kernel_rfl) rfl rfl rfl ?_; clear hA a; intro a hA
   refine S.no (dj := 15) hA (by kernel_rfl) rfl rfl rfl ?_; clear hA a; intro a hA
   refine S.no (dj := 15) hA (by kernel_rfl) rfl rfl rfl ?_; clear hA a; intro a hA
   refine S.no (dj := 15) hA (by kernel_rfl) rfl rfl rfl ?_; clear hA a; intro a hA
   refine S.no (dj := 15) hA (by kernel_rfl) rfl rfl rfl ?_; clear hA a; intro a hA
   refine S.val hA (R.pickT rfl rfl) rfl ?_; clear hA a; intro a hA
   refine S.done ?_
   replace hA : St 73 [(0, _), (1, _), (2, _), (3, _), (21, _)] a := hA.sub ((.cons rfl (.cons rfl (.cons rfl (.cons rfl (.cons rfl .nil))))))
   exact hJ _ _ ⟨hA.sub (.cons rfl (.cons rfl (.cons rfl (.cons rfl (.cons (by first | rfl | exact congrArg (fun b => some (Value.bool b)) (by first | exact decide_eq_decide.2 (by omega) | exact or_bool (by omega) | exact and_bool (by omega) | (simp; done) | (simp [hg18]; done) | (have h80 := hg18; (try simp at h80); simp [h80]; done) | exact (decide_eq_false (fun h9 => hg18 h9.1)).symm)) .nil))))), hM⟩
  ·
   clear hA; intro hg18 hA
   refine S.valg (dj := 15) hA (by kernel_rfl) rfl (R.move rfl) rfl ?_; clear hA a; intro a hA
   refine S.valg (dj := 15) hA (by kernel_rfl) rfl (R.move rfl) rfl ?_; clear hA a; intro a hA
   refine S.valg (dj := 15) hA (by kernel_rfl) rfl (R.idxI hu (j := j) sl22 rfl rfl (by omega) (rfl)) rfl ?_; clear hA a; intro a hA
   refine S.valg (dj := 15) hA (by kernel_rfl) rfl (R.loadI (hu.mem hM) sz3 rfl (by omega)) rfl ?_; clear hA a; intro a hA
   refine S.valg (dj := 15) hA (by kernel_rfl) rfl (R.eql rfl rfl) rfl ?_; clear hA a; intro a hA
   refine S.val hA (R.pickF rfl rfl) rfl ?_; clear hA a; intro a hA
   refine S.done ?_
   replace hA : St 73 [(0, _), (1, _), (2, _), (3, _), (21, _)] a := hA.sub ((.cons rfl (.cons rfl (.cons rfl (.cons rfl (.cons rfl .nil))))))
   exact hJ _ _ ⟨hA.sub (.cons rfl (.cons rfl (.cons rfl (.cons rfl (.cons (by first | rfl | exact congrArg (fun b => some (Value.bool b)) (by first | exact decide_eq_decide.2 (by omega) | exact or_bool (by omega) | exact and_bool (by omega) | (simp; done) | (simp [hg18]; done) | (have h80 := hg18; (try simp at h80); simp [h80]; done) | exact (decide_eq_false (fun h9 => hg18 h9.1)).symm)) .nil))))), hM⟩
end Go.Proofs.Ytnikajkklocncaa
namespace Go.Proofs.Ytnikajkklocncaa
open Go.RowKit
def frs (B : Nat) (a : Option Addr) : Prop := ∀ p, a = some p → B ≤ p.block
theorem frs.mono {B C : Nat} {a : Option Addr} (h : frs C a) (hb : B ≤ C) : frs B a := fun p hp => Nat.le_trans hb (h p hp)
def rd (a : Option Addr) (c : Nat) (X : List Int) : Ck :=
  ⟨fun b => X ≠ [] ∧ ∃ p, a = some p ∧ p.block = b, fun w => IntSl w (.slice a X.length c) X, fun w w' h hw => by
    obtain ⟨a', c', he, h1, h2, h3, h4⟩ := hw
    refine ⟨a', c', he, h1, h2, h3, fun hne => ?_⟩
    obtain ⟨b, off, hb, hlt, hc⟩ := h4 hne
    cases he
    have hh := h b ⟨hne, _, hb, rfl⟩
    refine ⟨b, off, hb, ?_, fun i hi => ?_⟩
    · have h5 := Array.getElem?_eq_some_iff.1 (hh.trans (Array.getElem?_eq_getElem hlt))
      exact h5.1
    · rw [← hc i hi]; simp only [World.cell?, hh]⟩
theorem Mem.rd {w0 w : World} {F : Nat → Prop} {L : List Ck} {k c : Nat} {a : Option Addr} {X : List Int} (hM : Mem w0 F L w) (hk : ith L k = some (rd a c X)) : IntSl w (.slice a X.length c) X := hM.mem hk
theorem Mem.callRd {w0 w w' : World} {F : Nat → Prop} {L : List Ck} {c : Nat} {a : Option Addr} {X : List Int} (hM : Mem w0 F L w) (hb : Below w.heap.size w w') (h : IntSl w' (.slice a X.length c) X) (hf : frs w.heap.size a) : Mem w0 F (Go.Proofs.Ytnikajkklocncaa.rd a c X :: L) w' := by
  have h1 := hM.callB hb
  refine ⟨h1.os, h1.tape, h1.output, h1.size, h1.old, fun d hd => ?_, fun d hd b hdb => ?_, List.pairwise_cons.2 ⟨fun d hd b hab hdb => ?_, h1.apart⟩⟩
  · rcases List.mem_cons.1 hd with rfl | hd
    · exact h
    · exact h1.holds d hd
  · rcases List.mem_cons.1 hd with rfl | hd
    · obtain ⟨hne, p, hp, rfl⟩ := hdb
      obtain ⟨a', c', he, -, -, -, h4⟩ := h
      obtain ⟨b, off, hb', hlt, -⟩ := h4 hne
      cases he
      rw [hp] at hb'
      cases hb'
      have := hf _ hp
      have := hM.size
      exact ⟨hlt, fun g => absurd g (by simp only at *; omega)⟩
    · exact h1.inb d hd b hdb
  · obtain ⟨hne, p, hp, rfl⟩ := hab
    have h2 := hf _ hp
    have h3 := (hM.inb d hd _ hdb).1
    omega
theorem Mem.ptFresh {w0 w : World} {L : List Ck} {k b : Nat} {cs : Array Value} {t : TypeId} (hM : Mem w0 nof L w) (hk : ith L k = some (pt b cs t)) {o : Nat} : frs w0.heap.size (some ⟨b, o, none⟩) := fun p hp => by
  cases hp
  rw [ith_eq] at hk
  have hm := List.mem_of_getElem? hk
  exact Nat.le_of_not_lt fun h => (hM.inb _ hm b rfl).2 h
theorem Mem.ownFresh {w0 w : World} {L : List Ck} {k n m sz : Nat} {c : Nat} {e : TypeId} {a : Option Addr} {xs : List Value} (hM : Mem w0 nof L w) (hk : ith L k = some (own e sz (.slice a n c) m xs)) : frs w0.heap.size a := fun p hp => by
  subst hp
  rw [ith_eq] at hk
  have hm := List.mem_of_getElem? hk
  exact Nat.le_of_not_lt fun h => (hM.inb _ hm p.block rfl).2 h
end Go.Proofs.Ytnikajkklocncaa
